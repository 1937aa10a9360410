import Derived.KernelRfl
import Derived.Laws.Strings
import Derived.Laws.StructEq
import Derived.MapKept
import Derived.Laws.IdiomStrings
import Derived.Laws.MakeOwn
import Derived.ChangeKeysEq
import Derived.Test.YtahkjijkflobhaaGreatDoorFsuA
set_option linter.unusedSimpArgs false
set_option linter.unusedVariables false
set_option linter.unusedSectionVars false
set_option linter.defProp false
open Go.Proofs.Tryz
set_option linter.defProp false
set_option maxRecDepth 100000
namespace Go.Proofs.YtahkjijkflobhaaGreatDoor
open Go Go.Abs
def eR{o:Option ei}{n:Nat}{r:List sv}{c:cB}(h:o=some (ei.mk n r c):=by kernel_rfl):o=some (ei.mk n r (sub c 0)):=okc h
def fD(r k:cB)(h:At r 0 k:=by exact ahA _):eqs r 0 k:=yJ r k 0 h
def TP:Ko [] f253:=by apply Subtype.mk; cbv
def ai1:=TP.1
def abV:=ei.mk 1 [.tmp 2] (sub ai1 0)
def TE:Ko [] f243:=by apply Subtype.mk; cbv
def aiV:=TE.1
def abP:=ei.mk 2 [.tmp 4,.tmp 5] (sub aiV 0)
def Sw:Ko [] f162:=by apply Subtype.mk; cbv
def aia:=Sw.1
def aa6:=ei.mk 2 [.dC 4 6,.tmp 5] (sub aia 0)
def Tg:Ko [] f206:=by apply Subtype.mk; cbv
def aiG:=Tg.1
def aby:=ei.mk 2 [.dC 4 6,.tmp 5] (sub aiG 0)
def Th:Ko [] f207:=by apply Subtype.mk; cbv
def adq:=Th.1
def HZ:=ei.mk 1 [.tmp 2] (sub adq 0)
abbrev Mv:=sub adq 15
def TT:Ko [] f261:=by apply Subtype.mk; cbv
def adA:=TT.1
def abX:=ei.mk 3 [.tmp 6,.tmp 7] (sub adA 0)
abbrev Yx:=sub adA 9
def TU:Ko [] f262:=by apply Subtype.mk; cbv
def ai4:=TU.1
def abY:=ei.mk 2 [.tmp 4] (sub ai4 0)
def TV:Ko [] f263:=by apply Subtype.mk; cbv
def ai5:=TV.1
def abZ:=ei.mk 2 [.tmp 4] (sub ai5 0)
def oB:=by
 have h:=bO (fD ai1 TP.1) (bO (fD aiV TE.1) (bO (fD aia Sw.1) (bO (fD aiG Tg.1) (bO (fD adq Th.1) (bO (fD adA TT.1) (bO (fD ai4 TU.1) (fD ai5 TV.1)))))));simp only[TP,TE,Sw,Tg,Th,TT,TU,TV,zi,seval] at h;exact h
def aht:=oB.1
def anE:=oB.2.1
def acM:=oB.2.2.1
def Wv:=oB.2.2.2.1
def wu:=oB.2.2.2.2.1
def Hh:=oB.2.2.2.2.2.1
def anH:=oB.2.2.2.2.2.2.1
def anI:=oB.2.2.2.2.2.2.2
def Ti:Ko [] f208:=by apply Subtype.mk; cbv
def aiH:=Ti.1
def abz:=ei.mk 2 [.tmp 4,.tmp 5] (sub aiH 0)
def R7:Ko [] f130:=by apply Subtype.mk; cbv
def ahV:=R7.1
def aaW:=ei.mk 3 [.tmp 6,.tmp 7] (sub ahV 0)
def ae3:Ko [] f86:=by apply Subtype.mk; cbv
def b86:=ae3.1
def akx:=ei.mk 2 [.dC 4 6,.tmp 5] (sub b86 0)
def Tj:Ko [9] f209:=by apply Subtype.mk; cbv
def adr:=Tj.1
def Q2:=ei.mk 2 [.tmp 4] (sub adr 0)
def ami:uI [9] f209 Q2:=eR
abbrev Yi:=sub adr 7
def TQ:Ko [] f254:=by apply Subtype.mk; cbv
def ai2:=TQ.1
def abW:=ei.mk 2 [.tmp 4] (sub ai2 0)
def S8:Ko [1000255,1000256] f197:=by apply Subtype.mk; cbv
def aiz:=S8.1
def QZ:=ei.mk 2 [] (sub aiz 0)
def ame:uI [1000255,1000256] f197 QZ:=eR
def TR:Ko [1000255,1000294] f258:=by apply Subtype.mk; cbv
def ai3:=TR.1
def Q6:=ei.mk 2 [] (sub ai3 0)
def amp:uI [1000255,1000294] f258 Q6:=eR
def S9:Ko [1000214,1000257,2000197] f198:=by apply Subtype.mk; cbv
def aiA:=S9.1
def Q0:=ei.mk 4 [] (sub aiA 0)
def amf:uI [1000214,1000257,2000197] f198 Q0:=eR
def oE:=by
 have h:=bO (fD aiH Ti.1) (bO (fD ahV R7.1) (bO (fD b86 ae3.1) (bO (fD adr Tj.1) (bO (fD ai2 TQ.1) (bO (fD aiz S8.1) (bO (fD ai3 TR.1) (fD aiA S9.1)))))));simp only[Ti,R7,ae3,Tj,TQ,S8,TR,S9,zi,seval] at h;exact h
def anr:=oE.1
def JP:=oE.2.1
def E86:=oE.2.2.1
def B5:=oE.2.2.2.1
def anG:=oE.2.2.2.2.1
def acS:=oE.2.2.2.2.2.1
def acX:=oE.2.2.2.2.2.2.1
def PL:=oE.2.2.2.2.2.2.2
def Te:Ko [1000214,1000260,2000197] f204:=by apply Subtype.mk; cbv
def aiE:=Te.1
def Q1:=ei.mk 3 [] (sub aiE 0)
def amh:uI [1000214,1000260,2000197] f204 Q1:=eR
def Tf:Ko [] f205:=by apply Subtype.mk; cbv
def aiF:=Tf.1
def abx:=ei.mk 2 [] (sub aiF 0)
def S7:Ko [] f196:=by apply Subtype.mk; cbv
def aiy:=S7.1
def abt:=ei.mk 3 [.tmp 6] (sub aiy 0)
def Tm:Ko [] f211:=by apply Subtype.mk; cbv
def aiJ:=Tm.1
def abB:=ei.mk 2 [.tmp 4] (sub aiJ 0)
def Tb:Ko [] f200:=by apply Subtype.mk; cbv
def aiC:=Tb.1
def abv:=ei.mk 2 [.dC 4 3,.tmp 5] (sub aiC 0)
def Tw:Ko [] f227:=by apply Subtype.mk; cbv
def aiP:=Tw.1
def abI:=ei.mk 3 [.dC 6 3,.tmp 7] (sub aiP 0)
def R3:Ko [] f126:=by apply Subtype.mk; cbv
def ahS:=R3.1
def aaT:=ei.mk 4 [.dC 8 3,.tmp 9,.tmp 10] (sub ahS 0)
def R5:Ko [] f128:=by apply Subtype.mk; cbv
def ahT:=R5.1
def aaU:=ei.mk 4 [.dC 8 3,.tmp 9] (sub ahT 0)
def ng:=by
 have h:=bO (fD aiE Te.1) (bO (fD aiF Tf.1) (bO (fD aiy S7.1) (bO (fD aiJ Tm.1) (bO (fD aiC Tb.1) (bO (fD aiP Tw.1) (bO (fD ahS R3.1) (fD ahT R5.1)))))));simp only[Te,Tf,S7,Tm,Tb,Tw,R3,R5,zi,seval] at h;exact h
def Wu:=ng.1
def acT:=ng.2.1
def He:=ng.2.2.1
def ahq:=ng.2.2.2.1
def ahp:=ng.2.2.2.2.1
def Ww:=ng.2.2.2.2.2.1
def acH:=ng.2.2.2.2.2.2.1
def acI:=ng.2.2.2.2.2.2.2
def R6:Ko [] f129:=by apply Subtype.mk; cbv
def ahU:=R6.1
def aaV:=ei.mk 3 [.dC 6 3,.tmp 7,.tmp 8] (sub ahU 0)
def TW:Ko [] f264:=by apply Subtype.mk; cbv
def adB:=TW.1
def ab0:=ei.mk 2 [.tmp 4] (sub adB 0)
abbrev Yy:=sub adB 7
def Tl:Ko [] f210:=by apply Subtype.mk; cbv
def aiI:=Tl.1
def abA:=ei.mk 2 [.tmp 4] (sub aiI 0)
def TY:Ko [] f266:=by apply Subtype.mk; cbv
def ai7:=TY.1
def ab2:=ei.mk 5 [.tmp 6] (sub ai7 0)
def T4:Ko [] f296:=by apply Subtype.mk; cbv
def adE:=T4.1
def ab5:=ei.mk 2 [.tmp 4] (sub adE 0)
abbrev YA:=sub adE 7
def TX:Ko [] f265:=by apply Subtype.mk; cbv
def ai6:=TX.1
def ab1:=ei.mk 2 [.tmp 4] (sub ai6 0)
def Tn:Ko [] f212:=by apply Subtype.mk; cbv
def aiK:=Tn.1
def abC:=ei.mk 3 [.tmp 6] (sub aiK 0)
def R8:Ko [] f131:=by apply Subtype.mk; cbv
def ade:=R8.1
def aaX:=ei.mk 5 [.dC 10 3,.tmp 11,.tmp 12] (sub ade 0)
abbrev MO:=sub ade 86
def nh:=by
 have h:=bO (fD ahU R6.1) (bO (fD adB TW.1) (bO (fD aiI Tl.1) (bO (fD ai7 TY.1) (bO (fD adE T4.1) (bO (fD ai6 TX.1) (bO (fD aiK Tn.1) (fD ade R8.1)))))));simp only[R6,TW,Tl,TY,T4,TX,Tn,R8,zi,seval] at h;exact h
def PH:=nh.1
def JV:=nh.2.1
def ant:=nh.2.2.1
def ahu:=nh.2.2.2.1
def JW:=nh.2.2.2.2.1
def anJ:=nh.2.2.2.2.2.1
def anu:=nh.2.2.2.2.2.2.1
def yz:=nh.2.2.2.2.2.2.2
def Su:Ko [] f160:=by apply Subtype.mk; cbv
def adg:=Su.1
def QS:=ei.mk 3 [.tmp 6,.tmp 7] (sub adg 0)
abbrev Mu:=sub adg 9
def T1:Ko [] f286:=by apply Subtype.mk; cbv
def ai9:=T1.1
def ab4:=ei.mk 2 [.tmp 4] (sub ai9 0)
def Ss:Ko [] f154:=by apply Subtype.mk; cbv
def ah8:=Ss.1
def aa4:=ei.mk 2 [.tmp 4] (sub ah8 0)
def TD:Ko [] f239:=by apply Subtype.mk; cbv
def aiU:=TD.1
def abO:=ei.mk 1 [.tmp 2] (sub aiU 0)
def aey:Ko [] f41:=by apply Subtype.mk; cbv
def b41:=aey.1
def akp:=ei.mk 2 [.tmp 4] (sub b41 0)
def afe:Ko [] f98:=by apply Subtype.mk; cbv
def b98:=afe.1
def akH:=ei.mk 2 [.tmp 4] (sub b98 0)
def aff:Ko [] f99:=by apply Subtype.mk; cbv
def b99:=aff.1
def akI:=ei.mk 2 [.tmp 4] (sub b99 0)
def RB:Ko [] f100:=by apply Subtype.mk; cbv
def ac8:=RB.1
def aaI:=ei.mk 2 [.tmp 4] (sub ac8 0)
abbrev XN:=sub ac8 15
def ni:=by
 have h:=bO (fD adg Su.1) (bO (fD ai9 T1.1) (bO (fD ah8 Ss.1) (bO (fD aiU TD.1) (bO (fD b41 aey.1) (bO (fD b98 afe.1) (bO (fD b99 aff.1) (fD ac8 RB.1)))))));simp only[Su,T1,Ss,TD,aey,afe,aff,RB,zi,seval] at h;exact h
def x8:=ni.1
def anL:=ni.2.1
def ahj:=ni.2.2.1
def anC:=ni.2.2.2.1
def E41:=ni.2.2.2.2.1
def E98:=ni.2.2.2.2.2.1
def E99:=ni.2.2.2.2.2.2.1
def F1:=ni.2.2.2.2.2.2.2
def RD:Ko [] f101:=by apply Subtype.mk; cbv
def ac9:=RD.1
def aaJ:=ei.mk 3 [.tmp 6] (sub ac9 0)
abbrev XO:=sub ac9 15
def R9:Ko [1000214] f132:=by apply Subtype.mk; cbv
def ahW:=R9.1
def ym:=ei.mk 4 [.tmp 8,.tmp 9,.tmp 10] (sub ahW 0)
def al0:uI [1000214] f132 ym:=eR
def Sk:Ko [] f145:=by apply Subtype.mk; cbv
def adf:=Sk.1
def L4:=ei.mk 2 [.tmp 4] (sub adf 0)
abbrev Mt:=sub adf 7
def Tp:Ko [] f213:=by apply Subtype.mk; cbv
def ads:=Tp.1
def Ma:=ei.mk 2 [.tmp 4] (sub ads 0)
abbrev Yj:=sub ads 17
def Tq:Ko [] f215:=by apply Subtype.mk; cbv
def aiL:=Tq.1
def abD:=ei.mk 2 [.tmp 3] (sub aiL 0)
def alM:Ko [] f217:=by apply Subtype.mk; cbv
def an2:=alM.1
def ake:=ei.mk 2 [.tmp 4] (sub an2 0)
def aew:Ko [] f38:=by apply Subtype.mk; cbv
def b38:=aew.1
def akn:=ei.mk 0 [.dC 0 3] (sub b38 0)
def S4:Ko [] f193:=by apply Subtype.mk; cbv
def WR:=S4.1
def abp:=ei.mk 2 [.tmp 4,.tmp 5] (sub WR 0)
abbrev Yg:=sub WR 19
abbrev agi:=sub WR 39
def S6:Ko [] f195:=by apply Subtype.mk; cbv
def aix:=S6.1
def abr:=ei.mk 1 [.tmp 2,.tmp 3,.tmp 4] (sub aix 0)
def nj:=by
 have h:=bO (fD ac9 RD.1) (bO (fD ahW R9.1) (bO (fD adf Sk.1) (bO (fD ads Tp.1) (bO (fD aiL Tq.1) (bO (fD b38 aew.1) (bO (fD WR S4.1) (fD aix S6.1)))))));simp only[RD,R9,Sk,Tp,Tq,aew,S4,S6,zi,seval] at h;exact h
def F2:=nj.1
def Hb:=nj.2.1
def x7:=nj.2.2.1
def F8:=nj.2.2.2.1
def anv:=nj.2.2.2.2.1
def E38:=nj.2.2.2.2.2.1
def JU:=nj.2.2.2.2.2.2.1
def Wt:=nj.2.2.2.2.2.2.2
end Go.Proofs.YtahkjijkflobhaaGreatDoor
set_option linter.defProp false
set_option maxRecDepth 100000
namespace Go.Proofs.YtahkjijkflobhaaGreatDoor
open Go Go.Abs
def ae5:Ko [] f88:=by apply Subtype.mk; cbv
def b88:=ae5.1
def akz:=ei.mk 1 [.tmp 2] (sub b88 0)
def Tr:Ko [] f218:=by apply Subtype.mk; cbv
def adt:=Tr.1
def abE:=ei.mk 3 [.tmp 6,.tmp 7] (sub adt 0)
abbrev Yk:=sub adt 9
def ae6:Ko [] f89:=by apply Subtype.mk; cbv
def b89:=ae6.1
def akA:=ei.mk 3 [.tmp 6] (sub b89 0)
def Sx:Ko [] f163:=by apply Subtype.mk; cbv
def aib:=Sx.1
def aa7:=ei.mk 1 [.tmp 2] (sub aib 0)
def ae4:Ko [] f87:=by apply Subtype.mk; cbv
def b87:=ae4.1
def aky:=ei.mk 1 [.dC 2 2] (sub b87 0)
def Tt:Ko [] f222:=by apply Subtype.mk; cbv
def aiM:=Tt.1
def abF:=ei.mk 2 [.tmp 4] (sub aiM 0)
def Ts:Ko [] f221:=by apply Subtype.mk; cbv
def adu:=Ts.1
def Mb:=ei.mk 2 [.tmp 4] (sub adu 0)
abbrev GG:=sub adu 7
def ae8:Ko [] f92:=by apply Subtype.mk; cbv
def b92:=ae8.1
def akB:=ei.mk 2 [.tmp 4] (sub b92 0)
def oG:=by
 have h:=bO (fD b88 ae5.1) (bO (fD adt Tr.1) (bO (fD b89 ae6.1) (bO (fD aib Sx.1) (bO (fD b87 ae4.1) (bO (fD aiM Tt.1) (bO (fD adu Ts.1) (fD b92 ae8.1)))))));simp only[ae5,Tr,ae6,Sx,ae4,Tt,Ts,ae8,zi,seval] at h;exact h
def E88:=oG.1
def Hf:=oG.2.1
def E89:=oG.2.2.1
def ahk:=oG.2.2.2.1
def E87:=oG.2.2.2.2.1
def anw:=oG.2.2.2.2.2.1
def wv:=oG.2.2.2.2.2.2.1
def E92:=oG.2.2.2.2.2.2.2
def SA:Ko [] f165:=by apply Subtype.mk; cbv
def aid:=SA.1
def aa8:=ei.mk 2 [.tmp 3] (sub aid 0)
def Sy:Ko [] f164:=by apply Subtype.mk; cbv
def aic:=Sy.1
def QT:=ei.mk 2 [.tmp 4] (sub aic 0)
def Sc:Ko [1000220,1000219] f135:=by apply Subtype.mk; cbv
def ahY:=Sc.1
def QO:=ei.mk 5 [.tmp 10,.tmp 11] (sub ahY 0)
def al2:uI [1000220,1000219] f135 QO:=eR
def Sd:Ko [1000220,1000223,2000092] f136:=by apply Subtype.mk; cbv
def ahZ:=Sd.1
def L1:=ei.mk 4 [.dC 8 3,.tmp 9,.tmp 10] (sub ahZ 0)
def al3:uI [1000220,1000223,2000092] f136 L1:=eR
def Sn:Ko [] f148:=by apply Subtype.mk; cbv
def WO:=Sn.1
def aa2:=ei.mk 3 [.dC 6 3,.tmp 7] (sub WO 0)
abbrev X0:=sub WO 7
abbrev agf:=sub WO 23
def Tv:Ko [] f226:=by apply Subtype.mk; cbv
def aiO:=Tv.1
def abH:=ei.mk 3 [.tmp 6,.tmp 7] (sub aiO 0)
def ae7:Ko [3] f90:=by apply Subtype.mk; cbv
def b90:=ae7.1
def adW:=ei.mk 1 [.tmp 2] (sub b90 0)
def aso:uI [3] f90 adW:=eR
abbrev afA:=sub b90 9
abbrev amD:=sub b90 25
def ae9:Ko [] f93:=by apply Subtype.mk; cbv
def b93:=ae9.1
def akC:=ei.mk 2 [.tmp 4,.tmp 5] (sub b93 0)
def oH:=by
 have h:=bO (fD aid SA.1) (bO (fD aic Sy.1) (bO (fD ahY Sc.1) (bO (fD ahZ Sd.1) (bO (fD WO Sn.1) (bO (fD aiO Tv.1) (bO (fD b90 ae7.1) (fD b93 ae9.1)))))));simp only[SA,Sy,Sc,Sd,Sn,Tv,ae7,ae9,zi,seval] at h;exact h
def ani:=oH.1
def ahl:=oH.2.1
def Nd:=oH.2.2.1
def acJ:=oH.2.2.2.1
def Ng:=oH.2.2.2.2.1
def acU:=oH.2.2.2.2.2.1
def E90:=oH.2.2.2.2.2.2.1
def E93:=oH.2.2.2.2.2.2.2
def SB:Ko [] f166:=by apply Subtype.mk; cbv
def adh:=SB.1
def aa9:=ei.mk 5 [] (sub adh 0)
abbrev X2:=sub adh 8
def SE:Ko [] f169:=by apply Subtype.mk; cbv
def aif:=SE.1
def abc:=ei.mk 2 [.tmp 4,.tmp 5] (sub aif 0)
def TF:Ko [] f244:=by apply Subtype.mk; cbv
def adx:=TF.1
def abQ:=ei.mk 3 [.tmp 6,.tmp 7] (sub adx 0)
abbrev Yo:=sub adx 9
def TG:Ko [] f245:=by apply Subtype.mk; cbv
def aiW:=TG.1
def abR:=ei.mk 2 [.tmp 4] (sub aiW 0)
def SC:Ko [] f167:=by apply Subtype.mk; cbv
def adi:=SC.1
def aba:=ei.mk 3 [] (sub adi 0)
abbrev X3:=sub adi 4
def afa:Ko [] f94:=by apply Subtype.mk; cbv
def b94:=afa.1
def akD:=ei.mk 3 [.tmp 6] (sub b94 0)
def SD:Ko [] f168:=by apply Subtype.mk; cbv
def aie:=SD.1
def abb:=ei.mk 3 [.tmp 4] (sub aie 0)
def TS:Ko [] f259:=by apply Subtype.mk; cbv
def adz:=TS.1
def Q7:=ei.mk 2 [.tmp 4] (sub adz 0)
abbrev Yw:=sub adz 7
def nk:=by
 have h:=bO (fD adh SB.1) (bO (fD aif SE.1) (bO (fD adx TF.1) (bO (fD aiW TG.1) (bO (fD adi SC.1) (bO (fD b94 afa.1) (bO (fD aie SD.1) (fD adz TS.1)))))));simp only[SB,SE,TF,TG,SC,afa,SD,TS,zi,seval] at h;exact h
def Nj:=nk.1
def anj:=nk.2.1
def Hg:=nk.2.2.1
def anF:=nk.2.2.2.1
def Nk:=nk.2.2.2.2.1
def E94:=nk.2.2.2.2.2.1
def acN:=nk.2.2.2.2.2.2.1
def F9:=nk.2.2.2.2.2.2.2
def Sh:Ko [1000202,1000228,1000229] f141:=by apply Subtype.mk; cbv
def ah2:=Sh.1
def HU:=ei.mk 5 [.tmp 10,.tmp 11] (sub ah2 0)
def al5:uI [1000202,1000228,1000229] f141 HU:=eR
def Sr:Ko [] f153:=by apply Subtype.mk; cbv
def ah7:=Sr.1
def QR:=ei.mk 1 [.tmp 2] (sub ah7 0)
def aev:Ko [] f37:=by apply Subtype.mk; cbv
def b37:=aev.1
def akm:=ei.mk 1 [.dC 2 8] (sub b37 0)
def Sq:Ko [] f152:=by apply Subtype.mk; cbv
def ah6:=Sq.1
def aa3:=ei.mk 3 [.tmp 6] (sub ah6 0)
def TC:Ko [] f238:=by apply Subtype.mk; cbv
def aiT:=TC.1
def abN:=ei.mk 3 [.tmp 4] (sub aiT 0)
def TB:Ko [] f237:=by apply Subtype.mk; cbv
def aiS:=TB.1
def abM:=ei.mk 2 [.tmp 4] (sub aiS 0)
def T0:Ko [] f275:=by apply Subtype.mk; cbv
def adC:=T0.1
def ab3:=ei.mk 2 [.tmp 4] (sub adC 0)
abbrev Yz:=sub adC 7
def ae2:Ko [] f85:=by apply Subtype.mk; cbv
def b85:=ae2.1
def akw:=ei.mk 2 [.tmp 4] (sub b85 0)
def nn:=by
 have h:=bO (fD ah2 Sh.1) (bO (fD ah7 Sr.1) (bO (fD b37 aev.1) (bO (fD ah6 Sq.1) (bO (fD aiT TC.1) (bO (fD aiS TB.1) (bO (fD adC T0.1) (fD b85 ae2.1)))))));simp only[Sh,Sr,aev,Sq,TC,TB,T0,ae2,zi,seval] at h;exact h
def Nf:=nn.1
def Hc:=nn.2.1
def E37:=nn.2.2.1
def ang:=nn.2.2.2.1
def anB:=nn.2.2.2.2.1
def anA:=nn.2.2.2.2.2.1
def Nn:=nn.2.2.2.2.2.2.1
def E85:=nn.2.2.2.2.2.2.2
def Sv:Ko [] f161:=by apply Subtype.mk; cbv
def ah9:=Sv.1
def aa5:=ei.mk 2 [.tmp 4] (sub ah9 0)
def Tu:Ko [] f225:=by apply Subtype.mk; cbv
def aiN:=Tu.1
def abG:=ei.mk 2 [.tmp 4] (sub aiN 0)
def Se:Ko [8000224,1001004005] f137:=by apply Subtype.mk; cbv
def Nv:=Se.1
def QP:=ei.mk 2 [.dC 4 8] (sub Nv 0)
def al4:uI [8000224,1001004005] f137 QP:=eR
abbrev XX:=sub Nv 17
abbrev XY:=sub Nv 40
abbrev ZN:=sub Nv 62
abbrev ZO:=sub Nv 35
def Si:Ko [8000230] f142:=by apply Subtype.mk; cbv
def ah3:=Si.1
def QQ:=ei.mk 2 [.dC 4 8,.tmp 5,.tmp 6] (sub ah3 0)
def al6:uI [8000230] f142 QQ:=eR
def ae1:Ko [6000012] f84:=by apply Subtype.mk; cbv
def b84:=ae1.1
def adV:=ei.mk 2 [.tmp 4,.tmp 5] (sub b84 0)
def asn:uI [6000012] f84 adV:=eR
abbrev afy:=sub b84 9
abbrev afz:=sub b84 30
abbrev agw:=sub b84 46
abbrev agx:=sub b84 25
def St:Ko [] f157:=by apply Subtype.mk; cbv
def WQ:=St.1
def L5:=ei.mk 5 [.tmp 6] (sub WQ 0)
abbrev X1:=sub WQ 33
abbrev agh:=sub WQ 45
def alK:Ko [] f159:=by apply Subtype.mk; cbv
def an1:=alK.1
def aj9:=ei.mk 2 [.tmp 4] (sub an1 0)
def Sj:Ko [] f143:=by apply Subtype.mk; cbv
def WN:=Sj.1
def aaZ:=ei.mk 2 [.tmp 4,.tmp 5,.tmp 6] (sub WN 0)
abbrev XZ:=sub WN 7
abbrev age:=sub WN 27
def Tx:Ko [5] f232:=by apply Subtype.mk; cbv
def adv:=Tx.1
def Q3:=ei.mk 2 [.tmp 4] (sub adv 0)
def amj:uI [5] f232 Q3:=eR
abbrev Yl:=sub adv 9
def nq:=by
 have h:=bO (fD ah9 Sv.1) (bO (fD aiN Tu.1) (bO (fD Nv Se.1) (bO (fD ah3 Si.1) (bO (fD b84 ae1.1) (bO (fD WQ St.1) (bO (fD WN Sj.1) (fD adv Tx.1)))))));simp only[Sv,Tu,Se,Si,ae1,St,Sj,Tx,zi,seval] at h;exact h
def anh:=nq.1
def ahr:=nq.2.1
def F4:=nq.2.2.1
def ahh:=nq.2.2.2.1
def WD:=nq.2.2.2.2.1
def Nh:=nq.2.2.2.2.2.1
def Wq:=nq.2.2.2.2.2.2.1
def Wx:=nq.2.2.2.2.2.2.2
def Ty:Ko [] f233:=by apply Subtype.mk; cbv
def aiQ:=Ty.1
def abJ:=ei.mk 2 [.tmp 3] (sub aiQ 0)
def Tz:Ko [5] f234:=by apply Subtype.mk; cbv
def adw:=Tz.1
def Q4:=ei.mk 2 [.tmp 4] (sub adw 0)
def amk:uI [5] f234 Q4:=eR
abbrev Ym:=sub adw 9
def TA:Ko [] f235:=by apply Subtype.mk; cbv
def aiR:=TA.1
def abK:=ei.mk 2 [.tmp 3] (sub aiR 0)
def Sm:Ko [] f147:=by apply Subtype.mk; cbv
def ah5:=Sm.1
def aa1:=ei.mk 2 [.dC 4 8,.tmp 5] (sub ah5 0)
def arW:Ko [] f42:=by apply Subtype.mk; cbv
def b42:=arW.1
def aqy:=ei.mk 2 [.tmp 4] (sub b42 0)
def arX:Ko [] f43:=by apply Subtype.mk; cbv
def b43:=arX.1
def aqz:=ei.mk 3 [.tmp 6] (sub b43 0)
def arY:Ko [] f44:=by apply Subtype.mk; cbv
def b44:=arY.1
def aqA:=ei.mk 2 [.tmp 4] (sub b44 0)
def arZ:Ko [] f45:=by apply Subtype.mk; cbv
def b45:=arZ.1
def aqB:=ei.mk 2 [.tmp 4] (sub b45 0)
def ar0:Ko [] f46:=by apply Subtype.mk; cbv
def b46:=ar0.1
def aqC:=ei.mk 2 [.tmp 4] (sub b46 0)
def um:=by
 have h:=bO (fD aiQ Ty.1) (bO (fD adw Tz.1) (bO (fD aiR TA.1) (fD ah5 Sm.1)));simp only[Ty,Tz,TA,Sm,zi,seval] at h;exact h
def anx:=um.1
def Wy:=um.2.1
def anz:=um.2.2.1
def ahi:=um.2.2.2
end Go.Proofs.YtahkjijkflobhaaGreatDoor
set_option linter.defProp false
set_option maxRecDepth 100000
namespace Go.Proofs.YtahkjijkflobhaaGreatDoor
open Go Go.Abs
def ael:Ko [] f20:=by apply Subtype.mk; cbv
def b20:=ael.1
def akc:=ei.mk 0 [.dC 0 10] (sub b20 0)
def aep:Ko [] f28:=by apply Subtype.mk; cbv
def b28:=aep.1
def aki:=ei.mk 2 [] (sub b28 0)
def ae0:Ko [] f78:=by apply Subtype.mk; cbv
def b78:=ae0.1
def akv:=ei.mk 1 [] (sub b78 0)
def R1:Ko [] f124:=by apply Subtype.mk; cbv
def ahQ:=R1.1
def aaR:=ei.mk 2 [.dC 4 6] (sub ahQ 0)
def S5:Ko [] f194:=by apply Subtype.mk; cbv
def aiw:=S5.1
def abq:=ei.mk 2 [.dC 4 6] (sub aiw 0)
def R2:Ko [] f125:=by apply Subtype.mk; cbv
def ahR:=R2.1
def aaS:=ei.mk 2 [.tmp 4,.tmp 5] (sub ahR 0)
def R4:Ko [1000202] f127:=by apply Subtype.mk; cbv
def Nu:=R4.1
def QM:=ei.mk 3 [] (sub Nu 0)
def alZ:uI [1000202] f127 QM:=eR
abbrev XV:=sub Nu 7
abbrev Ms:=sub Nu 32
abbrev MN:=sub Nu 46
abbrev ZM:=sub Nu 23
def Ta:Ko [] f199:=by apply Subtype.mk; cbv
def aiB:=Ta.1
def abu:=ei.mk 2 [.tmp 3] (sub aiB 0)
def oI:=by
 have h:=bO (fD b20 ael.1) (bO (fD b28 aep.1) (bO (fD b78 ae0.1) (bO (fD ahQ R1.1) (bO (fD aiw S5.1) (bO (fD ahR R2.1) (bO (fD Nu R4.1) (fD aiB Ta.1)))))));simp only[ael,aep,ae0,R1,S5,R2,R4,Ta,zi,seval] at h;exact h
def E20:=oI.1
def E28:=oI.2.1
def E78:=oI.2.2.1
def acG:=oI.2.2.2.1
def ano:=oI.2.2.2.2.1
def Wo:=oI.2.2.2.2.2.1
def sw:=oI.2.2.2.2.2.2.1
def anp:=oI.2.2.2.2.2.2.2
def Tc:Ko [] f201:=by apply Subtype.mk; cbv
def adp:=Tc.1
def HY:=ei.mk 2 [.tmp 4] (sub adp 0)
def amg:uI [] f201 HY:=eR
abbrev Yh:=sub adp 17
def Td:Ko [] f203:=by apply Subtype.mk; cbv
def aiD:=Td.1
def abw:=ei.mk 2 [.tmp 3] (sub aiD 0)
def aeq:Ko [] f32:=by apply Subtype.mk; cbv
def b32:=aeq.1
def akj:=ei.mk 2 [.tmp 4] (sub b32 0)
abbrev afi:=sub b32 31
abbrev agt:=sub b32 55
abbrev Uc:=sub b32 9
abbrev Vw:=sub b32 56
def Sb:Ko [] f134:=by apply Subtype.mk; cbv
def ahX:=Sb.1
def aaY:=ei.mk 1 [.tmp 2] (sub ahX 0)
def aeJ:Ko [] f61:=by apply Subtype.mk; cbv
def b61:=aeJ.1
def adQ:=ei.mk 1 [] (sub b61 0)
def aeK:Ko [] f62:=by apply Subtype.mk; cbv
def b62:=aeK.1
def Q9:=ei.mk 1 [] (sub b62 0)
def aeL:Ko [] f63:=by apply Subtype.mk; cbv
def b63:=aeL.1
def N4:=ei.mk 1 [] (sub b63 0)
def aeM:Ko [] f64:=by apply Subtype.mk; cbv
def b64:=aeM.1
def Ra:=ei.mk 1 [] (sub b64 0)
def oJ:=by
 have h:=bO (fD adp Tc.1) (bO (fD aiD Td.1) (bO (fD b32 aeq.1) (bO (fD ahX Sb.1) (bO (fD b61 aeJ.1) (bO (fD b62 aeK.1) (bO (fD b63 aeL.1) (fD b64 aeM.1)))))));simp only[Tc,Td,aeq,Sb,aeJ,aeK,aeL,aeM,zi,seval] at h;exact h
def F7:=oJ.1
def anq:=oJ.2.1
def PN:=oJ.2.2.1
def ane:=oJ.2.2.2.1
def E61:=oJ.2.2.2.2.1
def E62:=oJ.2.2.2.2.2.1
def E63:=oJ.2.2.2.2.2.2.1
def E64:=oJ.2.2.2.2.2.2.2
def aeN:Ko [] f65:=by apply Subtype.mk; cbv
def b65:=aeN.1
def KL:=ei.mk 1 [] (sub b65 0)
def aeO:Ko [] f66:=by apply Subtype.mk; cbv
def b66:=aeO.1
def Xr:=ei.mk 1 [] (sub b66 0)
def Sa:Ko [3] f133:=by apply Subtype.mk; cbv
def WM:=Sa.1
def QN:=ei.mk 1 [.tmp 2] (sub WM 0)
def al1:uI [3] f133 QN:=eR
abbrev XW:=sub WM 9
abbrev agd:=sub WM 21
def aeP:Ko [] f67:=by apply Subtype.mk; cbv
def b67:=aeP.1
def adR:=ei.mk 1 [] (sub b67 0)
def aeQ:Ko [] f68:=by apply Subtype.mk; cbv
def b68:=aeQ.1
def Xt:=ei.mk 1 [] (sub b68 0)
def aeR:Ko [] f69:=by apply Subtype.mk; cbv
def b69:=aeR.1
def adS:=ei.mk 1 [] (sub b69 0)
def Sf:Ko [] f138:=by apply Subtype.mk; cbv
def ah0:=Sf.1
def L2:=ei.mk 1 [.dC 2 6] (sub ah0 0)
def aeS:Ko [] f70:=by apply Subtype.mk; cbv
def b70:=aeS.1
def N5:=ei.mk 1 [] (sub b70 0)
def nr:=by
 have h:=bO (fD b65 aeN.1) (bO (fD b66 aeO.1) (bO (fD WM Sa.1) (bO (fD b67 aeP.1) (bO (fD b68 aeQ.1) (bO (fD b69 aeR.1) (bO (fD ah0 Sf.1) (fD b70 aeS.1)))))));simp only[aeN,aeO,Sa,aeP,aeQ,aeR,Sf,aeS,zi,seval] at h;exact h
def E65:=nr.1
def E66:=nr.2.1
def Wp:=nr.2.2.1
def E67:=nr.2.2.2.1
def E68:=nr.2.2.2.2.1
def E69:=nr.2.2.2.2.2.1
def acK:=nr.2.2.2.2.2.2.1
def E70:=nr.2.2.2.2.2.2.2
def Sg:Ko [] f140:=by apply Subtype.mk; cbv
def ah1:=Sg.1
def L3:=ei.mk 3 [] (sub ah1 0)
def aeT:Ko [1000139,2000140] f71:=by apply Subtype.mk; cbv
def b71:=aeT.1
def Ek:=ei.mk 1 [] (sub b71 0)
def asm:uI [1000139,2000140] f71 Ek:=eR
def aeU:Ko [] f72:=by apply Subtype.mk; cbv
def b72:=aeU.1
def Xu:=ei.mk 1 [] (sub b72 0)
def aeV:Ko [] f73:=by apply Subtype.mk; cbv
def b73:=aeV.1
def Rb:=ei.mk 1 [] (sub b73 0)
def aeW:Ko [] f74:=by apply Subtype.mk; cbv
def b74:=aeW.1
def Xv:=ei.mk 1 [] (sub b74 0)
def aeX:Ko [] f75:=by apply Subtype.mk; cbv
def b75:=aeX.1
def Xw:=ei.mk 1 [] (sub b75 0)
abbrev afw:=sub b75 15
abbrev afx:=sub b75 34
abbrev agu:=sub b75 52
abbrev agv:=sub b75 27
def Sl:Ko [] f146:=by apply Subtype.mk; cbv
def ah4:=Sl.1
def aa0:=ei.mk 2 [.tmp 3] (sub ah4 0)
def aeY:Ko [] f76:=by apply Subtype.mk; cbv
def b76:=aeY.1
def adU:=ei.mk 1 [] (sub b76 0)
def nu:=by
 have h:=bO (fD ah1 Sg.1) (bO (fD b71 aeT.1) (bO (fD b72 aeU.1) (bO (fD b73 aeV.1) (bO (fD b74 aeW.1) (bO (fD b75 aeX.1) (bO (fD ah4 Sl.1) (fD b76 aeY.1)))))));simp only[Sg,aeT,aeU,aeV,aeW,aeX,Sl,aeY,zi,seval] at h;exact h
def acL:=nu.1
def E71:=nu.2.1
def E72:=nu.2.2.1
def E73:=nu.2.2.2.1
def E74:=nu.2.2.2.2.1
def LA:=nu.2.2.2.2.2.1
def anf:=nu.2.2.2.2.2.2.1
def E76:=nu.2.2.2.2.2.2.2
def aeZ:Ko [] f77:=by apply Subtype.mk; cbv
def b77:=aeZ.1
def aku:=ei.mk 1 [] (sub b77 0)
def aeo:Ko [] f27:=by apply Subtype.mk; cbv
def b27:=aeo.1
def akh:=ei.mk 0 [.tmp 0] (sub b27 0)
def arR:Ko [] f22:=by apply Subtype.mk; cbv
def b22:=arR.1
def aqt:=ei.mk 2 [.tmp 4] (sub b22 0)
def arV:Ko [] f40:=by apply Subtype.mk; cbv
def b40:=arV.1
def aqx:=ei.mk 2 [.tmp 4] (sub b40 0)
def Bt:=by
 have h:=And.intro (fD b77 aeZ.1) (fD b27 aeo.1);simp only[aeZ,aeo,zi,seval] at h;exact h
def E77:=Bt.1
def E27:=Bt.2
end Go.Proofs.YtahkjijkflobhaaGreatDoor
set_option linter.defProp false
set_option maxRecDepth 100000
namespace Go.Proofs.YtahkjijkflobhaaGreatDoor
open Go Go.Abs
def TZ:Ko [] f273:=by apply Subtype.mk; cbv
def ai8:=TZ.1
def Mf:=ei.mk 2 [.tmp 4,.tmp 5] (sub ai8 0)
def T5:Ko [] f307:=by apply Subtype.mk; cbv
def ajc:=T5.1
def Mi:=ei.mk 2 [.tmp 4,.tmp 5] (sub ajc 0)
def T6:Ko [] f325:=by apply Subtype.mk; cbv
def ajd:=T6.1
def H3:=ei.mk 2 [.tmp 4] (sub ajd 0)
def yA:=by
 have h:=And.intro (fD ai8 TZ.1) (And.intro (fD ajc T5.1) (fD ajd T6.1));simp only[TZ,T5,T6,zi,seval] at h;exact h
def anK:=yA.1
def WA:=yA.2.1
def WB:=yA.2.2
end Go.Proofs.YtahkjijkflobhaaGreatDoor
set_option linter.defProp false
set_option maxRecDepth 100000
namespace Go.Proofs.YtahkjijkflobhaaGreatDoor
open Go Go.Abs
def ko8:Ko [] f8:=by apply Subtype.mk; cbv
def b8:=ko8.1
def fn8:=ei.mk 1 [.tmp 2] (sub b8 0)
def acq:cB :=
 (.seq (.region [
 ob 0 (.mv (.ke (.bool false)))] false [0]) (.ret))
def acr:cB :=
 (.seq (.region [
 ob 110 (.iT 1 (.tmp 2)),
 ob 111 (.ij (.tmp 110)),
 ob 112 (.bin .eql (.tmp 111) (.ke (.int .i64 2))),
 ob 113 (.mv (.tmp 112)),
 og 114 113 true (.iT 1 (.tmp 3)),
 og 115 113 true (.ij (.tmp 114)),
 og 116 113 true (.bin .eql (.tmp 115) (.ke (.int .i64 3))),
 ob 117 (.pick (.tmp 113) (.tmp 116) (.ke (.bool false))),
 ob 118 (.mv (.tmp 117)),
 og 119 118 true (.iT 0 (.tmp 4)),
 og 120 118 true (.ij (.tmp 119)),
 og 121 118 true (.bin .eql (.tmp 120) (.ke (.int .i64 0))),
 ob 122 (.pick (.tmp 118) (.tmp 121) (.ke (.bool false))),
 ob 123 (.mv (.tmp 122)),
 og 124 123 true (.iT 4 (.tmp 5)),
 og 125 123 true (.ij (.tmp 124)),
 og 126 123 true (.bin .eql (.tmp 125) (.ke (.int .i64 3))),
 ob 127 (.pick (.tmp 123) (.tmp 126) (.ke (.bool false))),
 ob 128 (.mv (.tmp 127)),
 og 129 128 true (.iT 0 (.tmp 6)),
 og 130 128 true (.ij (.tmp 129)),
 og 131 128 true (.bin .eql (.tmp 130) (.ke (.int .i64 0))),
 ob 132 (.pick (.tmp 128) (.tmp 131) (.ke (.bool false))),
 ob 133 (.mv (.tmp 132)),
 og 134 133 true (.iT 1 (.tmp 7)),
 og 135 133 true (.ij (.tmp 134)),
 og 136 133 true (.bin .eql (.tmp 135) (.ke (.int .i64 3))),
 ob 137 (.pick (.tmp 133) (.tmp 136) (.ke (.bool false))),
 ob 138 (.mv (.tmp 137)),
 og 139 138 true (.iT 6 (.tmp 9)),
 og 140 138 true (.ij (.tmp 139)),
 og 141 138 true (.vi 1 (.tmp 140) (.ke (.int .i64 0))),
 og 142 138 true (.ij (.tmp 141)),
 og 143 138 true (.bin .eql (.tmp 142) (.ke (.int .u8 0))),
 ob 144 (.pick (.tmp 138) (.tmp 143) (.ke (.bool false))),
 ob 145 (.mv (.tmp 144)),
 og 146 145 true (.iT 6 (.tmp 9)),
 og 147 145 true (.ij (.tmp 146)),
 og 148 145 true (.vi 1 (.tmp 147) (.ke (.int .i64 2))),
 og 149 145 true (.ij (.tmp 148)),
 og 150 145 true (.bin .eql (.tmp 149) (.ke (.int .u8 8))),
 ob 151 (.pick (.tmp 145) (.tmp 150) (.ke (.bool false))),
 ob 152 (.mv (.tmp 151)),
 og 153 152 true (.iT 1 (.tmp 11)),
 og 154 152 true (.ij (.tmp 153)),
 og 155 152 true (.bin .eql (.tmp 154) (.ke (.int .i64 3))),
 ob 156 (.pick (.tmp 152) (.tmp 155) (.ke (.bool false))),
 ob 157 (.mv (.tmp 156)),
 og 158 157 true (.iT 6 (.tmp 11)),
 og 159 157 true (.ij (.tmp 158)),
 og 160 157 true (.vi 1 (.tmp 159) (.ke (.int .i64 1))),
 og 161 157 true (.ij (.tmp 160)),
 og 162 157 true (.bin .eql (.tmp 161) (.ke (.int .u8 7))),
 ob 163 (.pick (.tmp 157) (.tmp 162) (.ke (.bool false))),
 ob 164 (.mv (.tmp 163)),
 og 165 164 true (.iT 0 (.tmp 13)),
 og 166 164 true (.ij (.tmp 165)),
 og 167 164 true (.bin .eql (.tmp 166) (.ke (.int .i64 70))),
 ob 168 (.pick (.tmp 164) (.tmp 167) (.ke (.bool false))),
 ob 169 (.mv (.tmp 168)),
 og 170 169 true (.iT 0 (.tmp 14)),
 og 171 169 true (.ij (.tmp 170)),
 og 172 169 true (.bin .eql (.tmp 171) (.ke (.int .i64 0))),
 ob 173 (.pick (.tmp 169) (.tmp 172) (.ke (.bool false))),
 ob 174 (.mv (.tmp 173)),
 og 175 174 true (.iT 0 (.tmp 15)),
 og 176 174 true (.ij (.tmp 175)),
 og 177 174 true (.bin .eql (.tmp 176) (.ke (.int .i64 90))),
 ob 178 (.pick (.tmp 174) (.tmp 177) (.ke (.bool false))),
 ob 179 (.mv (.tmp 178)),
 og 180 179 true (.iT 0 (.tmp 16)),
 og 181 179 true (.ij (.tmp 180)),
 og 182 179 true (.bin .eql (.tmp 181) (.ke (.int .i64 0))),
 ob 183 (.pick (.tmp 179) (.tmp 182) (.ke (.bool false))),
 ob 184 (.mv (.tmp 183)),
 og 185 184 true (.iT 0 (.tmp 18)),
 og 186 184 true (.ij (.tmp 185)),
 og 187 184 true (.bin .eql (.tmp 186) (.ke (.int .i64 1))),
 ob 188 (.pick (.tmp 184) (.tmp 187) (.ke (.bool false))),
 ob 189 (.mv (.tmp 188)),
 og 190 189 true (.iT 0 (.tmp 1)),
 og 191 189 true (.iT 0 (.tmp 190)),
 og 192 189 true (.iT 0 (.tmp 191)),
 og 193 189 true (.ij (.tmp 192)),
 og 194 189 true (.Dx (.tmp 193)),
 og 195 189 true (.bin .eql (.tmp 194) (.ke (.int .i64 2))),
 ob 196 (.pick (.tmp 189) (.tmp 195) (.ke (.bool false))),
 ob 197 (.mv (.tmp 196)),
 og 198 197 true (.kU 10 (.tmp 1)),
 og 199 197 true (.call 15 [(.tmp 198)]),
 ob 200 (.pick (.tmp 197) (.tmp 199) (.ke (.bool false))),
 ob 201 (.mv (.tmp 200)),
 og 202 201 true (.build [(.slice .c0 []),(.int .i64 0),(.int .i64 0),(.int .i64 0),(.slice .c0 []),(.slice .c0 []),(.slice .c0 []),(.int .i64 0),(.slice .c0 []),(.slice .c0 [])] []),
 og 203 201 true (.call 15 [(.tmp 202)]),
 og 204 201 true (.not (.tmp 203)),
 ob 205 (.pick (.tmp 201) (.tmp 204) (.ke (.bool false))),
 ob 206 (.mv (.tmp 205)),
 og 207 206 true (.kU 10 (.tmp 1)),
 ⟨(some 208),.call 20 [],(some (206,true)),true,false,[],true⟩,
 og 209 206 true (.call 22 [(.tmp 207),(.tmp 208)]),
 og 210 206 true (.not (.tmp 209)),
 ob 211 (.pick (.tmp 206) (.tmp 210) (.ke (.bool false))),
 ob 0 (.mv (.tmp 211))] true [0]) (.ret))
def acs:cB :=
 (.seq (.seq (.region [
 ob 100 (.iT 6 (.tmp 9)),
 ob 101 (.ij (.tmp 100)),
 ob 102 (.Dx (.tmp 101)),
 ob 103 (.bin .neq (.tmp 102) (.ke (.int .i64 3))),
 ob 104 (.mv (.tmp 103)),
 og 105 104 false (.iT 6 (.tmp 11)),
 og 106 104 false (.ij (.tmp 105)),
 og 107 104 false (.Dx (.tmp 106)),
 og 108 104 false (.bin .neq (.tmp 107) (.ke (.int .i64 3))),
 ob 109 (.pick (.tmp 104) (.ke (.bool true)) (.tmp 108))] false [1,2,3,4,5,6,7,9,11,13,14,15,16,18,109]) (.cond (.tmp 109) acq (.skip))) acr)
def acu:cB :=
 (.seq (.region [
 ob 95 (.kU 10 (.tmp 1)),
 ob 96 (.build [(.int .i64 0),(.int .i64 0),(.str []),(.str []),(.int .i64 0),(.int .i64 0),(.int .i64 0),(.slice .c0 [])] [(0,1,(.ke (.int .i64 99)))]),
 ob 97 (.call 14 [(.tmp 95),(.tmp 96)]),
 ob 94 (.mv (.tmp 97)),
 ob 98 (.extract (.tmp 94) 0),
 ob 99 (.extract (.tmp 94) 1),
 ob 17 (.pH [(.slice .c0 []),(.int .i64 0),(.int .i64 0),(.int .i64 0),(.slice .c0 []),(.slice .c0 []),(.slice .c0 []),(.int .i64 0),(.slice .c0 []),(.slice .c0 [])]),
 ob 18 (.pH [(.int .i64 0),(.int .i64 0),(.int .i64 0),(.int .i64 0),(.int .i64 0),(.slice .c0 []),(.slice .c0 [])]),
 ox (.store 10 (.tmp 17) (.tmp 98)),
 ox (.store 7 (.tmp 18) (.tmp 99))] false [1,2,3,4,5,6,7,9,11,13,14,15,16,18]) acs)
def acv:cB :=
 (.seq (.region [
 ob 89 (.kU 10 (.tmp 1)),
 ob 90 (.build [(.int .i64 0),(.int .i64 0),(.str []),(.str []),(.int .i64 0),(.int .i64 0),(.int .i64 0),(.slice .c0 [])] [(0,1,(.ke (.int .i64 9))),(6,1,(.ke (.int .i64 4)))]),
 ob 91 (.call 14 [(.tmp 89),(.tmp 90)]),
 ob 88 (.mv (.tmp 91)),
 ob 92 (.extract (.tmp 88) 0),
 ob 93 (.extract (.tmp 88) 1),
 ob 16 (.pH [(.int .i64 0),(.int .i64 0),(.int .i64 0),(.int .i64 0),(.int .i64 0),(.slice .c0 []),(.slice .c0 [])]),
 ox (.store 10 (.tmp 1) (.tmp 92)),
 ox (.store 7 (.tmp 16) (.tmp 93))] false [1,2,3,4,5,6,7,9,11,13,14,15,16]) acu)
def acw:cB :=
 (.seq (.region [
 ob 83 (.kU 10 (.tmp 1)),
 ob 84 (.build [(.int .i64 0),(.int .i64 0),(.str []),(.str []),(.int .i64 0),(.int .i64 0),(.int .i64 0),(.slice .c0 [])] [(0,1,(.ke (.int .i64 2))),(2,1,(.ke (.str [47,101]))),(4,1,(.ke (.int .i64 2)))]),
 ob 85 (.call 14 [(.tmp 83),(.tmp 84)]),
 ob 82 (.mv (.tmp 85)),
 ob 86 (.extract (.tmp 82) 0),
 ob 87 (.extract (.tmp 82) 1),
 ob 15 (.pH [(.int .i64 0),(.int .i64 0),(.int .i64 0),(.int .i64 0),(.int .i64 0),(.slice .c0 []),(.slice .c0 [])]),
 ox (.store 10 (.tmp 1) (.tmp 86)),
 ox (.store 7 (.tmp 15) (.tmp 87))] false [1,2,3,4,5,6,7,9,11,13,14,15]) acv)
def acx:cB :=
 (.seq (.region [
 ob 77 (.kU 10 (.tmp 1)),
 ob 78 (.build [(.int .i64 0),(.int .i64 0),(.str []),(.str []),(.int .i64 0),(.int .i64 0),(.int .i64 0),(.slice .c0 [])] [(0,1,(.ke (.int .i64 13))),(2,1,(.ke (.str [47]))),(4,1,(.ke (.int .i64 1))),(5,1,(.ke (.int .i64 10)))]),
 ob 79 (.call 14 [(.tmp 77),(.tmp 78)]),
 ob 76 (.mv (.tmp 79)),
 ob 80 (.extract (.tmp 76) 0),
 ob 81 (.extract (.tmp 76) 1),
 ob 14 (.pH [(.int .i64 0),(.int .i64 0),(.int .i64 0),(.int .i64 0),(.int .i64 0),(.slice .c0 []),(.slice .c0 [])]),
 ox (.store 10 (.tmp 1) (.tmp 80)),
 ox (.store 7 (.tmp 14) (.tmp 81))] false [1,2,3,4,5,6,7,9,11,13,14]) acw)
def acy:cB :=
 (.seq (.region [
 ob 71 (.kU 10 (.tmp 1)),
 ob 72 (.build [(.int .i64 0),(.int .i64 0),(.str []),(.str []),(.int .i64 0),(.int .i64 0),(.int .i64 0),(.slice .c0 [])] [(0,1,(.ke (.int .i64 1))),(2,1,(.ke (.str [47,100,47,102])))]),
 ob 73 (.call 14 [(.tmp 71),(.tmp 72)]),
 ob 70 (.mv (.tmp 73)),
 ob 74 (.extract (.tmp 70) 0),
 ob 75 (.extract (.tmp 70) 1),
 ob 12 (.pH [(.slice .c0 []),(.int .i64 0),(.int .i64 0),(.int .i64 0),(.slice .c0 []),(.slice .c0 []),(.slice .c0 []),(.int .i64 0),(.slice .c0 []),(.slice .c0 [])]),
 ob 13 (.pH [(.int .i64 0),(.int .i64 0),(.int .i64 0),(.int .i64 0),(.int .i64 0),(.slice .c0 []),(.slice .c0 [])]),
 ox (.store 10 (.tmp 12) (.tmp 74)),
 ox (.store 7 (.tmp 13) (.tmp 75))] false [1,2,3,4,5,6,7,9,11,13]) acx)
def acz:cB :=
 (.seq (.region [
 ob 63 (.kU 10 (.tmp 1)),
 ob 64 (.iT 3 (.tmp 6)),
 ob 65 (.ij (.tmp 64)),
 ob 66 (.build [(.int .i64 0),(.int .i64 0),(.str []),(.str []),(.int .i64 0),(.int .i64 0),(.int .i64 0),(.slice .c0 [])] [(0,1,(.ke (.int .i64 15))),(4,1,(.tmp 65)),(2,1,(.ke (.str [47,102])))]),
 ob 67 (.call 14 [(.tmp 63),(.tmp 66)]),
 ob 62 (.mv (.tmp 67)),
 ob 68 (.extract (.tmp 62) 0),
 ob 69 (.extract (.tmp 62) 1),
 ob 10 (.pH [(.slice .c0 []),(.int .i64 0),(.int .i64 0),(.int .i64 0),(.slice .c0 []),(.slice .c0 []),(.slice .c0 []),(.int .i64 0),(.slice .c0 []),(.slice .c0 [])]),
 ob 11 (.pH [(.int .i64 0),(.int .i64 0),(.int .i64 0),(.int .i64 0),(.int .i64 0),(.slice .c0 []),(.slice .c0 [])]),
 ox (.store 10 (.tmp 10) (.tmp 68)),
 ox (.store 7 (.tmp 11) (.tmp 69))] false [1,2,3,4,5,6,7,9,11]) acy)
def acA:cB :=
 (.seq (.region [
 ob 57 (.kU 10 (.tmp 1)),
 ob 58 (.build [(.int .i64 0),(.int .i64 0),(.str []),(.str []),(.int .i64 0),(.int .i64 0),(.int .i64 0),(.slice .c0 [])] [(0,1,(.ke (.int .i64 10))),(6,1,(.ke (.int .i64 4))),(5,1,(.ke (.int .i64 9)))]),
 ob 59 (.call 14 [(.tmp 57),(.tmp 58)]),
 ob 56 (.mv (.tmp 59)),
 ob 60 (.extract (.tmp 56) 0),
 ob 61 (.extract (.tmp 56) 1),
 ob 8 (.pH [(.slice .c0 []),(.int .i64 0),(.int .i64 0),(.int .i64 0),(.slice .c0 []),(.slice .c0 []),(.slice .c0 []),(.int .i64 0),(.slice .c0 []),(.slice .c0 [])]),
 ob 9 (.pH [(.int .i64 0),(.int .i64 0),(.int .i64 0),(.int .i64 0),(.int .i64 0),(.slice .c0 []),(.slice .c0 [])]),
 ox (.store 10 (.tmp 8) (.tmp 60)),
 ox (.store 7 (.tmp 9) (.tmp 61))] false [1,2,3,4,5,6,7,9]) acz)
def Vq:cB :=
 (.seq (.region [
 ob 51 (.kU 10 (.tmp 1)),
 ob 52 (.build [(.int .i64 0),(.int .i64 0),(.str []),(.str []),(.int .i64 0),(.int .i64 0),(.int .i64 0),(.slice .c0 [])] [(0,1,(.ke (.int .i64 4))),(2,1,(.ke (.str [47,100,47,102])))]),
 ob 53 (.call 14 [(.tmp 51),(.tmp 52)]),
 ob 50 (.mv (.tmp 53)),
 ob 54 (.extract (.tmp 50) 0),
 ob 55 (.extract (.tmp 50) 1),
 ob 7 (.pH [(.int .i64 0),(.int .i64 0),(.int .i64 0),(.int .i64 0),(.int .i64 0),(.slice .c0 []),(.slice .c0 [])]),
 ox (.store 10 (.tmp 1) (.tmp 54)),
 ox (.store 7 (.tmp 7) (.tmp 55))] false [1,2,3,4,5,6,7]) acA)
def Vr:cB :=
 (.seq (.region [
 ob 45 (.kU 10 (.tmp 1)),
 ob 46 (.build [(.int .i64 0),(.int .i64 0),(.str []),(.str []),(.int .i64 0),(.int .i64 0),(.int .i64 0),(.slice .c0 [])] [(0,1,(.ke (.int .i64 14))),(2,1,(.ke (.str [47,100])))]),
 ob 47 (.call 14 [(.tmp 45),(.tmp 46)]),
 ob 44 (.mv (.tmp 47)),
 ob 48 (.extract (.tmp 44) 0),
 ob 49 (.extract (.tmp 44) 1),
 ob 6 (.pH [(.int .i64 0),(.int .i64 0),(.int .i64 0),(.int .i64 0),(.int .i64 0),(.slice .c0 []),(.slice .c0 [])]),
 ox (.store 10 (.tmp 1) (.tmp 48)),
 ox (.store 7 (.tmp 6) (.tmp 49))] false [1,2,3,4,5,6]) Vq)
def Vs:cB :=
 (.seq (.region [
 ob 38 (.kU 10 (.tmp 1)),
 ob 39 (.lits 1 [(.ke (.int .u8 7)),(.ke (.int .u8 8))]),
 ob 40 (.build [(.int .i64 0),(.int .i64 0),(.str []),(.str []),(.int .i64 0),(.int .i64 0),(.int .i64 0),(.slice .c0 [])] [(0,1,(.ke (.int .i64 11))),(6,1,(.ke (.int .i64 4))),(4,1,(.ke (.int .i64 1))),(7,1,(.tmp 39))]),
 ob 41 (.call 14 [(.tmp 38),(.tmp 40)]),
 ob 37 (.mv (.tmp 41)),
 ob 42 (.extract (.tmp 37) 0),
 ob 43 (.extract (.tmp 37) 1),
 ob 5 (.pH [(.int .i64 0),(.int .i64 0),(.int .i64 0),(.int .i64 0),(.int .i64 0),(.slice .c0 []),(.slice .c0 [])]),
 ox (.store 10 (.tmp 1) (.tmp 42)),
 ox (.store 7 (.tmp 5) (.tmp 43))] false [1,2,3,4,5]) Vr)
def Vt:cB :=
 (.seq (.region [
 ob 32 (.kU 10 (.tmp 1)),
 ob 33 (.build [(.int .i64 0),(.int .i64 0),(.str []),(.str []),(.int .i64 0),(.int .i64 0),(.int .i64 0),(.slice .c0 [])] [(0,1,(.ke (.int .i64 8))),(2,1,(.ke (.str [47,100,47,102]))),(6,1,(.ke (.int .i64 4)))]),
 ob 34 (.call 14 [(.tmp 32),(.tmp 33)]),
 ob 31 (.mv (.tmp 34)),
 ob 35 (.extract (.tmp 31) 0),
 ob 36 (.extract (.tmp 31) 1),
 ob 4 (.pH [(.int .i64 0),(.int .i64 0),(.int .i64 0),(.int .i64 0),(.int .i64 0),(.slice .c0 []),(.slice .c0 [])]),
 ox (.store 10 (.tmp 1) (.tmp 35)),
 ox (.store 7 (.tmp 4) (.tmp 36))] false [1,2,3,4]) Vs)
def Vu:cB :=
 (.seq (.region [
 ob 26 (.kU 10 (.tmp 1)),
 ob 27 (.build [(.int .i64 0),(.int .i64 0),(.str []),(.str []),(.int .i64 0),(.int .i64 0),(.int .i64 0),(.slice .c0 [])] [(0,1,(.ke (.int .i64 2))),(2,1,(.ke (.str [47,100,47,102]))),(4,1,(.ke (.int .i64 1)))]),
 ob 28 (.call 14 [(.tmp 26),(.tmp 27)]),
 ob 25 (.mv (.tmp 28)),
 ob 29 (.extract (.tmp 25) 0),
 ob 30 (.extract (.tmp 25) 1),
 ob 3 (.pH [(.int .i64 0),(.int .i64 0),(.int .i64 0),(.int .i64 0),(.int .i64 0),(.slice .c0 []),(.slice .c0 [])]),
 ox (.store 10 (.tmp 1) (.tmp 29)),
 ox (.store 7 (.tmp 3) (.tmp 30))] false [1,2,3]) Vt)
def Vv:cB :=
 (.seq (.region [
 ob 20 (.call 20 []),
 ob 21 (.build [(.int .i64 0),(.int .i64 0),(.str []),(.str []),(.int .i64 0),(.int .i64 0),(.int .i64 0),(.slice .c0 [])] [(0,1,(.ke (.int .i64 2))),(2,1,(.ke (.str [47,100]))),(4,1,(.ke (.int .i64 2)))]),
 ob 22 (.call 14 [(.tmp 20),(.tmp 21)]),
 ob 19 (.mv (.tmp 22)),
 ob 23 (.extract (.tmp 19) 0),
 ob 24 (.extract (.tmp 19) 1),
 ob 1 (.pH [(.slice .c0 []),(.int .i64 0),(.int .i64 0),(.int .i64 0),(.slice .c0 []),(.slice .c0 []),(.slice .c0 []),(.int .i64 0),(.slice .c0 []),(.slice .c0 [])]),
 ob 2 (.pH [(.int .i64 0),(.int .i64 0),(.int .i64 0),(.int .i64 0),(.int .i64 0),(.slice .c0 []),(.slice .c0 [])]),
 ox (.store 10 (.tmp 1) (.tmp 23)),
 ox (.store 7 (.tmp 2) (.tmp 24))] false [1,2]) Vu)
def E10:=bO (kC acq.eq_1) (bO (kC acr.eq_1) (bO (kC acs.eq_1) (bO (kC acu.eq_1) (bO (kC acv.eq_1) (bO (kC acw.eq_1) (bO (kC acx.eq_1) (bO (kC acy.eq_1) (bO (kC acz.eq_1) (bO (kC acA.eq_1) (bO (kC Vq.eq_1) (bO (kC Vr.eq_1) (bO (kC Vs.eq_1) (bO (kC Vt.eq_1) (bO (kC Vu.eq_1) (kC Vv.eq_1)))))))))))))))
def ahz:D8:={ n:=212,own:=[],lv:=[(0,[]),(1,[1,2]),(2,[1,2,3]),(3,[1,2,3,4]),(4,[1,2,3,4,5]),(5,[1,2,3,4,5,6]),(6,[1,2,3,4,5,6,7]),(7,[1,2,3,4,5,6,7,9]),(8,[1,2,3,4,5,6,7,9,11]),(9,[1,2,3,4,5,6,7,9,11,13]),(10,[1,2,3,4,5,6,7,9,11,13,14]),(11,[1,2,3,4,5,6,7,9,11,13,14,15]),(12,[1,2,3,4,5,6,7,9,11,13,14,15,16]),(13,[1,2,3,4,5,6,7,9,11,13,14,15,16,18]),(14,[1,2,3,4,5,6,7,9,11,13,14,15,16,18,109]),(15,[0]),(16,[0])],lp:=[] }
def adN:ei:=ei.mk 0 [.tmp 0]
 (.seq (.region [
 ob 0 (.mv (.ke (.bool false)))] false []) Vv)
def asd:oY Tryz.prog ahz f10=some adN:=by kernel_rfl
def aee:Ko [] f11:=by apply Subtype.mk; cbv
def b11:=aee.1
def aj2:=ei.mk 1 [.tmp 2] (sub b11 0)
def aef:Ko [] f12:=by apply Subtype.mk; cbv
def b12:=aef.1
def aj3:=ei.mk 1 [.tmp 2] (sub b12 0)
def arQ:Ko [5000016] f21:=by apply Subtype.mk; cbv
def b21:=arQ.1
def akd:=ei.mk 2 [.tmp 4,.tmp 5] (sub b21 0)
def asf:uI [5000016] f21 akd:=eR
def ko3:Ko [] f3:=by apply Subtype.mk; cbv
def b3:=ko3.1
def fn3:=ei.mk 2 [.tmp 4] (sub b3 0)
def ko4:Ko [] f4:=by apply Subtype.mk; cbv
def b4:=ko4.1
def fn4:=ei.mk 2 [.tmp 4] (sub b4 0)
def ko5:Ko [] f5:=by apply Subtype.mk; cbv
def b5:=ko5.1
def fn5:=ei.mk 2 [.tmp 4] (sub b5 0)
def ko6:Ko [] f6:=by apply Subtype.mk; cbv
def b6:=ko6.1
def fn6:=ei.mk 4 [.tmp 8] (sub b6 0)
def ko7:Ko [] f7:=by apply Subtype.mk; cbv
def b7:=ko7.1
def fn7:=ei.mk 4 [.tmp 8] (sub b7 0)
def aeg:Ko [] f13:=by apply Subtype.mk; cbv
def b13:=aeg.1
def Xp:=ei.mk 1 [.dC 2 10] (sub b13 0)
def aek:Ko [19] f19:=by apply Subtype.mk; cbv
def b19:=aek.1
def adO:=ei.mk 2 [.tmp 4] (sub b19 0)
def ase:uI [19] f19 adO:=eR
def oL:=by
 have h:=bO (fD b8 ko8.1) (bO (fD b11 aee.1) (bO (fD b12 aef.1) (bO (fD b5 ko5.1) (bO (fD b6 ko6.1) (bO (fD b7 ko7.1) (bO (fD b13 aeg.1) (fD b19 aek.1)))))));simp only[ko8,aee,aef,ko5,ko6,ko7,aeg,aek,zi,seval] at h;exact h
def E8:=oL.1
def E11:=oL.2.1
def E12:=oL.2.2.1
def E5:=oL.2.2.2.1
def E6:=oL.2.2.2.2.1
def E7:=oL.2.2.2.2.2.1
def E13:=oL.2.2.2.2.2.2.1
def E19:=oL.2.2.2.2.2.2.2
end Go.Proofs.YtahkjijkflobhaaGreatDoor
set_option linter.defProp false
set_option maxRecDepth 100000
namespace Go.Proofs.YtahkjijkflobhaaGreatDoor
open Go Go.Abs
def arP:Ko [] f15:=by apply Subtype.mk; cbv
def b15:=arP.1
def aqs:=ei.mk 1 [.tmp 2] (sub b15 0)
def arS:Ko [] f29:=by apply Subtype.mk; cbv
def b29:=arS.1
def aqu:=ei.mk 1 [.tmp 2] (sub b29 0)
def arT:Ko [] f30:=by apply Subtype.mk; cbv
def b30:=arT.1
def aqv:=ei.mk 2 [.tmp 4] (sub b30 0)
def arU:Ko [] f31:=by apply Subtype.mk; cbv
def b31:=arU.1
def aqw:=ei.mk 2 [.tmp 4] (sub b31 0)
def ar4:Ko [] f79:=by apply Subtype.mk; cbv
def b79:=ar4.1
def aqD:=ei.mk 1 [.tmp 2] (sub b79 0)
def ar6:Ko [] f80:=by apply Subtype.mk; cbv
def b80:=ar6.1
def aqE:=ei.mk 2 [.tmp 4] (sub b80 0)
def ar8:Ko [] f82:=by apply Subtype.mk; cbv
def b82:=ar8.1
def aqG:=ei.mk 1 [.tmp 2] (sub b82 0)
def ar9:Ko [] f83:=by apply Subtype.mk; cbv
def b83:=ar9.1
def aqH:=ei.mk 1 [.tmp 2] (sub b83 0)
def alF:Ko [] f149:=by apply Subtype.mk; cbv
def anV:=alF.1
def aj4:=ei.mk 1 [.tmp 2,.tmp 3] (sub anV 0)
def alG:Ko [] f150:=by apply Subtype.mk; cbv
def anW:=alG.1
def aj5:=ei.mk 4 [.tmp 8] (sub anW 0)
def alH:Ko [] f151:=by apply Subtype.mk; cbv
def anX:=alH.1
def aj6:=ei.mk 2 [.tmp 4] (sub anX 0)
def alJ:Ko [] f156:=by apply Subtype.mk; cbv
def an0:=alJ.1
def aj8:=ei.mk 2 [.tmp 4] (sub an0 0)
def agj:cB :=
 (.seq (.region [
 ob 4 (.mv (.ke (.bool false)))] false [4]) (.ret))
def agk:cB :=
 (.seq (.region [
 ob 26 (.mv (.tmp 9)),
 ob 27 (.not (.tmp 26)),
 ob 28 (.mv (.tmp 27)),
 og 29 28 false (.iT 0 (.tmp 7)),
 og 30 28 false (.ij (.tmp 29)),
 og 31 28 false (.call 207 [(.tmp 30)]),
 og 32 28 false (.not (.tmp 31)),
 ob 33 (.pick (.tmp 28) (.ke (.bool true)) (.tmp 32)),
 ob 34 (.mv (.tmp 33)),
 og 35 34 false (.iT 2 (.tmp 7)),
 og 36 34 false (.ij (.tmp 35)),
 og 37 34 false (.bin .lss (.tmp 36) (.ke (.int .i64 1))),
 ob 38 (.pick (.tmp 34) (.ke (.bool true)) (.tmp 37)),
 ob 39 (.mv (.tmp 38)),
 og 40 39 false (.iT 2 (.tmp 7)),
 og 41 39 false (.ij (.tmp 40)),
 og 42 39 false (.mv (.tmp 0)),
 og 43 39 false (.W0 (.tmp 42)),
 og 44 39 false (.iT 0 (.tmp 43)),
 og 45 39 false (.iT 2 (.tmp 44)),
 og 46 39 false (.ij (.tmp 45)),
 og 47 39 false (.bin .geq (.tmp 41) (.tmp 46)),
 ob 48 (.pick (.tmp 39) (.ke (.bool true)) (.tmp 47)),
 ob 49 (.mv (.tmp 48)),
 og 50 49 false (.mv (.tmp 5)),
 og 51 49 false (.iT 2 (.tmp 7)),
 og 52 49 false (.ij (.tmp 51)),
 og 53 49 false (.look .i (.bool false) false (.tmp 50) (.tmp 52)),
 ob 54 (.pick (.tmp 49) (.ke (.bool true)) (.tmp 53)),
 ob 55 (.mv (.tmp 54)),
 og 56 55 false (.mv (.tmp 6)),
 og 57 55 false (.bin .gtr (.tmp 56) (.ke (.int .i64 0))),
 og 58 55 false (.mv (.tmp 57)),
 og 59 58 true (.iT 4 (.tmp 3)),
 og 60 58 true (.ij (.tmp 59)),
 og 61 58 true (.mv (.tmp 6)),
 og 62 58 true (.bin .sub (.tmp 61) (.ke (.int .i64 1))),
 og 63 58 true (.vi 3 (.tmp 60) (.tmp 62)),
 og 64 58 true (.iT 0 (.tmp 63)),
 og 65 58 true (.ij (.tmp 64)),
 og 66 58 true (.iT 0 (.tmp 7)),
 og 67 58 true (.ij (.tmp 66)),
 og 68 58 true (.bin .geq (.tmp 65) (.tmp 67)),
 og 69 55 false (.pick (.tmp 58) (.tmp 68) (.ke (.bool false))),
 ob 70 (.pick (.tmp 55) (.ke (.bool true)) (.tmp 69))] true [0,3,5,7,12,13,14,70]) (.cond (.tmp 70) agj (.skip)))
def agl:cB :=
 (.region [
 ob 71 (.mv (.tmp 5)),
 ob 72 (.iT 2 (.tmp 7)),
 ob 73 (.ij (.tmp 72)),
 ox (.gD .i (.tmp 71) (.tmp 73) (.ke (.bool true)))] false [0,3,5,12,13,14])
def agm:cB :=
 (.seq (.seq (.region [
 ob 20 (.mv (.tmp 0)),
 ob 21 (.iT 1 (.tmp 7)),
 ob 22 (.ij (.tmp 21)),
 ob 23 (.call 243 [(.tmp 20),(.tmp 22)]),
 ob 19 (.mv (.tmp 23)),
 ob 24 (.extract (.tmp 19) 0),
 ob 25 (.extract (.tmp 19) 1),
 ob 8 (.mv (.tmp 24)),
 ob 9 (.mv (.tmp 25))] false [0,3,5,6,7,9,12,13,14]) agk) agl)
def agn:cB :=
 (.region [
 ob 74 (.bin .add (.tmp 14) (.ke (.int .i64 1))),
 ob 14 (.mv (.tmp 74))] false [0,3,5,12,13,14])
def ago:cB :=
 (.seq (.block 1 (.seq (.region [
 ob 16 (.mv (.tmp 14)),
 ob 17 (.vi 3 (.tmp 12) (.tmp 14)),
 ob 18 (.kU 3 (.tmp 17)),
 ob 7 (.pH [(.str []),(.int .i64 0),(.int .i64 0)]),
 ob 6 (.mv (.tmp 16)),
 ox (.store 3 (.tmp 7) (.tmp 18))] false [0,3,5,6,7,12,13,14]) agm)) agn)
def agp:cB :=
 (.seq (.cond (.tmp 15) (.skip) (.exit 0)) ago)
def Yn:cB :=
 (.seq (.region [
 ob 15 (.bin .lss (.tmp 14) (.tmp 13))] false [0,3,5,12,13,14,15]) agp)
def agq:cB :=
 (.block 0 (.loop [0,3,5,12,13,14] Yn))
def agr:cB :=
 (.seq (.region [
 ob 75 (.iT 4 (.tmp 3)),
 ob 76 (.ij (.tmp 75)),
 ob 77 (.Dx (.tmp 76)),
 ob 78 (.bin .leq (.tmp 77) (.ke (.int .i64 64))),
 ob 4 (.mv (.tmp 78))] false [4]) (.ret))
def ags:cB :=
 (.seq (.seq (.region [
 ob 11 (.iT 4 (.tmp 3)),
 ob 12 (.ij (.tmp 11)),
 ob 13 (.Dx (.tmp 12)),
 ob 14 (.mv (.ke (.int .i64 0)))] false [0,3,5,12,13,14]) agq) agr)
def ZP:cB :=
 (.seq (.region [
 ob 10 (.mkMap),
 ob 5 (.mv (.tmp 10))] false [0,3,5]) ags)
def ac3:D8:={ n:=79,own:=[],lv:=[(0,[0,3]),(1,[0,3,5]),(2,[0,3,5,12,13,14]),(3,[0,3,5,12,13,14,15]),(4,[0,3,5,6,7,12,13,14]),(5,[0,3,5,6,7,9,12,13,14]),(6,[0,3,5,7,12,13,14,70]),(7,[4]),(8,[0,3,5,12,13,14]),(9,[0,3,5,12,13,14]),(10,[4])],lp:=[(3,[0,3,5,12,13,14])] }
def abL:ei:=ei.mk 2 [.tmp 4]
 (.seq (.region [
 ob 3 (.box (.tmp 1)),
 ob 4 (.mv (.ke (.bool false)))] false [0,3]) ZP)
def aml:oY Tryz.prog ac3 f236=some abL:=by kernel_rfl
def alN:Ko [] f240:=by apply Subtype.mk; cbv
def an3:=alN.1
def akg:=ei.mk 2 [.tmp 4] (sub an3 0)
def ar7:Ko [] f81:=by apply Subtype.mk; cbv
def b81:=ar7.1
def aqF:=ei.mk 2 [.tmp 3] (sub b81 0)
def asa:Ko [] f91:=by apply Subtype.mk; cbv
def b91:=asa.1
def aqI:=ei.mk 2 [.tmp 3] (sub b91 0)
def alI:Ko [] f155:=by apply Subtype.mk; cbv
def anZ:=alI.1
def aj7:=ei.mk 2 [.tmp 3] (sub anZ 0)
end Go.Proofs.YtahkjijkflobhaaGreatDoor
set_option linter.defProp false
set_option maxRecDepth 100000
namespace Go.Proofs.YtahkjijkflobhaaGreatDoor
open Go Go.Abs
def aes:Ko [] f34:=by apply Subtype.mk; cbv
def b34:=aes.1
def akk:=ei.mk 2 [.tmp 4] (sub b34 0)
abbrev afj:=sub b34 7
def aej:Ko [] f18:=by apply Subtype.mk; cbv
def b18:=aej.1
def akb:=ei.mk 2 [.dC 4 6,.tmp 5] (sub b18 0)
def SO:Ko [] f179:=by apply Subtype.mk; cbv
def aim:=SO.1
def abf:=ei.mk 2 [.dC 4 6,.tmp 5] (sub aim 0)
def SP:Ko [] f180:=by apply Subtype.mk; cbv
def adm:=SP.1
def abg:=ei.mk 2 [.tmp 4] (sub adm 0)
abbrev Ya:=sub adm 7
def RN:Ko [] f108:=by apply Subtype.mk; cbv
def ahH:=RN.1
def aaO:=ei.mk 3 [.tmp 6,.tmp 7] (sub ahH 0)
def SK:Ko [5] f175:=by apply Subtype.mk; cbv
def adk:=SK.1
def QX:=ei.mk 2 [.dC 4 3] (sub adk 0)
def ama:uI [5] f175 QX:=eR
abbrev X5:=sub adk 11
def TL:Ko [5] f250:=by apply Subtype.mk; cbv
def ady:=TL.1
def Q5:=ei.mk 2 [.dC 4 3] (sub ady 0)
def amm:uI [5] f250 Q5:=eR
abbrev Yr:=sub ady 9
def SN:Ko [9] f178:=by apply Subtype.mk; cbv
def adl:=SN.1
def QY:=ei.mk 3 [.dC 6 3] (sub adl 0)
def amc:uI [9] f178 QY:=eR
abbrev X9:=sub adl 11
def oM:=by
 have h:=bO (fD b34 aes.1) (bO (fD b18 aej.1) (bO (fD aim SO.1) (bO (fD adm SP.1) (bO (fD ahH RN.1) (bO (fD adk SK.1) (bO (fD ady TL.1) (fD adl SN.1)))))));simp only[aes,aej,SO,SP,RN,SK,TL,SN,zi,seval] at h;exact h
def E34:=oM.1
def E18:=oM.2.1
def Wr:=oM.2.2.1
def JS:=oM.2.2.2.1
def JO:=oM.2.2.2.2.1
def JQ:=oM.2.2.2.2.2.1
def PM:=oM.2.2.2.2.2.2.1
def JR:=oM.2.2.2.2.2.2.2
def SJ:Ko [12] f174:=by apply Subtype.mk; cbv
def adj:=SJ.1
def QW:=ei.mk 4 [.dC 8 3] (sub adj 0)
def al9:uI [12] f174 QW:=eR
abbrev X4:=sub adj 15
def SR:Ko [] f182:=by apply Subtype.mk; cbv
def adn:=SR.1
def abi:=ei.mk 2 [.tmp 4] (sub adn 0)
abbrev Yb:=sub adn 7
def aex:Ko [] f39:=by apply Subtype.mk; cbv
def b39:=aex.1
def ako:=ei.mk 3 [.tmp 6] (sub b39 0)
abbrev afm:=sub b39 7
def TH:Ko [] f246:=by apply Subtype.mk; cbv
def aiX:=TH.1
def abT:=ei.mk 2 [.tmp 4] (sub aiX 0)
def SI:Ko [] f173:=by apply Subtype.mk; cbv
def aik:=SI.1
def abd:=ei.mk 3 [.tmp 6] (sub aik 0)
def RJ:Ko [] f106:=by apply Subtype.mk; cbv
def ahF:=RJ.1
def aaM:=ei.mk 4 [.dC 8 3,.tmp 9,.tmp 10] (sub ahF 0)
def RH:Ko [] f104:=by apply Subtype.mk; cbv
def ahD:=RH.1
def aaL:=ei.mk 4 [.dC 8 3,.tmp 9] (sub ahD 0)
def SM:Ko [] f177:=by apply Subtype.mk; cbv
def ail:=SM.1
def abe:=ei.mk 2 [.dC 4 3] (sub ail 0)
def oN:=by
 have h:=bO (fD adj SJ.1) (bO (fD adn SR.1) (bO (fD b39 aex.1) (bO (fD aiX TH.1) (bO (fD aik SI.1) (bO (fD ahF RJ.1) (bO (fD ahD RH.1) (fD ail SM.1)))))));simp only[SJ,SR,aex,TH,SI,RJ,RH,SM,zi,seval] at h;exact h
def F6:=oN.1
def JT:=oN.2.1
def WC:=oN.2.2.1
def ahs:=oN.2.2.2.1
def F5:=oN.2.2.2.2.1
def ahc:=oN.2.2.2.2.2.1
def ahb:=oN.2.2.2.2.2.2.1
def ahm:=oN.2.2.2.2.2.2.2
def RM:Ko [] f107:=by apply Subtype.mk; cbv
def ahG:=RM.1
def aaN:=ei.mk 3 [.dC 6 3,.tmp 7,.tmp 8] (sub ahG 0)
def SQ:Ko [] f181:=by apply Subtype.mk; cbv
def ain:=SQ.1
def abh:=ei.mk 3 [.tmp 6] (sub ain 0)
def SS:Ko [] f183:=by apply Subtype.mk; cbv
def ado:=SS.1
def abj:=ei.mk 3 [.tmp 6] (sub ado 0)
abbrev Yc:=sub ado 11
def RO:Ko [] f109:=by apply Subtype.mk; cbv
def ahI:=RO.1
def aaP:=ei.mk 5 [.dC 10 3,.tmp 11,.tmp 12] (sub ahI 0)
def RY:Ko [27] f118:=by apply Subtype.mk; cbv
def ahN:=RY.1
def QL:=ei.mk 3 [.dC 6 3,.tmp 7] (sub ahN 0)
def alX:uI [27] f118 QL:=eR
def S1:Ko [] f190:=by apply Subtype.mk; cbv
def aiu:=S1.1
def abo:=ei.mk 2 [.dC 4 3,.tmp 5] (sub aiu 0)
def aeA:Ko [] f48:=by apply Subtype.mk; cbv
def b48:=aeA.1
def akr:=ei.mk 0 [.dC 0 3] (sub b48 0)
def afd:Ko [] f97:=by apply Subtype.mk; cbv
def b97:=afd.1
def akG:=ei.mk 1 [.tmp 2] (sub b97 0)
abbrev afB:=sub b97 15
def nv:=by
 have h:=bO (fD ahG RM.1) (bO (fD ain SQ.1) (bO (fD ado SS.1) (bO (fD ahI RO.1) (bO (fD ahN RY.1) (bO (fD aiu S1.1) (bO (fD b48 aeA.1) (fD b97 afd.1)))))));simp only[RM,SQ,SS,RO,RY,S1,aeA,afd,zi,seval] at h;exact h
def ahd:=nv.1
def ahn:=nv.2.1
def PK:=nv.2.2.1
def CA:=nv.2.2.2.1
def ahg:=nv.2.2.2.2.1
def aho:=nv.2.2.2.2.2.1
def E48:=nv.2.2.2.2.2.2.1
def E97:=nv.2.2.2.2.2.2.2
end Go.Proofs.YtahkjijkflobhaaGreatDoor
set_option linter.defProp false
set_option maxRecDepth 100000
namespace Go.Proofs.YtahkjijkflobhaaGreatDoor
open Go Go.Abs
def aet:Ko [7] f35:=by apply Subtype.mk; cbv
def b35:=aet.1
def N2:=ei.mk 1 [.tmp 2,.tmp 3] (sub b35 0)
def asg:uI [7] f35 N2:=eR
abbrev afk:=sub b35 27
def aeu:Ko [] f36:=by apply Subtype.mk; cbv
def b36:=aeu.1
def akl:=ei.mk 1 [.tmp 2] (sub b36 0)
abbrev afl:=sub b36 17
def aeH:Ko [] f55:=by apply Subtype.mk; cbv
def b55:=aeH.1
def Xq:=ei.mk 3 [.dC 6 3,.tmp 7] (sub b55 0)
def afb:Ko [] f95:=by apply Subtype.mk; cbv
def b95:=afb.1
def akE:=ei.mk 2 [.tmp 4] (sub b95 0)
def afc:Ko [] f96:=by apply Subtype.mk; cbv
def b96:=afc.1
def akF:=ei.mk 2 [.tmp 4] (sub b96 0)
def RE:Ko [] f102:=by apply Subtype.mk; cbv
def ahB:=RE.1
def aaK:=ei.mk 2 [.tmp 4,.tmp 5] (sub ahB 0)
def RQ:Ko [13] f111:=by apply Subtype.mk; cbv
def WK:=RQ.1
def zE:=ei.mk 4 [.tmp 8,.tmp 9,.tmp 10] (sub WK 0)
def alR:uI [13] f111 zE:=eR
abbrev XP:=sub WK 32
abbrev XQ:=sub WK 24
def RR:Ko [92] f112:=by apply Subtype.mk; cbv
def ada:=RR.1
def QJ:=ei.mk 5 [.tmp 10,.tmp 11] (sub ada 0)
def alS:uI [92] f112 QJ:=eR
abbrev XR:=sub ada 49
def oQ:=by
 have h:=bO (fD b35 aet.1) (bO (fD b36 aeu.1) (bO (fD b55 aeH.1) (bO (fD b95 afb.1) (bO (fD b96 afc.1) (bO (fD ahB RE.1) (bO (fD WK RQ.1) (fD ada RR.1)))))));simp only[aet,aeu,aeH,afb,afc,RE,RQ,RR,zi,seval] at h;exact h
def Pt:=oQ.1
def E36:=oQ.2.1
def E55:=oQ.2.2.1
def E95:=oQ.2.2.2.1
def E96:=oQ.2.2.2.2.1
def acD:=oQ.2.2.2.2.2.1
def yy:=oQ.2.2.2.2.2.2.1
def F3:=oQ.2.2.2.2.2.2.2
def RS:Ko [17] f113:=by apply Subtype.mk; cbv
def adb:=RS.1
def yl:=ei.mk 5 [.tmp 10,.tmp 11] (sub adb 0)
def alT:uI [17] f113 yl:=eR
abbrev XT:=sub adb 49
def RU:Ko [29] f115:=by apply Subtype.mk; cbv
def ahL:=RU.1
def ES:=ei.mk 4 [.dC 8 3,.tmp 9,.tmp 10] (sub ahL 0)
def alV:uI [29] f115 ES:=eR
def RV:Ko [] f116:=by apply Subtype.mk; cbv
def ahM:=RV.1
def QK:=ei.mk 3 [.tmp 6,.tmp 7] (sub ahM 0)
def SF:Ko [] f170:=by apply Subtype.mk; cbv
def aih:=SF.1
def QU:=ei.mk 2 [.tmp 4] (sub aih 0)
def SG:Ko [] f171:=by apply Subtype.mk; cbv
def aii:=SG.1
def QV:=ei.mk 2 [.tmp 4] (sub aii 0)
def SH:Ko [] f172:=by apply Subtype.mk; cbv
def aij:=SH.1
def L6:=ei.mk 1 [.tmp 2,.tmp 3,.tmp 4] (sub aij 0)
def SU:Ko [] f184:=by apply Subtype.mk; cbv
def aio:=SU.1
def abk:=ei.mk 2 [.tmp 4] (sub aio 0)
def SV:Ko [] f185:=by apply Subtype.mk; cbv
def aip:=SV.1
def abl:=ei.mk 3 [.tmp 6] (sub aip 0)
def oS:=by
 have h:=bO (fD adb RS.1) (bO (fD ahL RU.1) (bO (fD ahM RV.1) (bO (fD aih SF.1) (bO (fD aii SG.1) (bO (fD aij SH.1) (bO (fD aio SU.1) (fD aip SV.1)))))));simp only[RS,RU,RV,SF,SG,SH,SU,SV,zi,seval] at h;exact h
def CB:=oS.1
def Wn:=oS.2.1
def ahf:=oS.2.2.1
def PI:=oS.2.2.2.1
def PJ:=oS.2.2.2.2.1
def acO:=oS.2.2.2.2.2.1
def anm:=oS.2.2.2.2.2.2.1
def acP:=oS.2.2.2.2.2.2.2
def SX:Ko [] f186:=by apply Subtype.mk; cbv
def aiq:=SX.1
def abm:=ei.mk 2 [.tmp 4] (sub aiq 0)
def SY:Ko [] f187:=by apply Subtype.mk; cbv
def air:=SY.1
def L7:=ei.mk 2 [.tmp 4,.tmp 5] (sub air 0)
def SZ:Ko [] f188:=by apply Subtype.mk; cbv
def ais:=SZ.1
def L8:=ei.mk 2 [.tmp 4] (sub ais 0)
def S0:Ko [] f189:=by apply Subtype.mk; cbv
def ait:=S0.1
def abn:=ei.mk 2 [.tmp 4] (sub ait 0)
def TM:Ko [5000014] f251:=by apply Subtype.mk; cbv
def P7:=TM.1
def H0:=ei.mk 2 [.tmp 4] (sub P7 0)
def amn:uI [5000014] f251 H0:=eR
abbrev Yt:=sub P7 42
abbrev Yu:=sub P7 24
abbrev Yv:=sub P7 9
def T2:Ko [] f287:=by apply Subtype.mk; cbv
def aja:=T2.1
def Mg:=ei.mk 3 [.tmp 6] (sub aja 0)
def T3:Ko [] f288:=by apply Subtype.mk; cbv
def ajb:=T3.1
def Mh:=ei.mk 2 [.tmp 4] (sub ajb 0)
def oO:=by
 have h:=bO (fD aiq SX.1) (bO (fD air SY.1) (bO (fD ais SZ.1) (bO (fD ait S0.1) (bO (fD P7 TM.1) (bO (fD aja T2.1) (fD ajb T3.1))))));simp only[SX,SY,SZ,S0,TM,T2,T3,zi,seval] at h;exact h
def ann:=oO.1
def acQ:=oO.2.1
def acR:=oO.2.2.1
def Ws:=oO.2.2.2.1
def B6:=oO.2.2.2.2.1
def acY:=oO.2.2.2.2.2.1
def acZ:=oO.2.2.2.2.2.2
end Go.Proofs.YtahkjijkflobhaaGreatDoor
set_option linter.defProp false
set_option maxRecDepth 100000
namespace Go.Proofs.YtahkjijkflobhaaGreatDoor
open Go Go.Abs
def aeh:Ko [] f16:=by apply Subtype.mk; cbv
def b16:=aeh.1
def HV:=ei.mk 2 [.tmp 4] (sub b16 0)
def aei:Ko [] f17:=by apply Subtype.mk; cbv
def b17:=aei.1
def aka:=ei.mk 2 [.tmp 4] (sub b17 0)
def aem:Ko [] f23:=by apply Subtype.mk; cbv
def b23:=aem.1
def akf:=ei.mk 0 [.dC 0 10] (sub b23 0)
def aen:Ko [] f24:=by apply Subtype.mk; cbv
def b24:=aen.1
def uf:=ei.mk 2 [.dC 4 10,.dC 5 7] (sub b24 0)
def aer:Ko [] f33:=by apply Subtype.mk; cbv
def b33:=aer.1
def Db:=ei.mk 2 [.tmp 4] (sub b33 0)
def aez:Ko [] f47:=by apply Subtype.mk; cbv
def b47:=aez.1
def akq:=ei.mk 1 [.dC 2 8] (sub b47 0)
def aeB:Ko [] f49:=by apply Subtype.mk; cbv
def b49:=aeB.1
def aks:=ei.mk 1 [.dC 2 7] (sub b49 0)
def aeC:Ko [] f50:=by apply Subtype.mk; cbv
def b50:=aeC.1
def Gu:=ei.mk 2 [.dC 4 10,.dC 5 7] (sub b50 0)
def oT:=by
 have h:=bO (fD b16 aeh.1) (bO (fD b17 aei.1) (bO (fD b23 aem.1) (bO (fD b24 aen.1) (bO (fD b33 aer.1) (bO (fD b47 aez.1) (bO (fD b49 aeB.1) (fD b50 aeC.1)))))));simp only[aeh,aei,aem,aen,aer,aez,aeB,aeC,zi,seval] at h;exact h
def Ni:=oT.1
def E17:=oT.2.1
def E23:=oT.2.2.1
def Ea:=oT.2.2.2.1
def Ew:=oT.2.2.2.2.1
def E47:=oT.2.2.2.2.2.1
def E49:=oT.2.2.2.2.2.2.1
def E50:=oT.2.2.2.2.2.2.2
def aeD:Ko [14] f51:=by apply Subtype.mk; cbv
def b51:=aeD.1
def zF:=ei.mk 2 [.dC 4 10,.dC 5 7] (sub b51 0)
def ash:uI [14] f51 zF:=eR
abbrev afn:=sub b51 52
def aeE:Ko [] f52:=by apply Subtype.mk; cbv
def b52:=aeE.1
def Cb:=ei.mk 2 [.dC 4 10,.dC 5 7] (sub b52 0)
def aeF:Ko [17] f53:=by apply Subtype.mk; cbv
def b53:=aeF.1
def KK:=ei.mk 2 [.dC 4 7] (sub b53 0)
def asi:uI [17] f53 KK:=eR
abbrev afo:=sub b53 54
abbrev afp:=sub b53 31
abbrev afq:=sub b53 87
def aeG:Ko [10,41] f54:=by apply Subtype.mk; cbv
def b54:=aeG.1
def Q8:=ei.mk 2 [.dC 4 8,.tmp 5] (sub b54 0)
def asj:uI [10,41] f54 Q8:=eR
abbrev afr:=sub b54 9
abbrev afs:=sub b54 38
def aeI:Ko [23,74] f56:=by apply Subtype.mk; cbv
def b56:=aeI.1
def N3:=ei.mk 2 [.dC 4 8] (sub b56 0)
def asl:uI [23,74] f56 N3:=eR
abbrev aft:=sub b56 19
abbrev afu:=sub b56 65
abbrev afv:=sub b56 50
def RG:Ko [] f103:=by apply Subtype.mk; cbv
def ahC:=RG.1
def QH:=ei.mk 2 [.tmp 4,.tmp 5,.tmp 6] (sub ahC 0)
def RI:Ko [] f105:=by apply Subtype.mk; cbv
def ahE:=RI.1
def L0:=ei.mk 5 [.dC 10 10,.dC 11 7] (sub ahE 0)
def RP:Ko [] f110:=by apply Subtype.mk; cbv
def ahJ:=RP.1
def QI:=ei.mk 1 [.tmp 2] (sub ahJ 0)
def oU:=by
 have h:=bO (fD b51 aeD.1) (bO (fD b52 aeE.1) (bO (fD b53 aeF.1) (bO (fD b54 aeG.1) (bO (fD b56 aeI.1) (bO (fD ahC RG.1) (bO (fD ahE RI.1) (fD ahJ RP.1)))))));simp only[aeD,aeE,aeF,aeG,aeI,RG,RI,RP,zi,seval] at h;exact h
def Np:=oU.1
def PO:=oU.2.1
def JX:=oU.2.2.1
def E54:=oU.2.2.2.1
def Pu:=oU.2.2.2.2.1
def aha:=oU.2.2.2.2.2.1
def acE:=oU.2.2.2.2.2.2.1
def ahe:=oU.2.2.2.2.2.2.2
def RT:Ko [35] f114:=by apply Subtype.mk; cbv
def ahK:=RT.1
def Da:=ei.mk 2 [.dC 4 8,.tmp 5,.tmp 6] (sub ahK 0)
def alU:uI [35] f114 Da:=eR
def RX:Ko [7000011] f117:=by apply Subtype.mk; cbv
def WL:=RX.1
def ET:=ei.mk 3 [.tmp 6] (sub WL 0)
def alW:uI [7000011] f117 ET:=eR
abbrev GF:=sub WL 15
abbrev XU:=sub WL 28
def RZ:Ko [47] f119:=by apply Subtype.mk; cbv
def ahO:=RZ.1
def HT:=ei.mk 2 [.tmp 4,.tmp 5,.tmp 6] (sub ahO 0)
def alY:uI [47] f119 HT:=eR
def R0:Ko [] f120:=by apply Subtype.mk; cbv
def ahP:=R0.1
def aaQ:=ei.mk 3 [.tmp 6] (sub ahP 0)
def SL:Ko [8,14] f176:=by apply Subtype.mk; cbv
def P5:=SL.1
def HW:=ei.mk 3 [.dC 6 10,.tmp 7] (sub P5 0)
def amb:uI [8,14] f176 HW:=eR
abbrev X6:=sub P5 9
abbrev X7:=sub P5 30
abbrev X8:=sub P5 49
def S2:Ko [] f191:=by apply Subtype.mk; cbv
def aiv:=S2.1
def L9:=ei.mk 2 [.tmp 4] (sub aiv 0)
def S3:Ko [20,5000016] f192:=by apply Subtype.mk; cbv
def P6:=S3.1
def HX:=ei.mk 2 [.tmp 4,.tmp 5] (sub P6 0)
def amd:uI [20,5000016] f192 HX:=eR
abbrev Yd:=sub P6 36
abbrev Ye:=sub P6 56
abbrev Yf:=sub P6 13
def TI:Ko [] f247:=by apply Subtype.mk; cbv
def aiY:=TI.1
def abU:=ei.mk 2 [.tmp 4] (sub aiY 0)
def nw:=by
 have h:=bO (fD ahK RT.1) (bO (fD WL RX.1) (bO (fD ahO RZ.1) (bO (fD ahP R0.1) (bO (fD P5 SL.1) (bO (fD aiv S2.1) (bO (fD P6 S3.1) (fD aiY TI.1)))))));simp only[RT,RX,RZ,R0,SL,S2,S3,TI,zi,seval] at h;exact h
def PF:=nw.1
def Ha:=nw.2.1
def PG:=nw.2.2.1
def acF:=nw.2.2.2.1
def D9:=nw.2.2.2.2.1
def Nl:=nw.2.2.2.2.2.1
def Av:=nw.2.2.2.2.2.2.1
def acV:=nw.2.2.2.2.2.2.2
def TJ:Ko [] f248:=by apply Subtype.mk; cbv
def WS:=TJ.1
def Mc:=ei.mk 2 [.tmp 4] (sub WS 0)
abbrev Yp:=sub WS 41
abbrev Yq:=sub WS 27
def TK:Ko [] f249:=by apply Subtype.mk; cbv
def aiZ:=TK.1
def Md:=ei.mk 2 [.tmp 4] (sub aiZ 0)
def TN:Ko [23] f252:=by apply Subtype.mk; cbv
def ai0:=TN.1
def H2:=ei.mk 2 [.tmp 4] (sub ai0 0)
def amo:uI [23] f252 H2:=eR
def wJ:=by
 have h:=And.intro (fD WS TJ.1) (And.intro (fD aiZ TK.1) (fD ai0 TN.1));simp only[TJ,TK,TN,zi,seval] at h;exact h
def Eb:=wJ.1
def acW:=wJ.2.1
def Wz:=wJ.2.2
end Go.Proofs.YtahkjijkflobhaaGreatDoor
namespace Go.Abs
section
open Go Go.RowKit
theorem fK{α:Type}:∀(l:List α)(i:Nat),nth l i=l[i]?
 | [],_=>by rfl
 |_::_,0=>by rfl
 |_::l,n+1=>by simp[nth,fK l n]
theorem gy{α:Type}:∀(l:List α)(i:Nat)(x:α),jj l i x=l.set i x
 | [],_,_=>by rfl
 |_::_,0,_=>by rfl
 |_::l,n+1,x=>by simp[jj,gy l n]
def gD(j:J)(id:Nat)(ob:Option Nat):J:=⟨fun i=>if i=id then ob else j i,j.X⟩
structure Quiet(w w':World):Prop where
 size:w.heap.size<=w'.heap.size
 os:w'.os=w.os
 tape:w'.tape=w.tape
 output:w'.output=w.output
theorem lt_of_block{w:World}{b:Nat}{o:Obj}(h:w.heap[b]?=some o):b<w.heap.size:=by
 grind
theorem aK{α:Type}{l:List α}{i:Nat}{x:α}(h:l[i]?=some x):i<l.length:=by grind
section
variable {j:J} {M:aG} {w w':World}
theorem pG{j':J}{M':aG}(hr:Rel j M w)(ext:Ext j M w j' M' w'){i sz ver:Nat}{xs:List ag}(h:M[i]?=some (.arr sz ver xs))(hj:j' i=j i)(hb:∀b,j i=some b->w'.heap[b]?=w.heap[b]?) :
  (xs=[]/\j' i=none)\/∃b vs t,j' i=some b/\w'.heap[b]?=some (.cells vs t (0,0))/\xs.length*sz<=vs.size/\(∀x,x∈xs->x.cells.length=sz) /\
  ∀(q:Nat)(x:ag)(k:Nat)(c:ag),xs[q]?=some x->x.cells[k]?=some c->∃v,vs[q*sz+k]?=some v/\fM w' (ny j' M' w') c v:=by
 rcases hr.arr i _ _ _ h with he|⟨b,vs,t,h1,h2,h3,h4,h5⟩
 ·grind
 refine .inr ⟨b,vs,t,hj.trans h1,(hb b h1).trans h2,h3,h4,fun q x k c hx hk=>?_⟩
 obtain⟨u,h6,h7⟩:=h5 q x k c hx hk;exact⟨u,h6,h7.mono ext.ib⟩
theorem Rel.zn(hr:Rel j M w){i sz ver b:Nat}{xs:List ag}(h:M[i]?=some (.arr sz ver xs))(hj:j i=some b):∃b vs t,j i=some b/\w.heap[b]?=some (.cells vs t (0,0))/\xs.length*sz<=vs.size/\(∀x,x∈xs->x.cells.length=sz) /\
  ∀(q:Nat)(x:ag)(k:Nat)(c:ag),xs[q]?=some x->x.cells[k]?=some c->∃v,vs[q*sz+k]?=some v/\fM w (ny j M w) c v:=by
 rcases hr.arr i _ _ _ h with ⟨_,he⟩|hh
 ·grind
 omega
theorem zl{bx:dy}{i:Nat}(h:i<M.length):(M++[bx])[i]?=M[i]?:=by grind
def mr{bx:dy}:(M++[bx])[M.length]?=some bx:=by simp
theorem Ext.push{ob:Option Nat}{bx:dy}(hob:∀b,ob=some b->w.heap.size<=b)(q:Quiet w w')(hb:∀b,b<w.heap.size->w'.heap[b]?=w.heap[b]?) :
  Ext j M w (gD j M.length ob) (M++[bx]) w' where
 len:=by simp
 size:=q.size
 os:=q.os
 tape:=q.tape
 output:=q.output
 X:=rfl
 fix:=fun i bx h _=>by
  have hi:=aK h;exact⟨by simp[gD,gP hi],bx,by rw[zl hi]; omega,rfl⟩
 tick:=fun i sz n h=>by
  have hi:=aK h;exact⟨n,aC _,by rw[zl hi]; omega,fun _=>⟨by simp[gD,gP hi],fun b vs t _ hv=>⟨vs,(hb b (lt_of_block hv)).trans hv,rfl⟩⟩⟩
 arr:=fun i sz v xs h=>by
  have hi:=aK h;exact .inr ⟨v,xs,by rw[zl hi]; omega,aC _,fun _=>⟨by simp[gD,gP hi],rfl,fun b vs t _ hv=>⟨vs,(hb b (lt_of_block hv)).trans hv,rfl⟩⟩⟩
 tags:=fun b0 vs0 t0 fr0 h=>⟨vs0,fr0,(hb b0 (lt_of_block h)).trans h,rfl⟩
 ib:=fun b off h=>by
  refine⟨⟨bz h.1 q.size,fun id hid hj=>?_,h.3⟩,World.cell?_of_block (hb b h.1)⟩
  by_cases he:id=M.length
  ·have:ob=some b:=by grind [gD]
   have:=hob b this;have:=h.1;omega
  ·have cz:id<M.length:=by grind
   rw[zl cz];exact h.2 id cz (by grind [gD])
 tL:=fun b cz h=>by
  grind [ob,gD]
theorem Rel.amC(hr:Rel j M w){ob:Option Nat}{bx:dy}(hob:∀b,ob=some b->w.heap.size<=b/\b<w'.heap.size)(q:Quiet w w')(hb:∀b,b<w.heap.size->w'.heap[b]?=w.heap[b]?)
  (hbox:bx.fixed=true->∃b,ob=some b/\(Ext j M w (gD j M.length ob) (M++[bx]) w'->Holds (gD j M.length ob) (M++[bx]) w' b bx))
  (htick:∀sz n b,bx = .tick sz n->ob=some b->∃vs t,w'.heap[b]?=some (.cells vs t (0,0)))
  (harr:∀sz ver xs,bx = .arr sz ver xs->(xs=[]/\ob=none)\/∃b vs t,ob=some b/\w'.heap[b]?=some (.cells vs t (0,0))/\xs.length*sz<=vs.size/\(∀x,x∈xs->x.cells.length=sz) /\
   ∀j' M',Ext j M w j' M' w'->∀(q:Nat)(x:ag)(k:Nat)(c:ag),xs[q]?=some x->x.cells[k]?=some c->∃v,vs[q*sz+k]?=some v/\fM w' (ny j' M' w') c v:=by intro _ _ _ h; cases h):Rel (gD j M.length ob) (M++[bx]) w':=by
 have ext:Ext j M w (gD j M.length ob) (M++[bx]) w':=Ext.push (fun b h=>(hob b h).1) q hb
 have up:∀i,i<M.length->gD j M.length ob i=j i:=fun i hi=>by simp[gD,gP hi]
 have cas:∀i x,(M++[bx])[i]?=some x->(i<M.length/\M[i]?=some x)\/(i=M.length/\x=bx):=by
  grind
 refine⟨fun i i' b hi hi' h h'=>?_,fun i b hi h=>?_,fun i bx' h hf=>?_,fun i sz n b h hj=>?_,fun i sz ver xs h=>?_,fun i b hi h off hx=>?_,fun b off h=>bz (hr.Aq b off h) q.size⟩
 ·simp only[aD,au,av] at hi hi'
  by_cases e:i=M.length<;>by_cases e':i'=M.length
  ·omega
  ·have h1:ob=some b:=by simpa[gD,e] using h
   rw[up i' (by omega)] at h'
   have:=hr.lt i' b (by omega) h'
   have:=(hob b h1).1;omega
  ·have h1:ob=some b:=by simpa[gD,e'] using h'
   rw[up i (by omega)] at h
   have:=hr.lt i b (by omega) h
   have:=(hob b h1).1;omega
  ·rw[up i (by omega)] at h
   rw[up i' (by omega)] at h'
   exact hr.inj i i' b (by omega) (by omega) h h'
 ·simp only[aD,au,av] at hi
  by_cases e:i=M.length
  ·exact(hob b (by simpa[gD,e] using h)).2
  ·rw[up i (by omega)] at h
   exact bz (hr.lt i b (by omega) h) q.size
 ·rcases cas i _ h with ⟨hi,h⟩|⟨rfl,hx⟩
  ·obtain⟨b,h1,h2⟩:=hr.fix i bx' h hf;exact⟨b,by rw[up i hi]; exact h1,h2.mono ext (hb b (hr.lt i b hi h1))⟩
  ·subst hx;obtain⟨b,h1,h2⟩:=hbox hf;exact⟨b,by simp[gD,h1],h2 ext⟩
 ·rcases cas i _ h with ⟨hi,h⟩|⟨rfl,hx⟩
  ·rw[up i hi] at hj;obtain⟨vs,t,h1⟩:=hr.tick i sz n b h hj;exact⟨vs,t,(hb b (lt_of_block h1)).trans h1⟩
  ·exact htick sz n b hx.symm (by simpa[gD] using hj)
 ·rcases cas i _ h with ⟨hi,h⟩|⟨rfl,hx⟩
  ·exact pG hr ext h (up i hi) fun b h1=>hb b (hr.lt i b hi h1)
  grind [gD]
 ·by_cases e:i=M.length
  ·have h1:=(hob b (by simpa[gD,e] using h)).1
   have h2:=hr.Aq b off hx;omega
  ·exact hr.uS i b (by simp at hi; omega) (by rw[up i (by simp at hi; omega)] at h; exact h) off hx
def Rel.push(hr:Rel j M w){ob:Option Nat}{bx:dy}(hob:∀b,ob=some b->w.heap.size<=b/\b<w'.heap.size)(q:Quiet w w')(hb:∀b,b<w.heap.size->w'.heap[b]?=w.heap[b]?)
  (hbox:bx.fixed=true->∃b,ob=some b/\∀j' M',Ext j M w j' M' w'->Holds j' M' w' b bx)
  (htick:∀sz n b,bx = .tick sz n->ob=some b->∃vs t,w'.heap[b]?=some (.cells vs t (0,0)))
  (harr:∀sz ver xs,bx = .arr sz ver xs->(xs=[]/\ob=none)\/∃b vs t,ob=some b/\w'.heap[b]?=some (.cells vs t (0,0))/\xs.length*sz<=vs.size/\(∀x,x∈xs->x.cells.length=sz) /\
   ∀j' M',Ext j M w j' M' w'->∀(q:Nat)(x:ag)(k:Nat)(c:ag),xs[q]?=some x->x.cells[k]?=some c->∃v,vs[q*sz+k]?=some v/\fM w' (ny j' M' w') c v:=by intro _ _ _ h; cases h):Rel (gD j M.length ob) (M++[bx]) w' :=
 hr.amC hob q hb (fun hf=>(hbox hf).imp fun b h=>⟨h.1,fun hx=>h.2 _ _ hx⟩) htick harr
theorem dK{id:Nat}{bx:dy}(h:id<M.length):(M.set id bx)[id]?=some bx:=by grind
theorem cJ{id i:Nat}{bx:dy}(h:id≠i):(M.set id bx)[i]?=M[i]?:=by grind
theorem Ext.store{id b:Nat}{bx bx':dy}(hM:M[id]?=some bx)(hfx:bx.fixed=true)(htag:bx'.tag=bx.tag)(hj:j id=some b)(hr:Rel j M w)(q:Quiet w w')
  (hb:∀b',b'≠b->b'<w.heap.size->w'.heap[b']?=w.heap[b']?) (htg:∀(vs:Array Value)(t:TypeId)(fr:Nat×Nat),w.heap[b]?=some (.cells vs t fr)->∃vs' fr',w'.heap[b]?=some (.cells vs' t fr')/\vs'.size=vs.size):Ext j M w j (M.set id bx') w' where
 len:=by simp
 size:=q.size
 os:=q.os
 tape:=q.tape
 output:=q.output
 X:=rfl
 fix:=fun i b0 h _=>⟨rfl,by
  grind⟩
 tick:=fun i sz n h=>by
  have e:id≠i:=by rintro rfl; rw[hM] at h; cases h; cases hfx
  refine⟨n,aC _,by rw[cJ e]; omega,fun _=>⟨rfl,fun b' vs t hb' hv=>⟨vs,?_,rfl⟩⟩⟩
  refine(hb b' ?_ (lt_of_block hv)).trans hv;rintro rfl;exact e (hr.inj _ _ _ (aK hM) (aK h) hj hb')
 arr:=fun i sz v xs h=>by
  have e:id≠i:=by rintro rfl; rw[hM] at h; cases h; cases hfx
  refine .inr ⟨v,xs,by rw[cJ e]; omega,aC _,fun _=>⟨rfl,rfl,fun b' vs t hb' hv=>⟨vs,?_,rfl⟩⟩⟩
  refine(hb b' ?_ (lt_of_block hv)).trans hv;rintro rfl;exact e (hr.inj _ _ _ (aK hM) (aK h) hj hb')
 tags:=fun b0 vs0 t0 fr0 h=>by
  grind
 ib:=fun b0 off h=>by
  have hne:b0≠b:=by
   rintro rfl;obtain⟨sz,n,h1,_⟩:=h.2 id (aK hM) hj;rw[hM] at h1; cases h1; cases hfx
  refine⟨⟨bz h.1 q.size,fun i hi hji=>?_,h.3⟩,World.cell?_of_block (w:=w) (hb b0 hne h.1)⟩
  have e:id≠i:=by grind
  rw[cJ e];exact h.2 i (by simpa using hi) hji
 tL:=fun b0 cz h=>by
  grind
theorem Rel.store{id b:Nat}{bx bx':dy}(hM:M[id]?=some bx)(hfx:bx.fixed=true)(htag:bx'.tag=bx.tag)(hj:j id=some b)(hr:Rel j M w)(q:Quiet w w')
  (hb:∀b',b'≠b->b'<w.heap.size->w'.heap[b']?=w.heap[b']?) (htg:∀(vs:Array Value)(t:TypeId)(fr:Nat×Nat),w.heap[b]?=some (.cells vs t fr)->∃vs' fr',w'.heap[b]?=some (.cells vs' t fr')/\vs'.size=vs.size) (hh:∀j' M',Ext j M w j' M' w'->Holds j' M' w' b bx'):Rel j (M.set id bx') w':=by
 have ext  := Ext.store hM hfx htag hj hr q hb htg;refine⟨fun i i' b0 hi hi'=>hr.inj i i' b0 (by simpa using hi) (by simpa using hi'),fun i b0 hi h=>bz (hr.lt i b0 (by simpa using hi) h) q.size,fun i bx0 h hf=>?_,fun i sz n b0 h hji=>?_,fun i sz ver xs h=>?_,fun i b0 hi h=>hr.uS i b0 (by simpa using hi) h,fun b0 off h=>bz (hr.Aq b0 off h) q.size⟩
 ·by_cases e:id=i
  ·grind
  ·rw[cJ e] at h;obtain⟨b0,h1,h2⟩:=hr.fix i _ h hf;refine⟨b0,h1,h2.mono ext (hb b0 ?_ (hr.lt i b0 (aK h) h1))⟩;rintro rfl;exact e (hr.inj _ _ _ (aK hM) (aK h) hj h1)
 ·have e:id≠i:=by
   rintro rfl;rw[dK (aK hM)] at h;injection h with h
   have:=Bn htag hfx;rw[h] at this; cases this
  rw[cJ e] at h;obtain⟨vs,t0,h1⟩:=hr.tick i sz n b0 h hji;refine⟨vs,t0,(hb b0 ?_ (lt_of_block h1)).trans h1⟩;rintro rfl;exact e (hr.inj _ _ _ (aK hM) (aK h) hj hji)
 ·have e:id≠i:=by
   rintro rfl;rw[dK (aK hM)] at h;injection h with h
   have:=Bn htag hfx;rw[h] at this; cases this
  rw[cJ e] at h;refine pG hr ext h rfl fun b0 h1=>hb b0 ?_ (hr.lt i b0 (aK h) h1)
  rintro rfl;exact e (hr.inj _ _ _ (aK hM) (aK h) hj h1)
theorem Ext.G5{k b sz n n':Nat}{vs vs':Array Value}{t:TypeId}(hM:M[k]?=some (.tick sz n))(hj:j k=some b)(hr:Rel j M w)(q:Quiet w w')
  (hb:∀b',b'≠b->b'<w.heap.size->w'.heap[b']?=w.heap[b']?) (hw:w.heap[b]?=some (.cells vs t (0,0))) (hw':w'.heap[b]?=some (.cells vs' t (0,0))) (hvs:vs'.size=vs.size)
  (hq:∀p,p<n*sz->vs'[p]?=vs[p]?) (hn:n<=n'):Ext j M w j (M.set k (.tick sz n')) w' where
 len:=by simp
 size:=q.size
 os:=q.os
 tape:=q.tape
 output:=q.output
 X:=rfl
 fix:=fun i b0 h hf=>⟨rfl,by
  have e:k≠i:=by rintro rfl; rw[hM] at h; cases h; cases hf
  grind⟩
 tick:=fun i sz0 n0 h=>by
  grind
 arr:=fun i sz v xs h=>by
  grind
 tags:=fun b0 vs0 t0 fr0 h=>by
  grind
 ib:=fun b0 off h=>by
  refine⟨⟨bz h.1 q.size,fun i hi hji=>?_,h.3⟩,?_⟩
  ·by_cases e:k=i
   ·subst e;obtain⟨sz0,n0,h1,h2⟩:=h.2 k (aK hM) hji;rw[hM] at h1;injection h1 with h1; injection h1 with e1 e2
    subst e1; subst e2;exact⟨sz,n',dK (aK hM),bz h2 (bj _ hn)⟩
   ·rw[cJ e];exact h.2 i (by simpa using hi) hji
  ·by_cases e:b0=b
   ·subst e;obtain⟨sz0,n0,h1,h2⟩:=h.2 k (aK hM) hj;rw[hM] at h1
    grind [World.cell?]
   ·exact World.cell?_of_block (w:=w) (hb b0 e h.1)
 tL:=fun b0 cz h=>by
  grind
theorem Rel.G5{k b sz n n':Nat}{vs vs':Array Value}{t:TypeId}(hM:M[k]?=some (.tick sz n))(hj:j k=some b)(hr:Rel j M w)(q:Quiet w w')
  (hb:∀b',b'≠b->b'<w.heap.size->w'.heap[b']?=w.heap[b']?) (hw:w.heap[b]?=some (.cells vs t (0,0))) (hw':w'.heap[b]?=some (.cells vs' t (0,0))) (hvs:vs'.size=vs.size)
  (hq:∀p,p<n*sz->vs'[p]?=vs[p]?) (hn:n<=n'):Rel j (M.set k (.tick sz n')) w':=by
 have ext:Ext j M w j (M.set k (.tick sz n')) w':=Ext.G5 hM hj hr q hb hw hw' hvs hq hn;refine⟨fun i i' b0 hi hi'=>hr.inj i i' b0 (by grind) (by grind),fun i b0 hi h=>bz (hr.lt i b0 (by grind) h) q.size,fun i bx0 h hf=>?_,fun i sz0 n0 b0 h hji=>?_,fun i sz ver xs h=>?_,fun i b0 hi h=>hr.uS i b0 (by grind) h,fun b0 off h=>bz (hr.Aq b0 off h) q.size⟩
 ·have e:k≠i:=by rintro rfl; rw[dK (aK hM)] at h; cases h; cases hf
  rw[cJ e] at h;obtain⟨b0,h1,h2⟩:=hr.fix i bx0 h hf;refine⟨b0,h1,h2.mono ext (hb b0 ?_ (hr.lt i b0 (aK h) h1))⟩;rintro rfl;exact e (hr.inj _ _ _ (aK hM) (aK h) hj h1)
 ·by_cases e:k=i
  ·grind
  ·rw[cJ e] at h;obtain⟨vs0,t0,h1⟩:=hr.tick i sz0 n0 b0 h hji
   grind
 ·have e:k≠i:=by grind
  rw[cJ e] at h;refine pG hr ext h rfl fun b0 h1=>hb b0 ?_ (hr.lt i b0 (aK h) h1)
  rintro rfl;exact e (hr.inj _ _ _ (aK hM) (aK h) hj h1)
theorem Ext.Cx{k b' sz n n':Nat}(hM:M[k]?=some (.tick sz n))(q:Quiet w w')(hb:∀b,b<w.heap.size->w'.heap[b]?=w.heap[b]?)(hf:w.heap.size<=b')(hn:n<n') :
  Ext j M w (gD j k (some b')) (M.set k (.tick sz n')) w' where
 len:=by simp
 size:=q.size
 os:=q.os
 tape:=q.tape
 output:=q.output
 X:=rfl
 fix:=fun i b0 h hf=>by
  have e:k≠i:=by rintro rfl; rw[hM] at h; cases h; cases hf
  exact⟨by simp[gD,eZ e],b0,by rw[cJ e]; omega,rfl⟩
 tick:=fun i sz0 n0 h=>by
  by_cases e:k=i
  ·grind
  ·exact⟨n0,aC _,by rw[cJ e]; omega,fun _=>⟨by simp[gD,eZ e],fun b vs0 t0 _ hv=>⟨vs0,(hb b (lt_of_block hv)).trans hv,rfl⟩⟩⟩
 arr:=fun i sz v xs h=>by
  have e:k≠i:=by grind
  exact .inr ⟨v,xs,by rw[cJ e]; omega,aC _,fun _=>⟨by simp[gD,eZ e],rfl,fun b vs0 t0 _ hv=>⟨vs0,(hb b (lt_of_block hv)).trans hv,rfl⟩⟩⟩
 tags:=fun b0 vs0 t0 fr0 h=>⟨vs0,fr0,(hb b0 (lt_of_block h)).trans h,rfl⟩
 ib:=fun b0 off h=>by
  refine⟨⟨bz h.1 q.size,fun i hi hji=>?_,h.3⟩,World.cell?_of_block (w:=w) (hb b0 h.1)⟩
  have e:k≠i:=by
   rintro rfl;have:b'=b0:=by grind [gD]
   have:=h.1;omega
  rw[cJ e];exact h.2 i (by grind) (by simp_all [gD,Ne.symm])
 tL:=fun b0 cz h=>by
  grind [gD]
def Rel.Cx{k b' sz n n':Nat}{vs:Array Value}{t:TypeId}(hM:M[k]?=some (.tick sz n))(hr:Rel j M w)(q:Quiet w w')(hb:∀b,b<w.heap.size->w'.heap[b]?=w.heap[b]?)
  (hf:w.heap.size<=b') (hw':w'.heap[b']?=some (.cells vs t (0,0))) (hn:n<n'):Rel (gD j k (some b')) (M.set k (.tick sz n')) w':=by
 have ext:Ext j M w (gD j k (some b')) (M.set k (.tick sz n')) w':=Ext.Cx hM q hb hf hn;refine⟨fun i i' b0 hi hi' h h'=>?_,fun i b0 hi h=>?_,fun i bx0 h hf=>?_,fun i sz0 n0 b0 h hji=>?_,fun i sz ver xs h=>?_,fun i b0 hi h off hx=>?_,fun b0 off h=>bz (hr.Aq b0 off h) q.size⟩
 ·simp only[fi] at hi hi'
  by_cases e:i=k<;>by_cases e':i'=k
  ·omega
  ·have h1:b'=b0:=by simpa[gD,e] using h
   have:=hr.lt i' b0 hi' (by simpa[gD,e'] using h')
   omega
  ·have h1:b'=b0:=by simpa[gD,e'] using h'
   have:=hr.lt i b0 hi (by simpa[gD,e] using h)
   omega
  ·exact hr.inj i i' b0 hi hi' (by simpa[gD,e] using h) (by simpa[gD,e'] using h')
 ·simp only[fi] at hi
  by_cases e:i=k
  ·have h1:b'=b0:=by simpa[gD,e] using h
   subst h1;exact lt_of_block hw'
  ·exact bz (hr.lt i b0 hi (by simpa[gD,e] using h)) q.size
 ·have e:k≠i:=by rintro rfl; rw[dK (aK hM)] at h; cases h; cases hf
  rw[cJ e] at h;obtain⟨b0,h1,h2⟩:=hr.fix i bx0 h hf;exact⟨b0,by simpa[gD,eZ e] using h1,h2.mono ext (hb b0 (hr.lt i b0 (aK h) h1))⟩
 ·by_cases e:i=k
  ·have h1:b'=b0:=by simpa[gD,e] using hji
   subst h1;exact⟨vs,t,hw'⟩
  ·rw[cJ (eZ e)] at h;obtain⟨vs0,t0,h1⟩:=hr.tick i sz0 n0 b0 h (by simpa[gD,e] using hji)
   exact⟨vs0,t0,(hb b0 (lt_of_block h1)).trans h1⟩
 ·have e:k≠i:=by rintro rfl; rw[dK (aK hM)] at h; cases h
  rw[cJ e] at h;exact pG hr ext h (by simp[gD,eZ e]) fun b0 h1=>hb b0 (hr.lt i b0 (aK h) h1)
 ·by_cases e:i=k
  ·have h1:b'=b0:=by simpa[gD,e] using h
   have h2:=hr.Aq b0 off hx;omega
  ·exact hr.uS i b0 (by simpa using hi) (by simpa[gD,e] using h) off hx
end
section
variable {j:J} {M:aG} {w w':World}
def Ev(j:J)(M:aG)(w:World)(b sz:Nat)(xs:List ag):Prop:=∃vs t,w.heap[b]?=some (.cells vs t (0,0))/\xs.length*sz<=vs.size/\(∀x,x∈xs->x.cells.length=sz) /\
  ∀(q:Nat)(x:ag)(k:Nat)(c:ag),xs[q]?=some x->x.cells[k]?=some c->∃v,vs[q*sz+k]?=some v/\fM w (ny j M w) c v
def Ext.EB{id b sz ver ver':Nat}{xs xs':List ag}(hM:M[id]?=some (.arr sz ver xs))(hj:j id=some b)(hr:Rel j M w)(q:Quiet w w')
  (hb:∀b',b'≠b->b'<w.heap.size->w'.heap[b']?=w.heap[b']?) (hw:∀vs t,w.heap[b]?=some (.cells vs t (0,0))->∃vs',w'.heap[b]?=some (.cells vs' t (0,0))/\vs'.size=vs.size)
  (hv:ver<=ver') (hl:ver'=ver->xs'.length=xs.length):Ext j M w j (M.set id (.arr sz ver' xs')) w' where
 len:=by simp
 size:=q.size
 os:=q.os
 tape:=q.tape
 output:=q.output
 X:=rfl
 fix:=fun i b0 h hf=>⟨rfl,by
  have e:id≠i:=by rintro rfl; rw[hM] at h; cases h; cases hf
  exact⟨b0,by rw[cJ e]; exact h,rfl⟩⟩
 tick:=fun i sz0 n0 h=>by
  have e:id≠i:=by rintro rfl; rw[hM] at h; cases h
  refine⟨n0,aC _,by rw[cJ e]; exact h,fun _=>⟨rfl,fun b' vs0 t0 hb' hv=>⟨vs0,?_,rfl⟩⟩⟩
  refine(hb b' ?_ (lt_of_block hv)).trans hv;rintro rfl;exact e (hr.inj _ _ _ (aK hM) (aK h) hj hb')
 arr:=fun i sz0 v0 xs0 h=>by
  by_cases e:id=i
  ·subst e;rw[hM] at h;injection h with h; injection h with e1 e2 e3
   subst e1; subst e2; subst e3;refine .inr ⟨ver',xs',dK (aK hM),hv,fun he=>⟨rfl,hl he,fun b' vs t hb' hv=>?_⟩⟩
   rw[hj] at hb'; cases hb';exact hw vs t hv
  ·refine .inr ⟨v0,xs0,by rw[cJ e]; exact h,aC _,fun _=>⟨rfl,rfl,fun b' vs t hb' hv=>⟨vs,?_,rfl⟩⟩⟩
   refine(hb b' ?_ (lt_of_block hv)).trans hv;rintro rfl;exact e (hr.inj _ _ _ (aK hM) (aK h) hj hb')
 tags:=fun b0 vs0 t0 fr0 h=>by
  by_cases e:b0=b
  ·subst e;obtain⟨b',vs,t,g1,g2,_⟩:=hr.zn hM hj;rw[hj] at g1; cases g1;rw[g2] at h; injection h with h; injection h with h1 h2 h3
   subst h1; subst h2;obtain⟨vs',k1,k2⟩:=hw vs t g2;exact⟨_,_,k1,k2⟩
  ·exact⟨vs0,fr0,(hb b0 e (lt_of_block h)).trans h,rfl⟩
 ib:=fun b0 off h=>by
  have hne:b0≠b:=by
   rintro rfl;obtain⟨sz,n,h1,_⟩:=h.2 id (aK hM) hj;rw[hM] at h1; cases h1
  refine⟨⟨bz h.1 q.size,fun i hi hji=>?_,h.3⟩,World.cell?_of_block (w:=w) (hb b0 hne h.1)⟩
  have e:id≠i:=by rintro rfl; rw[hj] at hji; injection hji with hji; exact hne hji.symm
  rw[cJ e];exact h.2 i (by simpa using hi) hji
 tL:=fun b0 cz h=>by
  have hne:b0≠b:=by rintro rfl; exact h id (aK hM) hj
  exact⟨hb b0 hne cz,fun i hi=>h i (by simpa using hi)⟩
def Rel.EB{id b sz ver ver':Nat}{xs xs':List ag}(hM:M[id]?=some (.arr sz ver xs))(hj:j id=some b)(hr:Rel j M w)(q:Quiet w w')
  (hb:∀b',b'≠b->b'<w.heap.size->w'.heap[b']?=w.heap[b']?) (hw:∀vs t,w.heap[b]?=some (.cells vs t (0,0))->∃vs',w'.heap[b]?=some (.cells vs' t (0,0))/\vs'.size=vs.size)
  (hv:ver<=ver') (hl:ver'=ver->xs'.length=xs.length) (hh:∀j' M',Ext j M w j' M' w'->Ev j' M' w' b sz xs'):Rel j (M.set id (.arr sz ver' xs')) w':=by
 have ext:Ext j M w j (M.set id (.arr sz ver' xs')) w':=Ext.EB hM hj hr q hb hw hv hl;refine⟨fun i i' b0 hi hi'=>hr.inj i i' b0 (by simpa using hi) (by simpa using hi'),fun i b0 hi h=>bz (hr.lt i b0 (by simpa using hi) h) q.size,fun i bx0 h hf=>?_,fun i sz0 n0 b0 h hji=>?_,fun i sz0 v0 xs0 h=>?_,fun i b0 hi h=>hr.uS i b0 (by simpa using hi) h,fun b0 off h=>bz (hr.Aq b0 off h) q.size⟩
 ·have e:id≠i:=by rintro rfl; rw[dK (aK hM)] at h; cases h; cases hf
  rw[cJ e] at h;obtain⟨b0,h1,h2⟩:=hr.fix i bx0 h hf;refine⟨b0,h1,h2.mono ext (hb b0 ?_ (hr.lt i b0 (aK h) h1))⟩;rintro rfl;exact e (hr.inj _ _ _ (aK hM) (aK h) hj h1)
 ·have e:id≠i:=by rintro rfl; rw[dK (aK hM)] at h; cases h
  rw[cJ e] at h;obtain⟨vs,t0,h1⟩:=hr.tick i sz0 n0 b0 h hji;refine⟨vs,t0,(hb b0 ?_ (lt_of_block h1)).trans h1⟩;rintro rfl;exact e (hr.inj _ _ _ (aK hM) (aK h) hj hji)
 ·by_cases e:id=i
  ·subst e;rw[dK (aK hM)] at h;injection h with h; injection h with e1 e2 e3
   subst e1; subst e2; subst e3;obtain⟨vs,t,g⟩:=hh _ _ ext;exact .inr ⟨b,vs,t,hj,g⟩
  ·rw[cJ e] at h;refine pG hr ext h rfl fun b0 h1=>hb b0 ?_ (hr.lt i b0 (aK h) h1)
   rintro rfl;exact e (hr.inj _ _ _ (aK hM) (aK h) hj h1)
def Ext.freeze{id sz ver:Nat}{xs:List ag}(hM:M[id]?=some (.arr sz ver xs)):Ext j M w j (M.set id (.tick sz xs.length)) w where
 len:=by simp
 size:=aC _
 os:=rfl
 tape:=rfl
 output:=rfl
 X:=rfl
 fix:=fun i b0 h hf=>⟨rfl,by
  have e:id≠i:=by rintro rfl; rw[hM] at h; cases h; cases hf
  exact⟨b0,by rw[cJ e]; exact h,rfl⟩⟩
 tick:=fun i sz0 n0 h=>by
  have e:id≠i:=by rintro rfl; rw[hM] at h; cases h
  exact⟨n0,aC _,by rw[cJ e]; exact h,fun _=>⟨rfl,fun b' vs0 t0 hb' hv=>⟨vs0,hv,rfl⟩⟩⟩
 arr:=fun i sz0 v0 xs0 h=>by
  by_cases e:id=i
  ·subst e;rw[hM] at h;injection h with h; injection h with e1 e2 e3
   subst e1; subst e2; subst e3;exact .inl ⟨_,dK (aK hM)⟩
  ·exact .inr ⟨v0,xs0,by rw[cJ e]; exact h,aC _,fun _=>⟨rfl,rfl,fun b' vs t hb' hv=>⟨vs,hv,rfl⟩⟩⟩
 tags:=fun b vs t fr h=>⟨vs,fr,h,rfl⟩
 ib:=fun b0 off h=>by
  refine⟨⟨h.1,fun i hi hji=>?_,h.3⟩,rfl⟩
  have e:id≠i:=by
   rintro rfl;obtain⟨sz,n,h1,_⟩:=h.2 id (aK hM) hji;rw[hM] at h1; cases h1
  rw[cJ e];exact h.2 i (by simpa using hi) hji
 tL:=fun b0 cz h=>⟨rfl,fun i hi=>h i (by simpa using hi)⟩
def Rel.freeze{id sz ver:Nat}{xs:List ag}(hM:M[id]?=some (.arr sz ver xs))(hr:Rel j M w):Rel j (M.set id (.tick sz xs.length)) w:=by
 have ext:Ext j M w j (M.set id (.tick sz xs.length)) w:=Ext.freeze hM;refine⟨fun i i' b0 hi hi'=>hr.inj i i' b0 (by simpa using hi) (by simpa using hi'),fun i b0 hi h=>hr.lt i b0 (by simpa using hi) h,fun i bx0 h hf=>?_,fun i sz0 n0 b0 h hji=>?_,fun i sz0 v0 xs0 h=>?_,fun i b0 hi h=>hr.uS i b0 (by simpa using hi) h,hr.Aq⟩
 ·have e:id≠i:=by rintro rfl; rw[dK (aK hM)] at h; cases h; cases hf
  rw[cJ e] at h;obtain⟨b0,h1,h2⟩:=hr.fix i bx0 h hf;exact⟨b0,h1,h2.mono ext rfl⟩
 ·by_cases e:id=i
  ·subst e;obtain⟨b,vs,t,g1,g2,_⟩:=hr.zn hM hji;rw[hji] at g1; cases g1;exact⟨vs,t,g2⟩
  ·rw[cJ e] at h;exact hr.tick i sz0 n0 b0 h hji
 ·have e:id≠i:=by rintro rfl; rw[dK (aK hM)] at h; cases h
  rw[cJ e] at h;exact pG hr ext h rfl fun b0 h1=>rfl
end
def xC{w:World}{ib saf':Nat->Nat->Prop}{b lo hi sz cap:Nat}{vs:Array Value}{t:TypeId}{xs:List ag}(hw:w.heap[b]?=some (.cells vs t (0,0)))(hwid:∀x,x∈xs->x.cells.length=sz)
  (hc:∀(q:Nat)(x:ag)(k:Nat)(c:ag),xs[q]?=some x->x.cells[k]?=some c->∃v,vs[q*sz+k]?=some v/\fM w ib c v) (hm:∀b off,ib b off->saf' b off) (hs:∀off,off<xs.length*sz->saf' b off)
  (h1:lo<=hi) (h2:hi<=xs.length) (h3:hi-lo<=cap):fM w saf' (.slice .sh ((xs.take hi).drop lo)) (.slice (some ⟨b,lo*sz,none⟩) (hi-lo) cap):=by
 have hget:∀(i:Nat)(x:ag),((xs.take hi).drop lo)[i]?=some x->xs[lo+i]?=some x/\lo+i<hi:=by
  intro i x h;rw[cI] at h;have cz:lo+i<hi:=by have:=aK h; simp at this; omega
  rw[bF cz] at h;exact⟨h,cz⟩
 have idx:∀i k,lo*sz+(i*sz+k)=(lo+i)*sz+k:=fun i k=>by rw[bJ]; omega
 refine .slice _ _ _ _ b (lo*sz) sz (fun p=>(vs[lo*sz+p]?).getD undef) (by simp; omega) (by omega) (fun _=>rfl) (fun x hx=>hwid x (dI (dr hx))) (fun i x k c hx hk=>?_) fun i x k c hx hk=>?_
 ·obtain⟨g1,g2⟩:=hget i x hx;obtain⟨v,g3,g4⟩:=hc _ x k c g1 hk;have hk':k<sz:=by rw[<-hwid x (aQ g1)]; exact aK hk
  rw[idx];refine⟨by simp[World.cell?,hw,g3],hs _ ?_⟩
  calc (lo+i)*sz+k<(lo+i)*sz+sz:=by omega
   _=(lo+i+1)*sz:=by rw[bJ (lo+i) 1]; omega
   _<=xs.length*sz:=bj _ (by omega)
 ·obtain⟨g1,g2⟩:=hget i x hx;obtain⟨v,g3,g4⟩:=hc _ x k c g1 hk;simp only[idx,g3,bh];exact g4.mono fun b off h=>⟨hm b off h,rfl⟩
section
variable [kh]
def iL(j:J)(M:aG)(w:World)(x:ag×aG)(v:Value)(w':World):Prop:=∃j',Rel j' x.2 w'/\Ext j M w j' x.2 w'/\gj j' x.2 w' x.1 v
def Hj(j:J)(M:aG)(w:World)(x:ag×aG)(u:Value)(w':World):Prop:=x.1 = .mQ u/\∃j',Rel j' x.2 w'/\Ext j M w j' x.2 w'
def vH(j:J)(M:aG)(w:World)(x:ag×aG)(e:Ending)(w':World):Prop :=
 (∃v,e = .returned v/\iL j M w x v w')\/∃u,e = .panicked [{ v:=u,recovered:=false }]/\Hj j M w x u w'
def vH.ret{j:J}{M:aG}{w:World}{x:ag×aG}{e:Ending}{w':World}(h:vH j M w x e w')(hx:x.1.jx=false):∃v,e = .returned v/\iL j M w x v w':=by
 rcases h with h|⟨u,_,h,_⟩
 ·omega
 ·rw[h] at hx; cases hx
def dD(P:Program)(f:Nat)(args:List ag)(M:aG)(x:ag×aG):Prop :=
 ∀(j:J)(w:World)(vs:Array Value),Rel j M w->se j M w->args.length=vs.size->(∀(i:Nat)(c:ag)(v:Value),args[i]?=some c->vs[i]?=some v->gj j M w c v) ->
  Calls P f vs w fun e w'=>vH j M w x e w'
def mS(P:Program)(f:Nat)(args:List ag)(M:aG)(x:ag×aG):Prop :=
 ∀(j:J)(w:World)(vs:Array Value),Rel j M w->se j M w->args.length=vs.size->(∀(i:Nat)(c:ag)(v:Value),args[i]?=some c->vs[i]?=some v->gj j M w c v) ->
  Calls P f vs w fun e w'=>∃v j',e = .returned v/\Rel j' x.2 w'/\Ext j M w j' x.2 w'/\gj j' x.2 w' x.1 v
def mS.call{P:Program}{f:Nat}{args:List ag}{M:aG}{x:ag×aG}(h:mS P f args M x):dD P f args M x:=fun j w vs h1 h2 h3 h4 =>
 (h j w _ h1 h2 h3 h4).mono fun e w' ⟨v,j',he,g1,g2,g3⟩ => .inl ⟨v,he,j',g1,g2,g3⟩
def oV(P:Program)(C:eK):Prop:=∀f a M x,C f a M=some x->mi P f=true/\dD P f a M x
section
variable {j:J} {M:aG} {w:World} {P:Program}
def iL.still{v:Value}{y:ag}(hr:Rel j M w)(h:gj j M w y v):iL j M w (y,M) v w:=⟨j,hr,Ext.refl j M w,h⟩
theorem Ho{v:Value}{x:ag}(h:J1 v=some x):gj j M w x v:=by
 unfold J1 at h
 split at h<;>first
  |(cases h; first|exact .plain (.bool _)|exact .plain (.int _ _)|exact .plain (.str _)|exact .plain (.raw _ rfl)|exact .c0 _)
  |grind
theorem Hm{ib:Nat->Nat->Prop}:∀ {vs:List Value} {l:List ag},PW vs=some l->l.length=vs.length/\∀(i:Nat)(c:ag)(v:Value),l[i]?=some c->vs[i]?=some v->fM w ib c v
 | [],l,h=>by
  grind [PW]
 |v::r,l,h=>by
  simp[PW] at h;rw[du] at h;obtain⟨x,hx,h⟩:=h;rw[du] at h;obtain⟨l',hl,h⟩:=h;cases h;obtain⟨h1,h2⟩:=Hm hl;refine⟨by grind,fun i c u hc hu=>?_⟩
  cases i with
  |zero =>
   simp at hc hu; subst hc; subst hu;unfold aap at hx
   split at hx<;>first
    |(cases hx; first|exact .bool _|exact .int _ _|exact .str _|exact .raw _ rfl)
    |grind
  |succ i=>exact h2 i c u (by grind) (by grind)
theorem pF:∀ {vs:List Value} {l:List ag},sy vs=some l->l.length=vs.length/\∀(i:Nat)(c:ag)(v:Value),l[i]?=some c->vs[i]?=some v->gj j M w c v
 | [],l,h=>by
  grind [sy]
 |v::r,l,h=>by
  simp[sy] at h;rw[du] at h;obtain⟨x,hx,h⟩:=h;rw[du] at h;obtain⟨l',hl,h⟩:=h;injection h with h; obtain⟨h1,h2⟩:=pF hl
  grind [Ho]
theorem Hn{v:Value}{x:ag}(h:PX v=some x):gj j M w x v:=by
 unfold PX at h;split at h
 ·rw[du] at h;obtain⟨l,hl,h⟩:=h;cases h;obtain⟨h1,h2⟩:=pF hl;exact .agg (by omega) fun i c v hc hv=>h2 i c v hc (by grind)
 grind [Ho]
theorem cX{br:Env}{a:Act}(he:cn j M w br a){x:Operand}{y:gV}(h:eE x=some y):gj j M w (y.ev br) (a.eval x):=by
 unfold eE at h;split at h
 ·cases h; exact he.at' _
 ·rw[du] at h;obtain⟨z,hz,h⟩:=h;cases h;exact Hn hz
 ·cases h;exact .func (by rfl) fun i c v hc=>by simp
 ·rename_i g;rw[du] at h;obtain⟨vs,hg,h⟩:=h;rw[du] at h;obtain⟨l,hl,h⟩:=h;cases h;obtain⟨h1,h2⟩:=Hm (w:=w) (ib:=ny j M w) hl;refine .iQ (vs:=fun k=>(vs[k]?).getD undef) fun k c hk=>?_
  have hk':=aK hk;have hv:vs[k]?=some _:=ai (by omega)
  obtain⟨h3,h4⟩:=he.gl.g g _ k _ hg hv
  grind
theorem tM{br:Env}{a:Act}(he:cn j M w br a):∀ {xs:List Operand} {ys:List gV},uY xs=some ys ->
  ys.length=xs.length/\∀(i:Nat)(y:gV)(x:Operand),ys[i]?=some y->xs[i]?=some x->gj j M w (y.ev br) (a.eval x)
 | [],ys,h=>by
  grind [uY]
 |x::r,ys,h=>by
  simp[uY] at h;rw[du] at h;obtain⟨y,hy,h⟩:=h;rw[du] at h;obtain⟨l,hl,h⟩:=h;injection h with h; obtain⟨h1,h2⟩:=tM he hl
  grind [cX]
def gj.jh{b:Bool}{v:Value}(h:gj j M w (.bool b) v):v = .bool b:=by cases h with|plain h=>cases h; rfl
def gj.fT{k:IntKind}{n:Int}{v:Value}(h:gj j M w (.int k n) v):v = .int k n:=by cases h with|plain h=>cases h; rfl
def gj.j5{s:List UInt8}{v:Value}(h:gj j M w (.str s) v):v = .string (bs s):=by cases h with|plain h=>cases h; rfl
theorem gj.ml{cs:List ag}{v:Value}(h:gj j M w (.agg cs) v):∃vs,v = .agg vs/\cs.length=vs.size/\∀(i:Nat)(c:ag)(u:Value),cs[i]?=some c->vs[i]?=some u->gj j M w c u:=by
 cases h with
 |plain h=>cases h
 |agg hl h=>grind
theorem gj.tn{cs:List ag}{v:Value}(h:gj j M w (.tuple cs) v):∃vs,v = .tuple vs/\cs.length=vs.size/\∀(i:Nat)(c:ag)(u:Value),cs[i]?=some c->vs[i]?=some u->gj j M w c u:=by
 cases h with
 |plain h=>cases h
 |tuple hl h=>grind
theorem gj.rS{f:Nat}{cs:List ag}{v:Value}(h:gj j M w (.func f cs) v):∃vs,v = .func (.func f) #[] vs/\cs.length=vs.size/\∀(i:Nat)(c:ag)(u:Value),cs[i]?=some c->vs[i]?=some u->gj j M w c u:=by
 cases h with
 |plain h=>cases h
 |func hl h=>grind
theorem gj.pt{id off:Nat}{v:Value}(h:gj j M w (.ptr id off) v):∃b,id<M.length/\(∃cs,M[id]?=some (.cells cs))/\j id=some b/\v = .pointer (some ⟨b,off,none⟩):=by
 cases h with
 |plain h=>cases h
 |ptr h1 h2 h3=>grind
theorem gj.vp{id:Nat}{v:Value}(h:gj j M w (.ia id) v):∃b,(∃ks vs,M[id]?=some (.map ks vs))/\j id=some b/\v = .map (some b):=by
 cases h with
 |plain h=>cases h
 |ia h1 h2=>grind
theorem gj.Dl{id:Nat}{v:Value}(h:gj j M w (.jn id) v):∃b,(∃s p,M[id]?=some (.mC s p))/\j id=some b/\v = .pointer (some ⟨b,0,none⟩):=by
 cases h with
 |plain h=>cases h
 |jn h1 h2=>grind
theorem gj.GJ{f:Nat}{fs:List ag}{v:Value}(h:gj j M w (.pR f fs) v):∃vs:Array Value,v = .func (.func f) vs #[]/\fs.length=vs.size/\∀(i:Nat)(c:ag)(v:Value),fs[i]?=some c->vs[i]?=some v->B7 w (ny j M w) c v:=by
 cases h with
 |plain h=>cases h
 |pR hl h=>grind
theorem gj.Ij{t id off:Nat}{v:Value}(h:gj j M w (.jF t id off) v):∃b:Nat,(∃cs,M[id]?=some (.cells cs))/\j id=some b/\v = .iface t (.pointer (some ⟨b,off,none⟩)):=by
 cases h with
 |plain h=>cases h
 |jF h1 h2=>grind
def gj.HS{ks vs:List ag}{v:Value}(h:gj j M w (.jA ks vs) v):∃(b:Nat) (es:Array MapEntry) (clock:Nat),v = .map (some b)/\w.heap[b]?=some (.map es clock)/\ks.length=es.size/\vs.length=es.size /\
  (∀(i:Nat)(k:ag)(e:MapEntry),ks[i]?=some k->es[i]?=some e->fM w (ny j M w) k e.key)/\∀(i:Nat)(v:ag)(e:MapEntry),vs[i]?=some v->es[i]?=some e->B7 w (ny j M w) v e.val:=by
 cases h with
 |plain h=>cases h
 |jA hb hf hx hw hk hv hks hvs=>exact⟨_,_,_,rfl,hw,hk,hv,hks,hvs⟩
def gj.nR{id ver sz lo hi:Nat}{v:Value}(h:gj j M w (.cS id ver sz lo hi) v):((∃b off c,v = .slice (some ⟨b,off,none⟩) (hi-lo) c/\hi-lo<=c)\/hi-lo=0/\∃A,v = .slice A 0 0)/\id<M.length/\(∀bx,M[id]?=some bx->bx.loose=true) /\
  ∀sz' v' xs,M[id]?=some (.arr sz' v' xs)->ver<=v'/\(v'=ver->sz'=sz/\lo<=hi/\hi<=xs.length/\((xs=[]/\j id=none/\∃A,v = .slice A 0 0)\/∃b cap vs t,j id=some b/\v = .slice (some ⟨b,lo*sz,none⟩) (hi-lo) cap/\hi-lo<=cap/\w.heap[b]?=some (.cells vs t (0,0))/\(lo+cap)*sz<=vs.size)):=by
 cases h with
 |plain h=>cases h
 |cS h0 h1 h2 h3=>exact⟨h0,h1,h2,h3⟩
theorem gj.zm{id ver sz lo hi:Nat}{v:Value}(h:gj j M w (.cS id ver sz lo hi) v):∃A cap,v = .slice A (hi-lo) cap:=by
 rcases h.nR.1 with ⟨b,off,c,e,_⟩|⟨e,A,e'⟩
 ·grind
 grind
def gj.WI{id ver sz lo hi:Nat}{v:Value}(h:gj j M w (.cS id ver sz lo hi) v)(hne:lo<hi):∃b off c,v = .slice (some ⟨b,off,none⟩) (hi-lo) c/\hi-lo<=c :=
 h.nR.1.resolve_right fun e=>by omega
def gj.rQ{id ver i off:Nat}{v:Value}(h:gj j M w (.iJ id ver i off) v):(∃b o,v = .pointer (some ⟨b,o,none⟩))/\id<M.length/\(∀bx,M[id]?=some bx->bx.loose=true) /\
  ∀sz v' xs,M[id]?=some (.arr sz v' xs)->ver<=v'/\(v'=ver->i<xs.length/\∃b,j id=some b/\v = .pointer (some ⟨b,i*sz+off,none⟩)):=by
 cases h with
 |plain h=>cases h
 |iJ h0 h1 h2 h3=>exact⟨h0,h1,h2,h3⟩
def gj.tU{cs:List ag}{v:Value}(h:gj j M w (.iQ cs) v):∃(b off:Nat) (vs:Nat->Value),v = .pointer (some ⟨b,off,none⟩) /\
  ∀(k:Nat)(c:ag),cs[k]?=some c->w.cell? ⟨b,off+k,none⟩=some (vs k)/\ny j M w b (off+k)/\fM w (ny j M w) c (vs k):=by
 cases h with
 |plain h=>cases h
 | @iQ _ b off vs h=>exact⟨b,off,vs,rfl,h⟩
theorem fM.nil(ib:Nat->Nat->Prop)(A:Option Addr)(cap:Nat):fM w ib (.slice .sh []) (.slice A 0 cap) :=
 .slice _ A 0 _ 0 0 0 (fun _=>undef) rfl (cV _) (fun h=>absurd rfl h) (fun x h=>by grind) (fun i x k c h=>by grind) (fun i x k c h=>by grind)
def gj.dR{tk:Tk}{xs:List ag}{v:Value}(h:gj j M w (.slice tk xs) v):fM w (ny j M w) (.slice .sh xs) v:=by
 cases h with
 |plain h=>cases h with|slice=>exact .slice _ _ _ _ _ _ _ _ (by omega) (by omega) (by omega) (by omega) (by omega) (by omega)
 |c0 A=>simp[fM.nil]
 |own _ _ h _=>omega
def fM.dR{ib:Nat->Nat->Prop}{xs:List ag}{v:Value}(h:fM w ib (.slice .sh xs) v):∃(A:Option Addr) (cap b off sz:Nat) (vs:Nat->Value),v = .slice A xs.length cap/\xs.length<=cap/\(xs≠[]->A=some ⟨b,off,none⟩) /\
  (∀x,x∈xs->x.cells.length=sz)/\(∀(i:Nat)(x:ag)(k:Nat)(c:ag),xs[i]?=some x->x.cells[k]?=some c->w.cell? ⟨b,off+(i*sz+k),none⟩=some (vs (i*sz+k))/\ib b (off+(i*sz+k))) /\
  (∀(i:Nat)(x:ag)(k:Nat)(c:ag),xs[i]?=some x->x.cells[k]?=some c->fM w ib c (vs (i*sz+k))):=by
 cases h with
 |slice _ A len cap b off sz vs hl hc ha hz hs hr=>subst hl; exact⟨A,cap,b,off,sz,vs,rfl,hc,ha,hz,hs,hr⟩
end
def qZ(P:Program)(o:Oper)(a:Act)(w:World)(v:Value)(w':World):Prop :=
 (execOp a.eval o).run P w = .ok (.value v) w'\/((execOp a.eval o).run P w = .ok .skip w'/\v=undef)
theorem ba{α β:Type}{x:Option α}{f:α->Option β}{y:β}(h:x.bind f=some y):∃a,x=some a/\f a=some y:=by
 cases x<;>grind
section
variable {P:Program} {C:eK} {o:Oper} {br:Env} {M:aG} {j:J} {w:World} {a:Act} {x:ag×aG}
def dL{t:TypeId}{d:TypeDesc}(h:P.underlying t=some d):(underlying t).run P w = .ok d w:=by simp[underlying,h]
def pg{t:TypeId}{i:TypeInfo}(h:P.info? t=some i):(typeInfo t).run P w = .ok i w:=by simp[typeInfo,h]
theorem D1{t:TypeId}{n:Nat}(h:pS P t=some n):∃i,P.info? t=some i/\i.size=n:=by
 obtain⟨i,h1,h2⟩:=ba h
 grind
def ji{t:TypeId}{n:Nat}(h:pS P t=some n):(sizeOf t).run P w = .ok n w:=by
 obtain⟨i,h1,h2⟩:=D1 h;simp_all [sizeOf,pg]
def kL{t:TypeId}{g:Bool}(h:B8 P t=some g):(isAgg t).run P w = .ok g w:=by
 obtain⟨d,h1,h2⟩:=ba h;injection h2 with h2
 subst h2;simp[isAgg,dL h1];cases d<;>rfl
def lF(b off n:Nat):(⟨b,off,none⟩:Addr).add n=⟨b,off+n,none⟩:=by
 simp[Addr.add]
def Cs(hr:Rel j M w)(he:cn j M w br a){y:Operand}{z:gV}(hop:o.op = .move y\/o.op = .assign y)(hz:eE y=some z)(h:ef C br M (.mv z)=some x) :
  ∃v w',qZ P o a w v w'/\iL j M w x v w':=by
 cases h;exact⟨a.eval y,w,.inl (by rcases hop with hop|hop<;>simp[execOp,hop]),.still hr (cX he hz)⟩
theorem ZF(hr:Rel j M w)(he:cn j M w br a){c p q:Operand}{c' p' q':gV}(hop:o.op = .pick c p q)(hc:eE c=some c')(hp:eE p=some p')(hq:eE q=some q')
  (h:ef C br M (.pick c' p' q')=some x):∃v w',qZ P o a w v w'/\iL j M w x v w':=by
 simp[ef] at h;have h1:=cX he hc;split at h
 ·rename_i t ht;rw[ht] at h1;have h1:=h1.jh;rcases jR h with ⟨rfl,h⟩|⟨rfl,h⟩<;>(cases h)
  ·exact⟨a.eval p,w,.inl (by simp_all [execOp,asBool]),.still hr (cX he hp)⟩
  ·exact⟨a.eval q,w,.inl (by simp_all [execOp,asBool]),.still hr (cX he hq)⟩
 grind
theorem afX(hr:Rel j M w)(he:cn j M w br a){y:Operand}{z:gV}(hop:o.op = .nilCheck y)(hz:eE y=some z)(h:ef C br M (.W0 z)=some x) :
  ∃v w',qZ P o a w v w'/\iL j M w x v w':=by
 simp[ef] at h;have h1:=cX he hz;split at h
 ·rename_i id off e;cases h;rw[e] at h1;obtain⟨b,_,_,_,hv⟩:=h1.pt;exact⟨_,w,.inl (by simp_all [execOp]),.still hr (hv▸h1)⟩
 ·rename_i cs e;cases h;rw[e] at h1;obtain⟨b,off,vs,hv,_⟩:=h1.tU;exact⟨_,w,.inl (by simp_all [execOp]),.still hr (hv▸h1)⟩
 ·rename_i f caps e;cases h;rw[e] at h1;obtain⟨vs,hv,_⟩:=h1.rS;exact⟨_,w,.inl (by simp_all [execOp]),.still hr (hv▸h1)⟩
 ·rename_i id v0 i off e;cases h;rw[e] at h1;obtain⟨⟨b,q,hv⟩,_⟩:=h1.rQ;exact⟨_,w,.inl (by simp_all [execOp]),.still hr (hv▸h1)⟩
 grind
theorem afZ(hr:Rel j M w)(he:cn j M w br a){y:Operand}{z:gV}{t:TypeId}(hop:o.op = .unOp .not t y)(hz:eE y=some z)(h:ef C br M (.not z)=some x) :
  ∃v w',qZ P o a w v w'/\iL j M w x v w':=by
 simp[ef] at h;have h1:=cX he hz;split at h
 ·rename_i b e;cases h;rw[e] at h1;exact⟨_,w,.inl (by simp[execOp,hop,h1.jh]; rfl),.still hr (.plain (.bool _))⟩
 grind
theorem afY(hr:Rel j M w)(he:cn j M w br a){y:Operand}{z:gV}{t:TypeId}(hop:o.op = .unOp .neg t y)(hz:eE y=some z)(h:ef C br M (.neg z)=some x) :
  ∃v w',qZ P o a w v w'/\iL j M w x v w':=by
 simp only[ef] at h;have h1:=cX he hz;split at h
 ·rename_i k n e;cases h;rw[e] at h1;exact⟨_,w,.inl (by simp only[execOp,hop,h1.fT]; rfl),.still hr (.plain (.int _ _))⟩
 grind
theorem Zz(hr:Rel j M w)(he:cn j M w br a){y:Operand}{z:gV}{s d:TypeId}{k0 k:IntKind}(hop:o.op = .convert s d y)(hs:P.underlying s=some (.int k0))(hd:P.underlying d=some (.int k))
  (hz:eE y=some z) (h:ef C br M (.conv k z)=some x):∃v w',qZ P o a w v w'/\iL j M w x v w':=by
 simp[ef] at h;have h1:=cX he hz;split at h
 ·rename_i k1 n e;cases h;rw[e] at h1;refine⟨.int k _,w,.inl ?_,.still hr (.plain (.int _ _))⟩;simp[execOp,hop,convert,dL hs,dL hd,h1.fT,Conv.intToInt]
 grind
theorem ZH(hr:Rel j M w)(he:cn j M w br a){y:Operand}{z:gV}{s d:TypeId}(hop:o.op = .convert s d y)(hs:P.underlying s=some .string)(hd:P.underlying d=some .string)
  (hz:eE y=some z) (h:ef C br M (.same z)=some x):∃v w',qZ P o a w v w'/\iL j M w x v w':=by
 simp[ef] at h;have h1:=cX he hz;split at h
 ·rename_i l e;cases h;rw[e] at h1;refine⟨.string _,w,.inl ?_,.still hr (.plain (.str _))⟩;simp[execOp,hop,convert,dL hs,dL hd,h1.j5]
 grind
theorem amr(hr:Rel j M w)(he:cn j M w br a){f:Nat}{first caps:Array Operand}{zs:List gV}(hop:o.op = .makeFunc (.func f) first caps)(hf:first.isEmpty=true)(hz:uY caps.toList=some zs)
  (h:ef C br M (.fn f zs)=some x):∃v w',qZ P o a w v w'/\iL j M w x v w':=by
 cases h;obtain⟨h1,h2⟩:=tM he hz;have hf':first = #[]:=by grind
 refine⟨.func _ _ (caps.map a.eval),w,.inl ?_,.still hr (.func (by grind) fun i c v hc hv=>?_)⟩
 ·simp[execOp,hop,Instr.makeFunc,hf']
 grind
theorem Ld(hr:Rel j M w)(he:cn j M w br a){y:Operand}{z:gV}{i:Nat}(hop:o.op = .extract y i)(hz:eE y=some z)(h:ef C br M (.extract z i)=some x) :
  ∃v w',qZ P o a w v w'/\iL j M w x v w':=by
 simp[ef] at h;have h1:=cX he hz;split at h
 ·rename_i vs e;obtain⟨c,hc,h⟩:=bl h;cases h;rw[e] at h1;obtain⟨us,hv,hl,hu⟩:=h1.tn;rw[fK] at hc;have hi:=aK hc;have hui:us[i]?=some _:=bd (by omega)
  exact⟨_,w,.inl (by simp[execOp,hop,Instr.extract,hv,hui]),.still hr (hu i c _ hc hui)⟩
 grind
theorem ZB(hr:Rel j M w)(he:cn j M w br a){c:Call}{y:Operand}{z:gV}{t:TypeId}(hop:o.op = .call c)(hb:c.callee = .builtin .len)(ha:c.args.toList=[y])
  (ht:c.argTypes[0]?=some t) (hs:P.underlying t=some .string) (hz:eE y=some z) (h:ef C br M (.Oq z)=some x):∃v w',qZ P o a w v w'/\iL j M w x v w':=by
 simp only[ef] at h;have h1:=cX he hz;split at h
 ·rename_i l e;cases h;rw[e] at h1;have ha':c.args = #[y]:=by rw[<-ha]
  refine⟨.int .i64 _,w,.inl ?_,.still hr (.plain (.int _ _))⟩;have hsz:(bs l).size=l.length:=by rfl
  simp[execOp,hop,resolve,hb,invoke,builtin,Builtin.len_,ha',ht,dL hs,h1.j5,goInt,hsz]
 grind
theorem ZC(hr:Rel j M w)(he:cn j M w br a){c:Call}{y:Operand}{z:gV}{t e:TypeId}(hop:o.op = .call c)(hb:c.callee = .builtin .len)(ha:c.args.toList=[y])
  (ht:c.argTypes[0]?=some t) (hs:P.underlying t=some (.slice e)) (hz:eE y=some z) (h:ef C br M (.Dx z)=some x):∃v w',qZ P o a w v w'/\iL j M w x v w':=by
 simp only[ef] at h;have h1:=cX he hz;split at h
 ·rename_i tk l e;cases h;rw[e] at h1;have ha':c.args = #[y]:=by rw[<-ha]
  obtain⟨A,cap,b,off,sz,vs,hv,_⟩:=h1.dR.dR;refine⟨.int .i64 l.length,w,.inl ?_,.still hr (.plain (.int _ _))⟩;simp[execOp,hop,resolve,hb,invoke,builtin,Builtin.len_,ha',ht,dL hs,hv,goInt]
 ·rename_i id v0 sz lo hi e;cases h;rw[e] at h1;have ha':c.args = #[y]:=by rw[<-ha]
  obtain⟨A,cap,hv⟩:=h1.zm;refine⟨.int .i64 (hi-lo:Nat),w,.inl ?_,.still hr (.plain (.int _ _))⟩;simp[execOp,hop,resolve,hb,invoke,builtin,Builtin.len_,ha',ht,dL hs,hv,goInt]
 grind
theorem Fx(hr:Rel j M w)(he:cn j M w br a){c:Call}{y y':Operand}{z z':gV}{mx:Bool}(hop:o.op = .call c)(hb:c.callee = .builtin (if mx then .max else .min))(ha:c.args.toList=[y,y'])
  (hz:eE y=some z) (hz':eE y'=some z') (h:ef C br M (.yV mx z z')=some x):∃v w',qZ P o a w v w'/\iL j M w x v w':=by
 simp only[ef] at h;have h1:=cX he hz;have h2:=cX he hz';split at h
 ·rename_i k n k' n' e e';cases h;rw[e] at h1;rw[e'] at h2;have ha':c.args = #[y,y']:=by rw[<-ha]
  refine⟨_,w,.inl ?_,.still hr (.plain (.int _ _))⟩;cases mx
  ·simp[execOp,hop,resolve,hb,invoke,builtin,Builtin.min_,Builtin.min2,ha',h1.fT,h2.fT,List.foldlM]
  ·simp[execOp,hop,resolve,hb,invoke,builtin,Builtin.max_,Builtin.max2,ha',h1.fT,h2.fT]
 grind
theorem OO(hr:Rel j M w)(he:cn j M w br a){y i:Operand}{z z':gV}{t:TypeId}(hop:o.op = .index t y i)(ht:P.underlying t=some .string)(hz:eE y=some z)(hz':eE i=some z')
  (h:ef C br M (.w5 z z')=some x):∃v w',qZ P o a w v w'/\iL j M w x v w':=by
 simp only[ef] at h;have h1:=cX he hz;have h2:=cX he hz';split at h
 ·rename_i l k n e e';obtain⟨hn,h⟩:=db h;obtain⟨b,hb,h⟩:=bl h;cases h;rw[e] at h1;rw[e'] at h2;refine⟨.int .u8 b.toNat,w,.inl ?_,.still hr (.plain (.int _ _))⟩
  have hg:(bs l)[n.toNat]?=some b:=by
   have cz:=aK hb;have:n.toNat<(bs l).size:=by simp_all [bs,ByteArray.size]
   rw[getElem?_pos (bs l) n.toNat this];congr 1
   have h3:l[n.toNat]=b:=by
    have:=ai cz
    grind
   exact h3
  simp[execOp,hop,Instr.index,asIntOf,dL ht,h1.j5,h2.fT,hn,hg]
 ·cases h
theorem OL(hr:Rel j M w)(he:cn j M w br a){y:Operand}{z:gV}{s:TypeId}{fs:Array Field}{f:Field}{i:Nat}(hop:o.op = .field s y i)(hs:P.underlying s=some (.struct fs))(hf:fs[i]?=some f)
  (hg:B8 P f.type=some false) (hz:eE y=some z) (h:ef C br M (.AN f.offset z)=some x):∃v w',qZ P o a w v w'/\iL j M w x v w':=by
 simp[ef] at h;have h1:=cX he hz;split at h
 ·rename_i cs e;obtain⟨c,hc,h⟩:=bl h;cases h;rw[e] at h1;obtain⟨us,hv,hl,hu⟩:=h1.ml;rw[fK] at hc;have hi:=aK hc;have hui:us[f.offset]?=some _:=bd (by omega)
  refine⟨_,w,.inl ?_,.still hr (hu _ c _ hc hui)⟩;simp[execOp,hop,Instr.field,dL hs,hf,asAgg,hv,part,kL hg,hui]
 grind
theorem OM(hr:Rel j M w)(he:cn j M w br a){y:Operand}{z:gV}{s:TypeId}{fs:Array Field}{f:Field}{i n:Nat}(hop:o.op = .field s y i)(hs:P.underlying s=some (.struct fs))(hf:fs[i]?=some f)
  (hg:B8 P f.type=some true) (hn:pS P f.type=some n) (hz:eE y=some z) (h:ef C br M (.AO f.offset n z)=some x):∃v w',qZ P o a w v w'/\iL j M w x v w':=by
 simp only[ef] at h;have h1:=cX he hz;split at h
 ·rename_i cs e;split at h
  ·cases h;rw[e] at h1;obtain⟨us,hv,hl,hu⟩:=h1.ml;refine⟨.agg (us.extract f.offset (f.offset+n)),w,.inl ?_,.still hr (.agg (by grind) fun p c u hc hu'=>?_)⟩
   ·simp[execOp,hop,Instr.field,dL hs,hf,asAgg,hv,part,kL hg,ji hn]
   grind
  ·cases h
 ·cases h
theorem UZ(hr:Rel j M w)(he:cn j M w br a){y:Operand}{z:gV}{s:TypeId}{fs:Array Field}{f:Field}{i:Nat}(hop:o.op = .fieldAddr s y i)(hs:P.underlying s=some (.struct fs))(hf:fs[i]?=some f)
  {n:Nat} (hn:pS P f.type=some n) (hpos:0<n) (hz:eE y=some z) (h:ef C br M (.iT f.offset z)=some x):∃v w',qZ P o a w v w'/\iL j M w x v w':=by
 simp only[ef] at h;have h1:=cX he hz
 have hrun:∀b off,a.eval y = .pointer (some ⟨b,off,none⟩)->(execOp a.eval o).run P w = .ok (.value (.pointer (some ⟨b,off+f.offset,none⟩))) w:=by
  intro b off hv;have hne:n≠0:=by omega
  simp[execOp,hop,Instr.fieldAt,dL hs,hf,Instr.sureAddr,hv,fieldPlace,ji hn,hne,lF]
 split at h
 ·rename_i id off e;cases h;rw[e] at h1;obtain⟨b,h2,h3,h4,hv⟩:=h1.pt;exact⟨_,w,.inl (hrun _ _ hv),.still hr (.ptr h2 h3 h4)⟩
 ·rename_i cs e;cases h;rw[e] at h1;obtain⟨b,off,vs,hv,hc⟩:=h1.tU;refine⟨_,w,.inl (hrun _ _ hv),.still hr (.iQ (vs:=fun k=>vs (f.offset+k)) fun k c hk=>?_)⟩
  rw[cI] at hk;have:=hc _ c hk;rw[Nat.add_assoc];omega
 ·rename_i id v0 i0 o0 e;cases h;rw[e] at h1;obtain⟨⟨b,q,hv⟩,h2,h3,h4⟩:=h1.rQ;refine⟨_,w,.inl (hrun _ _ hv),.still hr (.iJ ⟨_,_,rfl⟩ h2 h3 fun sz v' xs hM=>?_)⟩
  grind
 grind
end
theorem WX(l:List UInt8):∀(n i:Nat)(acc:List UInt8),i+n=l.length->ByteArray.toList.loop (bs l) i acc=acc.reverse++l.drop i:=by
 intro n;induction n with
 |zero =>
  simp_all [bs,ByteArray.size,ByteArray.toList.loop]
 |succ n ih =>
  intro i acc h;have hs:(bs l).size=l.length:=by rfl
  rw[ByteArray.toList.loop,bc (by omega)]
  grind [bs,ByteArray.get!,List.reverse_cons,List.append_assoc,List.singleton_append,List.drop_eq_getElem_cons]
def uW(l:List UInt8):(bs l).toList=l:=by
 rw[ByteArray.toList,WX l l.length 0 _ (by simp)]; rfl
def LJ(l:List UInt8):(bs l).size=l.length:=by rfl
def JD:∀a b:List UInt8,Op.bytesLess a b=strLt a b
 | [],[]=>rfl
 | [],_::_=>rfl
 |_::_,[]=>rfl
 |a::x,b::y=>by simp[Op.bytesLess,strLt,JD x y]
def yD(a:List UInt8)(l h:Nat):(bs a).extract l h=bs ((a.take h).drop l):=by
 apply ByteArray.ext;simp[bs,List.drop_take]
section
variable {P:Program} {C:eK} {o:Oper} {br:Env} {M:aG} {j:J} {w:World} {a:Act} {x:ag×aG}
def N8(op:BinOp)(t:TypeId)(y z:Operand)(k k':IntKind)(m n:Int):(eqGuard op t y z (.int k m) (.int k' n)).run P w = .ok () w:=by
 simp[eqGuard]
def N9(op:BinOp)(t:TypeId)(y z:Operand)(m n:ByteArray):(eqGuard op t y z (.string m) (.string n)).run P w = .ok () w:=by
 simp[eqGuard]
def Dg(op:BinOp)(t:TypeId)(y z:Operand)(m n:Bool):(eqGuard op t y z (.bool m) (.bool n)).run P w = .ok () w:=by
 simp[eqGuard]
theorem WT{op:BinOp}{b:Nc}(hb:NB op=some b){t:TypeId}{k k':IntKind}{m n:Int}{r:ag}(h:pM b (.int k m) (.int k' n)=some r) :
  ∃v,(binOp op t (.int k m) (.int k' n)).run P w = .ok v w/\fM w (ny j M w) r v:=by
 cases op<;>simp only[NB,reduceCtorEq,eX] at hb<;>subst hb<;>simp only[pM] at h
 case shl =>
  split at h
  ·rename_i hn;cases h;exact⟨_,by simp[binOp,Op.shift,Int.not_lt.2 hn],.int _ _⟩
  ·cases h
 case shr =>
  split at h
  ·rename_i hn;cases h;exact⟨_,by simp[binOp,Op.shift,Int.not_lt.2 hn],.int _ _⟩
  grind
 case quo =>
  split at h
  ·cases h
  ·rename_i hk;split at h
   ·cases h
   ·rename_i hn;cases h;have hk:k=k':=by grind
    subst hk;exact⟨_,by simp[binOp,Op.intDiv,hn],.int _ _⟩
 case rem =>
  split at h
  ·cases h
  ·rename_i hk;split at h
   ·cases h
   ·rename_i hn;cases h;have hk:k=k':=by grind
    subst hk;exact⟨_,by simp[binOp,Op.intDiv,hn],.int _ _⟩
 case and =>
  split at h
  ·cases h
  ·rename_i hk;cases h;have hk:k=k':=by grind
   subst hk;exact⟨_,by simp[binOp,Op.intBits]; rfl,.int _ _⟩
 case or =>
  split at h
  ·grind
  ·rename_i hk;cases h;have hk:k=k':=by grind
   subst hk;exact⟨_,by simp[binOp,Op.intBits]; rfl,.int _ _⟩
 case xor =>
  split at h
  ·grind
  ·rename_i hk;cases h;have hk:k=k':=by grind
   subst hk;exact⟨_,by simp[binOp,Op.intBits]; rfl,.int _ _⟩
 all_goals
  split at h
  ·cases h
  ·rename_i hk;cases h;have hk:k=k':=by simpa using hk
   subst hk
   first
    |exact⟨_,by simp[binOp,Op.intArith],.int _ _⟩
    |exact⟨_,by simp[binOp,Op.intCmp],.bool _⟩
theorem WU{op:BinOp}{b:Nc}(hb:NB op=some b){t:TypeId}{m n:List UInt8}{r:ag}(h:pM b (.str m) (.str n)=some r) :
  ∃v,(binOp op t (.string (bs m)) (.string (bs n))).run P w = .ok v w/\fM w (ny j M w) r v:=by
 cases op<;>simp only[NB,reduceCtorEq,eX] at hb<;>subst hb<;>simp only[pM,reduceCtorEq] at h
 case add =>
  split at h
  ·grind
  ·cases h;refine⟨.string (bs m++bs n),?_,by exact .str _⟩
   simp_all [binOp,Op.stringOp,LJ,aH]
 all_goals
  cases h;exact⟨_,by simp only[binOp,Op.stringOp,uW,JD]; rfl,.bool _⟩
def UR(hr:Rel j M w)(he:cn j M w br a){op:BinOp}{b:Nc}{y y':Operand}{z z':gV}{t t':TypeId}(hop:o.op = .binOp op t y y' t')(hb:NB op=some b)(hz:eE y=some z)(hz':eE y'=some z')
  (h:ef C br M (.bin b z z')=some x):∃v w',qZ P o a w v w'/\iL j M w x v w':=by
 simp only[ef] at h;have h1:=cX he hz;have h2:=cX he hz';obtain⟨r,hr',h⟩:=bl h;cases h;generalize hu:z.ev br=u at *;generalize hu':z'.ev br=u' at *;cases u<;>cases u'<;>try (simp[pM] at hr'; done)
 ·rename_i k m k' n;obtain⟨v,hv,hp⟩:=WT (P:=P) (w:=w) (j:=j) (M:=M) (t:=t) hb hr';exact⟨v,w,.inl (by simp[execOp,hop,h1.fT,h2.fT,N8,hv]),.still hr (.plain hp)⟩
 ·rename_i m n;obtain⟨v,hv,hp⟩:=WU (P:=P) (w:=w) (j:=j) (M:=M) (t:=t) hb hr';exact⟨v,w,.inl (by simp[execOp,hop,h1.j5,h2.j5,N9,hv]),.still hr (.plain hp)⟩
theorem UY(hr:Rel j M w)(he:cn j M w br a){neg:Bool}{y y':Operand}{z z':gV}{t t':TypeId}(hop:o.op = .binOp (if neg then .neq else .eql) t y y' t')(ht:P.underlying t=some .bool)
  (hz:eE y=some z) (hz':eE y'=some z') (h:ef C br M (.eqB neg z z')=some x):∃v w',qZ P o a w v w'/\iL j M w x v w':=by
 simp only[ef] at h;have h1:=cX he hz;have h2:=cX he hz';split at h
 ·rename_i m n e e';cases h;rw[e] at h1;rw[e'] at h2
  have heq:(Op.equal t (.bool m) (.bool n)).run P w = .ok (m==n) w:=by
   unfold Op.equal;rw[show Op.maxDepth=9999+1 from rfl,Op.equalIn]
   simp[dL ht]
  cases neg
  ·exact⟨.bool (m==n),w,.inl (by simp[execOp,hop,h1.jh,h2.jh,Dg,binOp,heq]),.still hr (.plain (.bool _))⟩
  ·exact⟨.bool (!(m==n)),w,.inl (by simp[execOp,hop,h1.jh,h2.jh,Dg,binOp,heq]),.still hr (.plain (.bool _))⟩
 grind
theorem pW{br:Env}{a:Act}(he:cn j M w br a){y:Operand}{z:gV}(hz:eE y=some z){n:Nat}{i:Int}(h:fF br n (some z)=some i){m:Nat}(h0:0<=i)(h1:i<=m)(code:BoundsCode) :
  (Instr.sliceBound (a.eval y) m code).run P w = .ok i.toNat w:=by
 unfold fF at h;have h2:=cX he hz;simp at h;split at h
 ·rename_i k i' e;cases h;rw[e] at h2;simp[Instr.sliceBound,h2.fT,asIntOf,h0,h1]
 grind
theorem qk{y:Option Operand}{z:Option gV}(h:B9 y=some z):(y=none/\z=none)\/∃y' z',y=some y'/\z=some z'/\eE y'=some z':=by
 cases y with
 |none=>grind [B9]
 |some y =>
  obtain⟨z',h1,h2⟩:=ba h
  grind
def yC{br:Env}{a:Act}(he:cn j M w br a){lo hi:Option Operand}{lo' hi':Option gV}(hlo:B9 lo=some lo')(hhi:B9 hi=some hi'){len cap:Nat}{l h:Int}
  (h1:fF br len hi'=some h) (h2:fF br 0 lo'=some l) (hh0:0<=h) (hh:h<=len) (hl0:0<=l) (hl:l<=h) (hc:len<=cap) (isS:Bool) :
  (Instr.sliceBounds isS len cap (lo.map a.eval) (hi.map a.eval) none).run P w = .ok (l.toNat,h.toNat,cap) w:=by
 unfold Instr.sliceBounds;rcases qk hhi with ⟨rfl,rfl⟩|⟨y,z,rfl,rfl,hz⟩<;>rcases qk hlo with ⟨rfl,rfl⟩|⟨y',z',rfl,rfl,hz'⟩
 ·simp[fF] at h1 h2; subst h1; subst h2; rfl
 ·simp[fF] at h1; subst h1;have:=pW (P:=P) he hz' h2 hl0 (by omega) .sliceB
  simp_all
 ·simp[fF] at h2; subst h2;have:=pW (P:=P) he hz h1 hh0 (m:=cap) (by omega) (if isS then .sliceAcap else .sliceAlen)
  simp_all
 ·have t1:=pW (P:=P) he hz h1 hh0 (m:=cap) (by omega) (if isS then .sliceAcap else .sliceAlen)
  have t2:=pW (P:=P) he hz' h2 hl0 (m:=h.toNat) (by omega) .sliceB
  simp_all
theorem OQ(hr:Rel j M w)(he:cn j M w br a){y:Operand}{lo hi:Option Operand}{z:gV}{lo' hi':Option gV}{t:TypeId}(hop:o.op = .slice t y lo hi none)(ht:P.underlying t=some .string)
  (hz:eE y=some z) (hlo:B9 lo=some lo') (hhi:B9 hi=some hi') (h:ef C br M (.xl z lo' hi')=some x):∃v w',qZ P o a w v w'/\iL j M w x v w':=by
 simp[ef] at h;have h1:=cX he hz;split at h
 ·rename_i s e;obtain⟨hh,h2,h⟩:=bl h;obtain⟨l,h3,h⟩:=bl h;obtain⟨⟨c1,c2,c3,c4⟩,h⟩:=db h;cases h;rw[e] at h1;have hb:=yC (P:=P) he hlo hhi h2 h3 c1 c2 c3 c4 (aC _) false;refine⟨.string _,w,.inl ?_,.still hr (.plain (.str _))⟩;simp[execOp,hop,Instr.sliceAt,dL ht,Instr.slice,h1.j5,LJ,hb,yD]
 grind
theorem fM.part{ib:Nat->Nat->Prop}{xs:List ag}{A:Option Addr}{cap m l h n:Nat}(hx:fM w ib (.slice .sh xs) (.slice A xs.length cap))(hw:wid xs n)(hl:l<=h)(hh:h<=xs.length)(hm:h<=m) :
  fM w ib (.slice .sh ((xs.take h).drop l)) (.slice (if m=l then A else A.map (·.add (l*n))) (h-l) (m-l)):=by
 obtain⟨A',cap',b,off,sz,vs,hv,hc,ha,hz,hs,hrp⟩:=hx.dR;injection hv with e1 e2 e3
 subst e1; subst e3;have dQ:((xs.take h).drop l).length=h-l:=by simp_all
 refine .slice _ _ _ _ b (off+l*sz) sz (fun p=>vs (l*sz+p)) dQ.symm (by omega) (fun hne=>?_) (fun x hx=>hz x (dI (dr hx))) (fun i x k c hi hk=>?_) (fun i x k c hi hk=>?_)
 ·have:0<h-l:=by
   rw[<-dQ]; exact gw.2 hne
  rw[aH (by omega)]
  have hne':xs≠[]:=by grind
  rw[ha hne']
  have:n=sz:=by
   obtain⟨x,r,rfl⟩:=ec hne';rw[<-hw x (by simp),hz x (by simp)]
  simp[lF,this]
 ·grind
 grind
theorem OS(hr:Rel j M w)(he:cn j M w br a){y:Operand}{lo hi mx:Option Operand}{z:gV}{lo' hi' mx':Option gV}{t e:TypeId}{n:Nat}(hop:o.op = .slice t y lo hi mx)(ht:P.underlying t=some (.slice e))
  (hn:pS P e=some n) (hz:eE y=some z) (hlo:B9 lo=some lo') (hhi:B9 hi=some hi') (hmx:B9 mx=some mx') (hmh:mx'.isNone=true\/hi'.isSome=true)
  (h:ef C br M (.zb n z lo' hi' mx')=some x):∃v w',qZ P o a w v w'/\iL j M w x v w':=by
 simp only[ef] at h;have h1:=cX he hz;split at h
 ·rename_i tk xs ez;obtain⟨hw,h⟩:=db h;obtain⟨hh,h2,h⟩:=bl h;obtain⟨l,h3,h⟩:=bl h;rw[ez] at h1;have hp:=h1.dR;obtain⟨A,cap,b,off,sz,vs,hv,hc,_⟩:=hp.dR;rw[hv] at hp;rcases qk hmx with ⟨rfl,rfl⟩|⟨my,mz,rfl,rfl,hmz⟩
  ·simp only at h;obtain⟨⟨c1,c2,c3,c4⟩,h⟩:=db h;cases h;have hb:=yC (P:=P) he hlo hhi (cap:=cap) h2 h3 c1 c2 c3 c4 hc true;refine⟨_,w,.inl ?_,.still hr (.plain (hp.part (m:=cap) (l:=l.toNat) (h:=hh.toNat) hw (by omega) (by omega) (by omega)))⟩
   simp[execOp,hop,Instr.sliceAt,dL ht,Instr.slice,hv,hb,ji hn]
  ·simp only at h;split at h
   ·rename_i mk m em;obtain⟨⟨c0,c0',c1,c2,c3,c4⟩,h⟩:=db h;have hm:=cX he hmz;rw[em] at hm
    have hmr:(Instr.sliceBound (a.eval my) cap .slice3Acap).run P w = .ok m.toNat w:=by
     simp[Instr.sliceBound,hm.fT,asIntOf,c0,show m<=cap by omega]
    have hbs:(Instr.sliceBounds true xs.length cap (lo.map a.eval) (hi.map a.eval) (some (a.eval my))).run P w = .ok (l.toNat,hh.toNat,m.toNat) w:=by
     unfold Instr.sliceBounds;rcases qk hhi with ⟨rfl,rfl⟩|⟨hy,hz',rfl,rfl,hhz⟩
     ·simp at hmh
     ·have t1:=pW (P:=P) he hhz h2 c1 (m:=m.toNat) (by omega) .slice3B
      rcases qk hlo with ⟨rfl,rfl⟩|⟨y',z',rfl,rfl,hz'⟩
      ·simp[fF] at h3; subst h3;simp[hmr,t1]
      ·have t2:=pW (P:=P) he hz' h3 c3 (m:=hh.toNat) (by omega) .slice3C
       simp[hmr,t1,t2]
    have hrun:(execOp a.eval o).run P w = .ok (.value (.slice (if m.toNat=l.toNat then A else A.map (·.add (l.toNat*n))) (hh.toNat-l.toNat) (m.toNat-l.toNat))) w:=by
     simp[execOp,hop,Instr.sliceAt,dL ht,Instr.slice,hv,hbs,ji hn]
    rcases jR h with ⟨hm0,h⟩|⟨hm0,h⟩<;>(cases h)
    ·have hm0:m=0:=by simpa using hm0
     subst hm0;have e1:hh=0:=by omega
     have e2:l=0:=by omega
     subst e1; subst e2;exact⟨_,w,.inl hrun,.still hr (.c0 _)⟩
    ·exact⟨_,w,.inl hrun,.still hr (.plain (hp.part (m:=m.toNat) hw (by omega) (by omega) (by omega)))⟩
   ·cases h
 ·rename_i id v0 sz' al ah ez;obtain⟨hsz,h⟩:=db h;subst hsz;obtain⟨hh,h2,h⟩:=bl h;obtain⟨l,h3,h⟩:=bl h;rw[ez] at h1;obtain⟨hs0,g1,g2,g3⟩:=h1.nR
  obtain⟨A,cap,hv,hc,hA⟩:∃A cap,a.eval y = .slice A (ah-al) cap/\ah-al<=cap/\(0<ah-al->∃b off,A=some ⟨b,off,none⟩):=by
   grind
  have key:∀m:Nat,m<=cap->0<=l->l<hh->hh<=m->hh<=(ah-al:Nat)->gj j M w (.cS id v0 sz' (al+l.toNat) (al+hh.toNat)) (.slice (A.map (·.add (l.toNat*sz'))) (hh.toNat-l.toNat) (m-l.toNat)):=by
   intro m hmc hl0 hlh hhm hha;obtain⟨b,off,rfl⟩:=hA (by omega)
   simp only[eP,lF];have e0:al+hh.toNat-(al+l.toNat)=hh.toNat-l.toNat:=by omega
   have e6:hh.toNat-l.toNat<=m-l.toNat:=by clear g3 g2 h1 hv; omega
   have e7:al+l.toNat+(m-l.toNat)<=al+cap:=by omega
   have e8:al+l.toNat<=al+hh.toNat:=by omega
   have e9:al+hh.toNat<=ah:=by clear g3 g2 h1 hv; omega
   refine .cS (.inl ⟨b,off+l.toNat*sz',m-l.toNat,by rw[e0],by rw[e0]; exact e6⟩) g1 g2 fun sz v' xs hM=>?_
   obtain⟨k1,k2⟩:=g3 sz v' xs hM;refine⟨k1,fun hev=>?_⟩
   obtain⟨l0,l1,l2,⟨rfl,_⟩|⟨b',cap',vs,t',l3,l4,l5,l6,l7⟩⟩:=k2 hev
   ·simp at l2; omega
   rw[hv] at l4;injection l4 with l4 l4' l4''
   injection l4 with l4; injection l4 with e1 e2 e3
   subst e1; subst e2; subst l4'';exact⟨l0,e8,aW e9 l2,.inr ⟨b,m-l.toNat,vs,t',l3,by rw[e0,bJ],by rw[e0]; exact e6,l6,aW (bj _ e7) l7⟩⟩
  rcases qk hmx with ⟨rfl,rfl⟩|⟨my,mz,rfl,rfl,hmz⟩
  ·simp only at h;obtain⟨⟨c1,c2,c3,c4⟩,h⟩:=db h;have hb:=yC (P:=P) he hlo hhi (cap:=cap) h2 h3 c1 c2 c3 c4 hc true
   have hrun:(execOp a.eval o).run P w = .ok (.value (.slice (if cap=l.toNat then A else A.map (·.add (l.toNat*sz'))) (hh.toNat-l.toNat) (cap-l.toNat))) w:=by
    simp[execOp,hop,Instr.sliceAt,dL ht,Instr.slice,hv,hb,ji hn]
   rcases jR h with ⟨hm0,h⟩|⟨hm0,h⟩<;>(cases h)
   ·have:l=hh:=by simpa using hm0
    subst this;refine⟨_,w,.inl hrun,.still hr (.plain ?_)⟩;rw[Nat.sub_self];exact fM.nil _ _ _
   ·have:l≠hh:=by simpa using hm0
    rw[aH (by omega)] at hrun
    exact⟨_,w,.inl hrun,.still hr (key cap (aC _) c3 (by omega) (by omega) c2)⟩
  ·simp only at h;split at h
   ·rename_i mk m em;obtain⟨⟨c0,c0',c1,c2,c3,c4⟩,h⟩:=db h;have hm:=cX he hmz;rw[em] at hm
    have hmr:(Instr.sliceBound (a.eval my) cap .slice3Acap).run P w = .ok m.toNat w:=by
     simp[Instr.sliceBound,hm.fT,asIntOf,c0,show m<=cap by omega]
    have hbs:(Instr.sliceBounds true (ah-al) cap (lo.map a.eval) (hi.map a.eval) (some (a.eval my))).run P w = .ok (l.toNat,hh.toNat,m.toNat) w:=by
     unfold Instr.sliceBounds;rcases qk hhi with ⟨rfl,rfl⟩|⟨hy,hz',rfl,rfl,hhz⟩
     ·simp at hmh
     ·have t1:=pW (P:=P) he hhz h2 c1 (m:=m.toNat) (by omega) .slice3B
      rcases qk hlo with ⟨rfl,rfl⟩|⟨y',z',rfl,rfl,hz'⟩
      ·simp[fF] at h3; subst h3;simp[hmr,t1]
      ·have t2:=pW (P:=P) he hz' h3 c3 (m:=hh.toNat) (by omega) .slice3C
       simp[hmr,t1,t2]
    have hrun:(execOp a.eval o).run P w = .ok (.value (.slice (if m.toNat=l.toNat then A else A.map (·.add (l.toNat*sz'))) (hh.toNat-l.toNat) (m.toNat-l.toNat))) w:=by
     simp[execOp,hop,Instr.sliceAt,dL ht,Instr.slice,hv,hbs,ji hn]
    rcases jR h with ⟨hm0,h⟩|⟨hm0,h⟩
    ·cases h;have hm0:m=0:=by simpa using hm0
     subst hm0;have e1:hh=0:=by omega
     have e2:l=0:=by omega
     subst e1; subst e2;exact⟨_,w,.inl hrun,.still hr (.c0 _)⟩
    ·rcases jR h with ⟨hm1,h⟩|⟨hm1,h⟩<;>(cases h)
     ·have:l=hh:=by simpa using hm1
      subst this;refine⟨_,w,.inl hrun,.still hr (.plain ?_)⟩;rw[Nat.sub_self];exact fM.nil _ _ _
     ·have:l≠hh:=by simpa using hm1
      rw[aH (by omega)] at hrun
      exact⟨_,w,.inl hrun,.still hr (key m.toNat (by omega) c3 (by omega) (by omega) (by omega))⟩
   ·cases h
 ·cases h
theorem U0(hr:Rel j M w)(he:cn j M w br a){y i:Operand}{z z':gV}{t e:TypeId}{n:Nat}(hop:o.op = .indexAddr t y i)(ht:P.underlying t=some (.slice e))(hn:pS P e=some n)
  (hz:eE y=some z) (hz':eE i=some z') (h:ef C br M (.vi n z z')=some x):∃v w',qZ P o a w v w'/\iL j M w x v w':=by
 simp only[ef] at h;have h1:=cX he hz;have h2:=cX he hz';split at h
 ·rename_i tk xs k m ez ez';obtain⟨h0,h⟩:=db h;obtain⟨el,hel,h⟩:=bl h;split at h
  ·rename_i hwd;cases h;rw[ez] at h1;rw[ez'] at h2;obtain⟨A,cap,b,off,sz,vs,hv,hc,ha,hsz,hs,hrp⟩:=h1.dR.dR;have cz:=aK hel;have hne:xs≠[]:=by rintro rfl; simp at cz
   have hA:=ha hne;have hsz':sz=n:=by rw[<-hwd]; exact(hsz el (aQ hel)).symm
   subst hsz';subst hA;refine⟨.pointer (some ⟨b,off+m.toNat*sz,none⟩),w,.inl ?_,.still hr (.iQ (vs:=fun q=>vs (m.toNat*sz+q)) fun q c hq=>?_)⟩
   ·have hm:m<xs.length:=by omega
    simp[execOp,hop,Instr.indexAt,dL ht,hv,h2.fT,asIntOf,h0,hm,ji hn,lF]
   grind
  ·cases h
 ·rename_i id v0 sz' lo hi k m ez ez';obtain⟨⟨h0,hm,hsz⟩,h⟩:=db h;cases h;subst hsz;rw[ez] at h1;rw[ez'] at h2;have hlt0:lo+m.toNat<hi:=by omega
  obtain⟨b,off,cap,hv,hcap⟩:=h1.WI (by omega)
  obtain⟨_,g1,g2,g3⟩:=h1.nR;refine⟨.pointer (some ⟨b,off+m.toNat*sz',none⟩),w,.inl ?_,.still hr (.iJ ⟨_,_,rfl⟩ g1 g2 fun sz v' xs hM=>?_)⟩
  ·simp[execOp,hop,Instr.indexAt,dL ht,hv,h2.fT,asIntOf,h0,hm,ji hn,lF]
  ·obtain⟨k1,k2⟩:=g3 sz v' xs hM;refine⟨k1,fun he=>?_⟩
   obtain⟨rfl,l1,l2,⟨rfl,_⟩|⟨b',cap',vs,t',l3,l4,l5,l6,l7⟩⟩:=k2 he
   ·exact absurd (bz hlt0 l2) (by simp)
   rw[hv] at l4
   grind [Nat.lt_of_lt_of_le,Nat.add_mul]
 ·cases h
def GH(b off:Nat)(u:Nat->Value):∀(n i:Nat)(acc:Array Value),(∀k,k<n->w.cell? ⟨b,off+(i+k),none⟩=some (u (i+k))) ->
  (loadCellsFrom ⟨b,off,none⟩ i n acc).run P w = .ok (acc++((List.range n).map fun k=>u (i+k)).toArray) w:=by
 intro n;induction n with
 |zero=>simp[loadCellsFrom]
 |succ n ih =>
  intro i acc h;have h0:=h 0 (by simp)
  simp_all [loadCellsFrom,lF,List.range_succ_eq_map,Function.comp_def,Nat.add_comm,Nat.add_left_comm]
theorem pa(b off n:Nat)(u:Nat->Value)(h:∀k,k<n->w.cell? ⟨b,off+k,none⟩=some (u k)) :
  (loadCells ⟨b,off,none⟩ n).run P w = .ok (((List.range n).map u).toArray) w:=by
 have:=GH (P:=P) (w:=w) b off u n 0 #[] (by grind)
 grind [loadCells]
theorem wR{id b:Nat}{cs:List ag}(hr:Rel j M w)(hM:M[id]?=some (.cells cs))(hj:j id=some b):∃vs t,w.heap[b]?=some (.cells vs t (0,0))/\cs.length=vs.size /\
  (∀(q:Nat)(c:ag)(v:Value),cs[q]?=some c->vs[q]?=some v->gj j M w c v)/\∀q,w.cell? ⟨b,q,none⟩=vs[q]?:=by
 obtain⟨b',vs,t,h1,h2,h3,h4⟩:=hr.box _ _ hM
 grind [World.cell?]
theorem Hs(hr:Rel j M w){id ver i off sz:Nat}{xs:List ag}{v:Value}{el:ag}(hM:M[id]?=some (.arr sz ver xs))(h:gj j M w (.iJ id ver i off) v)(hel:xs[i]?=some el) :
  ∃b,v = .pointer (some ⟨b,i*sz+off,none⟩)/\∀(k:Nat)(c:ag),el.cells[off+k]?=some c->∃u,w.cell? ⟨b,i*sz+off+k,none⟩=some u/\fM w (ny j M w) c u:=by
 obtain⟨_,_,_,g⟩:=h.rQ;obtain⟨g1,b,g2,g3⟩:=(g _ _ _ hM).2 rfl;obtain⟨b',vs,t,k1,k2,k3,k4,k5⟩:=hr.zn hM g2
 grind [World.cell?]
theorem U3(hr:Rel j M w)(he:cn j M w br a){y:Operand}{z:gV}{t:TypeId}(hop:o.op = .load t y)(hg:B8 P t=some false)(hz:eE y=some z)(h:ef C br M (.ij z)=some x) :
  ∃v w',qZ P o a w v w'/\iL j M w x v w':=by
 simp only[ef] at h;have h1:=cX he hz;split at h
 ·rename_i id off e;rw[e] at h1;obtain⟨b,_,_,hj,hv⟩:=h1.pt;rw[fK] at h;split at h
  ·rename_i cs hM;obtain⟨c,hc,h⟩:=bl h;cases h;rw[fK] at hc;obtain⟨vs,t0,hw,hl,hcs,hcell⟩:=wR hr hM hj;have cz:=aK hc;have hu:vs[off]?=some (vs[off]'(by omega)):=bd (by omega)
   refine⟨_,w,.inl ?_,.still hr (hcs _ c _ hc hu)⟩;simp[execOp,hop,Instr.loadAt,Instr.sureAddr,hv,loadVar,kL hg,hcell,hu]
  grind
 ·rename_i cs e;rw[e] at h1;obtain⟨b,off,vs,hv,hc⟩:=h1.tU;obtain⟨c,hc0,h⟩:=bl h;cases h;rw[fK] at hc0;obtain⟨h2,_,h3⟩:=hc 0 c hc0;refine⟨_,w,.inl ?_,.still hr (.plain h3)⟩;simp_all [execOp,Instr.loadAt,Instr.sureAddr,loadVar,kL]
 ·rename_i id ver i off e;rw[e] at h1;rw[fK] at h;split at h
  ·rename_i sz v0 xs hM;split at h
   ·rename_i hv0;subst hv0;obtain⟨el,hel,h⟩:=bl h;obtain⟨c,hc,h⟩:=bl h;cases h;rw[fK] at hc;obtain⟨b,hv,hcell⟩:=Hs hr hM h1 hel;obtain⟨u,l1,l2⟩:=hcell 0 c (by omega)
    refine⟨u,w,.inl ?_,.still hr (.plain l2)⟩;simp_all [execOp,Instr.loadAt,Instr.sureAddr,loadVar,kL]
   grind
  ·cases h
 grind
theorem U4(hr:Rel j M w)(he:cn j M w br a){y:Operand}{z:gV}{t:TypeId}{n:Nat}(hop:o.op = .load t y)(hg:B8 P t=some true)(hn:pS P t=some n)(hz:eE y=some z)
  (h:ef C br M (.kU n z)=some x):∃v w',qZ P o a w v w'/\iL j M w x v w':=by
 simp only[ef] at h;have h1:=cX he hz;split at h
 ·rename_i id off e;rw[e] at h1;obtain⟨b,_,_,hj,hv⟩:=h1.pt;rw[fK] at h;split at h
  ·rename_i cs hM;split at h
   ·rename_i hle;cases h;obtain⟨vs,t0,hw,hl,hcs,hcell⟩:=wR hr hM hj
    have hrun:=pa (P:=P) (w:=w) b off n (fun k=>(vs[off+k]?).getD undef) fun k hk=>by
     rw[hcell,bd (by omega)]; simp
    refine⟨_,w,.inl (by simp[execOp,hop,Instr.loadAt,Instr.sureAddr,hv,loadVar,kL hg,ji hn,hrun]; rfl),.still hr (.agg (by grind) fun p c u hc hu=>?_)⟩
    grind
   ·cases h
  ·cases h
 ·rename_i cs e;split at h
  ·rename_i hle;cases h;rw[e] at h1;obtain⟨b,off,vs,hv,hc⟩:=h1.tU;have hrun:=pa (P:=P) (w:=w) b off n vs fun k hk=>(hc k _ (ai (by omega))).1
   refine⟨_,w,.inl (by simp[execOp,hop,Instr.loadAt,Instr.sureAddr,hv,loadVar,kL hg,ji hn,hrun]; rfl),.still hr (.agg (by simp; omega) fun p c u hc' hu=>?_)⟩
   have hp:p<n:=by have:=aK hc'; simp_all
   rw[bF hp] at hc';have hu':u=vs p:=by simp_all
   subst hu';exact .plain (hc p c hc').2.2
  ·cases h
 ·rename_i id ver i off e;rw[e] at h1;rw[fK] at h;split at h
  ·rename_i sz v0 xs hM;split at h
   ·rename_i hv0;subst hv0;obtain⟨el,hel,h⟩:=bl h;split at h
    ·rename_i hle;cases h;obtain⟨b,hv,hcell⟩:=Hs hr hM h1 hel
     have hrun:=pa (P:=P) (w:=w) b (i*sz+off) n (fun k=>(w.cell? ⟨b,i*sz+off+k,none⟩).getD undef) fun k hk=>by
      obtain⟨u,l1,_⟩:=hcell k _ (ai (by omega))
      rw[l1]; rfl
     refine⟨_,w,.inl (by simp[execOp,hop,Instr.loadAt,Instr.sureAddr,hv,loadVar,kL hg,ji hn,hrun]; rfl),.still hr (.agg (by simp; omega) fun p c u hc' hu=>?_)⟩
     have hp:p<n:=by have:=aK hc'; simp at this; omega
     rw[bF hp,cI] at hc';obtain⟨u',l1,l2⟩:=hcell p c hc';have hu':u=(w.cell? ⟨b,i*sz+off+p,none⟩).getD undef:=by simp_all
     rw[l1] at hu';subst hu';exact .plain l2
    ·cases h
   ·cases h
  ·cases h
 ·cases h
end
section
variable {P:Program} {C:eK} {o:Oper} {br:Env} {M:aG} {j:J} {w:World} {a:Act} {x:ag×aG}
def uZ{y:ag}{v:Value}{cs:List ag}(h:gj j M w y v)(hc:y.cells?=some cs):RC j M w cs v.cells:=by
 cases y<;>simp only[ag.cells?,eX,reduceCtorEq] at hc
 case agg cs' =>
  subst hc;obtain⟨vs,rfl,h1,h2⟩:=h.ml;exact⟨h1,h2⟩
 case raw u =>
  cases h with
  |plain h =>
   cases h with
   |raw _ h1 =>
    cases v<;>simp at hc<;>subst hc <;>
     exact⟨rfl,fun i c v hc hv=>by
      cases i with
      |zero=>simp[Value.cells] at hc hv; subst hc; subst hv; exact .plain (.raw _ h1)
      |succ i=>simp at hc⟩
 all_goals
  subst hc
  have hv:v.cells = #[v]:=by
   first
    |(have:=h.jh; subst this; rfl)
    |(have:=h.fT; subst this; rfl)
    |(have:=h.j5; subst this; rfl)
    |(obtain⟨A,cap,b,off,sz,vs,e,_⟩:=h.dR.dR; subst e; rfl)
    |(obtain⟨b,_,_,_,e⟩:=h.pt; subst e; rfl)
    |(obtain⟨b,off,vs,e,_⟩:=h.tU; subst e; rfl)
    |(obtain⟨vs,e,_⟩:=h.rS; subst e; rfl)
    |(obtain⟨b,_,_,e⟩:=h.vp; subst e; rfl)
    |(obtain⟨b,_,_,e⟩:=h.Dl; subst e; rfl)
    |(obtain⟨b,es,cl,e,_⟩:=h.HS; subst e; rfl)
    |(obtain⟨_,_,e⟩:=h.zm; subst e; rfl)
    |(obtain⟨⟨_,_,e⟩,_⟩:=h.rQ; subst e; rfl)
    |(obtain⟨_,e,_⟩:=h.GJ; subst e; rfl)
    |(obtain⟨_,_,_,e⟩:=h.Ij; subst e; rfl)
  rw[hv]
  exact⟨rfl,fun i c u hc hu=>by
   cases i with
   |zero=>simp at hc hu; subst hc; subst hu; exact h
   |succ i=>simp at hc⟩
theorem CX{c:ag}{v:Value}(h:gj j M w c v)(hc:c.iP=true):v.oneCell'=true:=by
 cases c<;>simp only[ag.iP,af] at hc
 case bool=>have:=h.jh; subst this; rfl
 case int=>have:=h.fT; subst this; rfl
 case str=>have:=h.j5; subst this; rfl
 case slice=>obtain⟨A,cap,b,off,sz,vs,e,_⟩:=h.dR.dR; subst e; rfl
 case ptr=>obtain⟨b,_,_,_,e⟩:=h.pt; subst e; rfl
 case iQ=>obtain⟨b,off,vs,e,_⟩:=h.tU; subst e; rfl
 case func=>obtain⟨vs,e,_⟩:=h.rS; subst e; rfl
 case ia=>obtain⟨b,_,_,e⟩:=h.vp; subst e; rfl
 case jn=>obtain⟨b,_,_,e⟩:=h.Dl; subst e; rfl
 case jA=>obtain⟨b,es,cl,e,_⟩:=h.HS; subst e; rfl
 case cS=>obtain⟨_,_,e⟩:=h.zm; subst e; rfl
 case iJ=>obtain⟨⟨_,_,e⟩,_⟩:=h.rQ; subst e; rfl
 case pR=>obtain⟨_,e,_⟩:=h.GJ; subst e; rfl
 case jF=>obtain⟨_,_,_,e⟩:=h.Ij; subst e; rfl
 case raw u =>
  cases h with
  |plain h=>cases h<;>grind
theorem GK(hr:Rel j M w){cs:List ag}{vs:Array Value}(hc:RC j M w cs vs)(t:TypeId) :
  iL j M w (.ptr M.length 0,M++[.cells cs]) (.pointer (some ⟨w.heap.size,0,none⟩)) { w with heap:=w.heap.push (.cells vs t (0,0)) }:=by
 have q:Quiet w { w with heap:=w.heap.push (.cells vs t (0,0)) }:=⟨by simp,rfl,rfl,rfl⟩
 have hb:∀b,b<w.heap.size->({ w with heap:=w.heap.push (.cells vs t (0,0)) }:World).heap[b]?=w.heap[b]?:=fun b hb=>by
  grind
 have hn:({ w with heap:=w.heap.push (.cells vs t (0,0)) }:World).heap[w.heap.size]?=some (.cells vs t (0,0)):=by simp
 refine⟨gD j _ (some w.heap.size),hr.push (fun b h=>?_) q hb (fun _=>?_) (fun sz n b h=>by grind),Ext.push (fun b h=>?_) q hb,.ptr (by simp) ⟨cs,by simp⟩ (by simp[gD])⟩
 ·grind
 ·exact⟨_,rfl,fun j' M' hx=>⟨vs,t,hn,hc.1,fun i c v h1 h2=>(hc.2 i c v h1 h2).mono hx⟩⟩
 grind
def afW(hr:Rel j M w)(he:cn j M w br a){y:Operand}{z:gV}{t:TypeId}(hop:o.op = .box t y)(hz:eE y=some z)(h:ef C br M (.box z)=some x) :
  ∃v w',qZ P o a w v w'/\iL j M w x v w':=by
 obtain⟨cs,hc,h⟩:=bl h;cases h;exact⟨_,_,.inl (by simp_all [execOp,Instr.box,newVar,newRow]),GK hr (uZ (cX he hz) hc) t⟩
theorem MG(hr:Rel j M w){t:TypeId}{i:TypeInfo}{zv:Value}{l:List ag}(hop:o.op = .alloc t)(hi:P.info? t=some i)(hzv:i.zero=some zv)(hl:sy zv.cells.toList=some l)
  (h:ef C br M (.pH l)=some x):∃v w',qZ P o a w v w'/\iL j M w x v w':=by
 cases h;obtain⟨h1,h2⟩:=pF hl;refine⟨_,_,.inl (by simp[execOp,hop,Instr.alloc,zeroValue,pg hi,hzv]; rfl),GK hr ⟨by omega,fun i c v hc hv=>h2 i c v hc (by grind)⟩ t⟩
theorem af0(hr:Rel j M w)(he:cn j M w br a){y:Operand}{n:Nat}(hop:o.op = .assign y)(hz:eE y=some (.ke (.slice .c0 [])))(h:ef C br M (.own n (.ke (.slice .c0 [])))=some x) :
  ∃v w',qZ P o a w v w'/\iL j M w x v w':=by
 cases h;have h1:=cX he hz;have q:Quiet w w:=⟨aC _,rfl,rfl,rfl⟩
 obtain⟨A,hA⟩:∃A,a.eval y = .slice A 0 0:=by
  generalize a.eval y=v at h1;cases h1 with
  |plain h=>cases h
  |c0 A=>simp
 refine⟨a.eval y,w,.inl (by simp_all [execOp]),gD j _ none,hr.push (fun b h=>by grind) q (fun _ _=>rfl) (fun h=>by cases h) (fun sz n b h h'=>by grind),Ext.push (fun b h=>by grind) q (fun _ _=>rfl),?_⟩
 rw[hA];exact .own (sz:=n) (by simp) (by simp) (fM.nil _ _ _) fun _ => .inl ⟨by simp[gD],rfl,A,rfl⟩
def oy(w:World)(b:Nat):Nat->List Value->World
 |_,[]=>w
 |off,v::r=>oy (w.setCell ⟨b,off,none⟩ v) b (off+1) r
def lC{b:Nat}{t:TypeId}:∀(l:List Value)(w:World)(off:Nat)(vs:Array Value),w.heap[b]?=some (.cells vs t (0,0))->off+l.length<=vs.size ->
  (oy w b off l).heap.size=w.heap.size/\(oy w b off l).os=w.os/\(oy w b off l).tape=w.tape/\(oy w b off l).output=w.output /\
  (∀b',b'≠b->(oy w b off l).heap[b']?=w.heap[b']?) /\
  ∃vs',(oy w b off l).heap[b]?=some (.cells vs' t (0,0))/\vs'.size=vs.size/\(∀p,p<off\/off+l.length<=p->vs'[p]?=vs[p]?)/\∀p,p<l.length->vs'[off+p]?=l[p]?:=by
 intro l;induction l with
 |nil=>intro w off vs h _; exact⟨rfl,rfl,rfl,rfl,fun _ _=>rfl,vs,h,rfl,fun _ _=>rfl,fun p hp=>by simp at hp⟩
 |cons v r ih =>
  intro w off vs h hle;simp only[au] at hle
  have hs:(w.setCell ⟨b,off,none⟩ v).heap[b]?=some (.cells (vs.setIfInBounds off v) t (0,0)):=by
   simp[World.setCell,gA,h]
  obtain⟨h1,h2,h3,h4,h5,vs',h6,h7,h8,h9⟩:=ih (w.setCell ⟨b,off,none⟩ v) (off+1) (vs.setIfInBounds off v) hs (by simp; omega)
  refine⟨by simp only[oy]; rw[h1]; simp[World.setCell],by simp only[oy]; rw[h2]; rfl,by simp only[oy]; rw[h3]; rfl,by simp only[oy]; rw[h4]; rfl,fun b' hb'=>?_,vs',h6,by rw[h7]; simp,fun p hp=>?_,fun p hp=>?_⟩
  ·simp only[oy];rw[h5 b' hb'];simp[World.setCell,gA,eZ hb']
  ·simp only[au] at hp;rw[h8 p (by omega),fh (by omega)]
  ·cases p with
   |zero =>
    have:vs'[off]?=(vs.setIfInBounds off v)[off]?:=h8 off (by omega)
    rw[dk,this];simp[gM];omega
   |succ p =>
    have:=h9 p (by simpa using hp)
    rw[show off+(p+1)=off+1+p by omega,this]
    simp
def mN{b:Nat}{t:TypeId}:∀(l:List Value)(w:World)(off i:Nat)(vs:Array Value),w.heap[b]?=some (.cells vs t (0,0))->off+i+l.length<=vs.size->(∀v,v∈l->v.oneCell'=true) ->
  (storeCells ⟨b,off,none⟩ l i).run P w = .ok () (oy w b (off+i) l):=by
 intro l;induction l with
 |nil=>simp[storeCells,oy]
 |cons v r ih =>
  intro w off i vs h hle hv;simp only[au] at hle
  have hs:(w.setCell ⟨b,off+i,none⟩ v).heap[b]?=some (.cells (vs.setIfInBounds (off+i) v) t (0,0)):=by
   simp[World.setCell,gA,h]
  have hc:w.cell? ⟨b,off+i,none⟩=some (vs[off+i]'(by omega)):=by
   simp[World.cell?,h]
  have hf:w.frozen? ⟨b,off+i,none⟩=false:=by simp[World.frozen?,h]
  have hi:=ih _ off (i+1) _ hs (by simp; omega) (fun u hu=>hv u (aO _ hu))
  simp[storeCells,lF,run_store P w _ v .plain (hv v _),hc,hf,aw,Result.andThen_ok,hi];rfl
theorem p9{cs new:List ag}{off:Nat}(h:off+new.length<=cs.length)(p:Nat) :
  (mF cs off new)[p]?=if off<=p/\p<off+new.length then new[p-off]? else cs[p]?:=by
 grind [mF]
theorem uH{cs new:List ag}{off:Nat}(h:off+new.length<=cs.length):(mF cs off new).length=cs.length:=by
 grind [mF]
theorem Ah{c:ag}{v:Value}(h:gj j M w c v)(hp:c.shut.plainCell=true):fM w (ny j M w) c.shut v:=by
 cases c<;>simp[ag.shut,ag.plainCell] at hp ⊢
 case bool=>have:=h.jh; subst this; exact .bool _
 case int=>have:=h.fT; subst this; exact .int _ _
 case str=>have:=h.j5; subst this; exact .str _
 case slice=>exact h.dR
 case raw=>cases h<;>grind
theorem BX{c:ag}(h:c.shut.plainCell=true):c.iP=true:=by
 cases c<;>simp[ag.shut,ag.plainCell] at h<;>try rfl
 rename_i v;cases v<;>first|rfl|grind
def GS{c:ag}(h:c.plainCell=true):c.cells=[c]:=by
 cases c<;>first|rfl|cases h
theorem DQ{e:ag}{off:Nat}{new:List ag}(h:off+new.length<=e.cells.length)(hp:new.all ag.plainCell=true):(putCells e off new).cells=mF e.cells off new:=by
 by_cases hag:∃cs,e = .agg cs
 ·obtain⟨cs,rfl⟩:=hag;cases new<;>rfl
 ·have h1:e.cells=[e]:=by cases e<;>first|rfl|grind
  rw[h1] at h ⊢
  match new,h,hp with
  | [],h,_ =>
   have:putCells e off []=e:=by cases e<;>first|rfl|grind
   rw[this,h1]
   match off,h with
   |0,_=>rfl
   |1,_=>rfl
  | [c],h,hp =>
   have:putCells e off [c]=c:=by cases e<;>first|rfl|grind
   have h0:off=0:=by grind
   subst h0;rw[this,GS (by grind)]
   rfl
  |_::_::_,h,_=>grind
theorem DH(hr:Rel j M w)(he:cn j M w br a){y y':Operand}{z z':gV}{t:TypeId}{n:Nat}(hop:o.op = .store t y y')(hn:pS P t=some n)(hz:eE y=some z)(hz':eE y'=some z')
  (h:ef C br M (.store n z z')=some x):∃v w',qZ P o a w v w'/\iL j M w x v w':=by
 simp only[ef] at h;have h1:=cX he hz;have h2:=cX he hz';split at h
 ·rename_i id off e;rw[e] at h1;obtain⟨b,_,_,hj,hv⟩:=h1.pt;rw[fK] at h;split at h
  ·rename_i cs hM;obtain⟨new,jf,h⟩:=bl h;split at h
   ·rename_i hcond;obtain⟨c1,c2,c3⟩:=hcond;cases h;obtain⟨vs,t0,hw,hl,hcs,hcell⟩:=wR hr hM hj;obtain⟨n1,n2⟩:=uZ h2 jf
    have hone:∀v,v∈(a.eval y').cells.toList->v.oneCell'=true:=by
     intro v hv;obtain⟨p,hp,rfl⟩:=jK hv;have hp':p<(a.eval y').cells.size:=by simpa using hp
     have hpl:p<new.length:=by omega
     have hr':=n2 p _ _ (ai hpl) (bd hp');have:=CX hr' (bI.1 c3 _ (iU hpl));simpa using this
    have hrun:=mN (P:=P) (a.eval y').cells.toList w off 0 vs hw (by simp; omega) hone
    obtain⟨s1,s2,s3,s4,s5,vs',s6,s7,s8,s9⟩:=lC (a.eval y').cells.toList w off vs hw (by simp; omega)
    have q:Quiet w (oy w b off (a.eval y').cells.toList):=⟨by omega,s2,s3,s4⟩
    have hle:off+new.length<=cs.length:=by omega
    rw[gy];refine⟨undef,oy w b off (a.eval y').cells.toList,.inr ⟨?_,rfl⟩,j,Rel.store hM rfl rfl hj hr q (fun b' hb' _=>s5 b' hb') (fun vs0 t1 fr h=>by rw[hw] at h; grind) (fun j' M' hx=>⟨vs',t0,s6,by rw[uH hle]; omega,fun p c v hc hv'=>gj.mono hx ?_⟩),Ext.store hM rfl rfl hj hr q (fun b' hb' _=>s5 b' hb') (fun vs0 t1 fr h=>by rw[hw] at h; grind),.any _⟩
    ·simp_all [dk,execOp,Instr.storeAt,Instr.sureAddr,storeVar,ji]
    ·rw[p9 hle] at hc;split at hc
     ·rename_i hp;have h9:=s9 (p-off) (by simp; omega)
      rw[show off+(p-off)=p by omega,hv'] at h9
      exact n2 (p-off) c v hc (by simpa using h9.symm)
     grind
   ·cases h
  ·cases h
 ·rename_i id ver i off e;rw[e] at h1;rw[fK] at h;split at h
  ·rename_i sz v0 xs hM;obtain⟨new,jf,h⟩:=bl h;obtain⟨el,hel,h⟩:=bl h;split at h
   ·rename_i hcond;obtain⟨hv0,c1,c2,c3⟩:=hcond;subst hv0;cases h;obtain⟨_,hid,_,hv⟩:=h1.rQ;obtain⟨hi,b,hj,hv⟩:=(hv sz v0 xs hM).2 rfl;obtain⟨b',vs,t0,k1,hw,k3,k4,k5⟩:=hr.zn hM hj;rw[hj] at k1; cases k1;have hsz:el.cells.length=sz:=k4 el (aQ hel)
    have hbd:i*sz+sz<=vs.size:=by
     refine aW ?_ k3
     calc i*sz+sz=(i+1)*sz:=by rw[bJ]; omega
      _<=xs.length*sz:=bj _ hi
    obtain⟨n1,n2⟩:=uZ h2 jf
    have hpl:∀(p:Nat)(c:ag),new[p]?=some c->c.shut.plainCell=true:=fun p c hc=>by
     rw[List.all_map,bI] at c3;exact c3 c (aQ hc)
    have hone:∀v,v∈(a.eval y').cells.toList->v.oneCell'=true:=by
     intro v hv;obtain⟨p,hp,rfl⟩:=jK hv;have hp':p<(a.eval y').cells.size:=by simpa using hp
     have hpl':p<new.length:=by omega
     have hr':=n2 p _ _ (ai hpl') (bd hp');have:=CX hr' (BX (hpl p _ (ai hpl')));simpa using this
    have hrun:=mN (P:=P) (a.eval y').cells.toList w (i*sz+off) 0 vs hw (by simp; omega) hone
    obtain⟨s1,s2,s3,s4,s5,vs',s6,s7,s8,s9⟩:=lC (a.eval y').cells.toList w (i*sz+off) vs hw (by simp; omega)
    have q:Quiet w (oy w b (i*sz+off) (a.eval y').cells.toList):=⟨by omega,s2,s3,s4⟩
    have hle:off+(new.map ag.shut).length<=el.cells.length:=by simp; omega
    have hput:=DQ hle c3
    have hw':∀vs0 t1,w.heap[b]?=some (.cells vs0 t1 (0,0))->∃vs1,(oy w b (i*sz+off) (a.eval y').cells.toList).heap[b]?=some (.cells vs1 t1 (0,0))/\vs1.size=vs0.size:=fun vs0 t1 h=>by
     rw[hw] at h; grind
    rw[gy,gy];refine⟨undef,oy w b (i*sz+off) (a.eval y').cells.toList,.inr ⟨?_,rfl⟩,j,Rel.EB hM hj hr q (fun b' hb' _=>s5 b' hb') hw' (aC _) (fun _=>by simp) (fun j' M' hx=>⟨vs',t0,s6,by simp; omega,fun x hx'=>?_,fun p x k c hp hk=>?_⟩),Ext.EB hM hj hr q (fun b' hb' _=>s5 b' hb') hw' (aC _) (fun _=>by simp),.any _⟩
    ·simp only[dk] at hrun;simp[execOp,hop,Instr.storeAt,Instr.sureAddr,hv,storeVar,ji hn,show(a.eval y').cells.size=n by omega,hrun]
    ·rcases List.mem_or_eq_of_mem_set hx' with hx'|rfl
     ·exact k4 x hx'
     ·rw[hput,uH hle,hsz]
    ·have dQ:(a.eval y').cells.toList.length=n:=by simp; omega
     by_cases hpi:i=p
     ·subst hpi;rw[gm hi] at hp;cases hp;rw[hput,p9 hle] at hk;split at hk
      ·rename_i hin;simp only[fH] at hin;rw[bf,aN] at hk;obtain⟨c0,hc0,rfl⟩:=hk;have h9:=s9 (k-off) (by omega)
       rw[show i*sz+off+(k-off)=i*sz+k by omega] at h9
       have cz:k-off<(a.eval y').cells.size:=by omega
       have hu:(a.eval y').cells[k-off]?=some (a.eval y').cells[k-off]:=bd cz;exact⟨_,by rw[h9]; simp,(Ah (n2 _ c0 _ hc0 hu) (hpl _ c0 hc0)).mono hx.ib⟩
      ·rename_i hin;simp only[fH] at hin;obtain⟨u,u1,u2⟩:=k5 i el k c hel hk;exact⟨u,by rw[s8 _ (by omega)]; exact u1,u2.mono hx.ib⟩
     ·rw[gQ hpi] at hp;obtain⟨u,u1,u2⟩:=k5 p x k c hp hk;have hk':k<sz:=by rw[<-k4 x (aQ hp)]; exact aK hk
      refine⟨u,(s8 _ ?_).trans u1,u2.mono hx.ib⟩;rcases bD p i with cz|hge
      ·left;have:=bj sz (show p+1<=i from cz)
       rw[bJ] at this;omega
      ·right;have:=bj sz (show i+1<=p by omega)
       rw[bJ] at this;omega
   ·cases h
  ·cases h
 ·cases h
end
def VI(off:Nat):∀(l:List Value)(k:Nat)(cells:Array Value),
  ((l.zipIdx k).foldl (fun(cs:Array Value) (x:Value×Nat)=>cs.setIfInBounds (off+x.2) x.1) cells).size=cells.size /\
  ∀p,((l.zipIdx k).foldl (fun(cs:Array Value) (x:Value×Nat)=>cs.setIfInBounds (off+x.2) x.1) cells)[p]? =
   if off+k<=p/\p<off+k+l.length/\p<cells.size then l[p-(off+k)]? else cells[p]?:=by
 intro l;induction l with
 |nil=>intro k cells; exact⟨rfl,fun p=>by simp; omega⟩
 |cons v r ih =>
  intro k cells;rw[List.zipIdx_cons,dZ];obtain⟨h1,h2⟩:=ih (k+1) (cells.setIfInBounds (off+k) v);refine⟨by rw[h1]; simp,fun p=>?_⟩
  rw[h2];simp only[Array.size_setIfInBounds,au]
  by_cases c1:off+(k+1)<=p/\p<off+(k+1)+r.length/\p<cells.size
  ·rw[bc c1,bc (by omega),show p-(off+k)=(p-(off+(k+1)))+1 by omega]
   simp
  ·rw[aH c1]
   by_cases c2:p=off+k/\p<cells.size
   ·obtain⟨rfl,cz⟩:=c2;rw[bc (by omega)]
    simp[gM,cz]
   ·rw[aH (by omega)]
    by_cases c3:p=off+k
    ·have:¬p<cells.size:=fun h=>c2 ⟨c3,h⟩
     rw[gY (by simp; omega),gY (by omega)]
    ·rw[fh (by omega)]
def putRow(cells:Array Value)(off:Nat)(vs:Array Value):Array Value:=vs.zipIdx.foldl (fun cs (c,k)=>cs.setIfInBounds (off+k) c) cells
def BV(cells:Array Value)(off:Nat)(vs:Array Value):(putRow cells off vs).size=cells.size /\
  ∀p,(putRow cells off vs)[p]?=if off<=p/\p<off+vs.size/\p<cells.size then vs[p-off]? else cells[p]?:=by
 have h:=VI off vs.toList 0 cells
 have e:putRow cells off vs=(vs.toList.zipIdx 0).foldl (fun(cs:Array Value) (x:Value×Nat)=>cs.setIfInBounds (off+x.2) x.1) cells:=by
  unfold putRow;rw[<-Array.foldl_toList];simp
 rw[e];exact⟨h.1,fun p=>by rw[h.2 p]; simp⟩
section
variable {P:Program} {C:eK} {o:Oper} {br:Env} {M:aG} {j:J} {w:World} {a:Act} {x:ag×aG}
def RC.write{cs new:List ag}{cells vs:Array Value}{off:Nat}(h:RC j M w cs cells)(hn:RC j M w new vs)(hle:off+new.length<=cs.length):RC j M w (mF cs off new) (putRow cells off vs):=by
 obtain⟨p1,p2⟩:=BV cells off vs;have h1:=h.1;have h2:=hn.1;refine⟨by rw[uH hle,p1]; exact h1,fun i c v hc hv=>?_⟩
 rw[p9 hle] at hc;rw[p2] at hv
 have hi:i<cells.size:=by
  rcases bD i cells.size with hi|hi
  ·exact hi
  ·rw[aH (by omega),gY hi] at hv; cases hv
 split at hc
 ·rename_i hp;rw[bc (by omega)] at hv
  exact hn.2 _ c v hc hv
 ·rename_i hp;rw[aH (by omega)] at hv
  exact h.2 _ c v hc hv
def UH{α β:Type}{g:α->Sem β}{f:α->β}:∀(l:List α),(∀x,x∈l->(g x).run P w = .ok (f x) w)->(l.mapM g).run P w = .ok (l.map f) w:=by
 intro l;induction l with
 |nil=>intro _; simp
 |cons y r ih =>
  intro h;simp[List.mapM_cons,h y (by simp),ih fun x hx=>h x (by simp[hx])]
def HP{fs:Array Field}(he:cn j M w br a)(hfs:∀f,f∈fs.toList->(P.info? f.type).isSome=true):∀ {parts:List (Nat×Operand)} {ps:List (Nat×Nat×gV)} {cs cs':List ag} {cells:Array Value},
  AG P fs parts=some ps->lx br cs ps=some cs'->RC j M w cs cells ->
  ∃cells',Instr.fill (fun i=>(fs.map fun f=>(f.offset,P.cellsOf f.type))[i]?) cells (parts.map fun p=>(p.1,a.eval p.2))=some cells'/\RC j M w cs' cells':=by
 intro parts;induction parts with
 |nil =>
  intro ps cs cs' cells h1 h2 h3;simp[AG] at h1; subst h1;simp[lx] at h2; subst h2;exact⟨cells,rfl,h3⟩
 |cons p r ih =>
  intro ps cs cs' cells h1 h2 h3;obtain⟨i,y⟩:=p;simp only[AG] at h1;obtain⟨f,hf,h1⟩:=ba h1;obtain⟨n,hn,h1⟩:=ba h1;obtain⟨z,hz,h1⟩:=ba h1;obtain⟨l,hl,h1⟩:=ba h1;cases h1;simp only[lx] at h2;obtain⟨new,jf,h2⟩:=bl h2;split at h2
  ·rename_i hc;obtain⟨c1,c2⟩:=hc;have hrc:=uZ (cX he hz) jf;obtain⟨inf,hinf,hsz⟩:=D1 hn;have hco:P.cellsOf f.type=n:=by simp[Program.cellsOf,hinf,hsz]
   obtain⟨cells',e1,e2⟩:=ih hl h2 (h3.write (off:=f.offset) hrc (by omega))
   refine⟨cells',?_,e2⟩;have hs1:=hrc.1;have hs2:=h3.1;have hpl:(fs.map fun f=>(f.offset,P.cellsOf f.type))[i]?=some (f.offset,n):=by simp[hf,hco]
   simp only[aP,Instr.fill,hpl];rw[aH (by simp; omega)]
   exact e1
  ·cases h2
def UT(hr:Rel j M w)(he:cn j M w br a){t:TypeId}{parts:Array (Nat×Operand)}{fs:Array Field}{i:TypeInfo}{zv:Value}{l:List ag}{ps:List (Nat×Nat×gV)}(hop:o.op = .build t parts)
  (ht:P.underlying t=some (.struct fs)) (hi:P.info? t=some i) (hzv:i.zero=some zv) (hl:sy zv.cells.toList=some l) (hps:AG P fs parts.toList=some ps) (hfs:fs.all (fun f=>(P.info? f.type).isSome)=true)
  (h:ef C br M (.build l ps)=some x):∃v w',qZ P o a w v w'/\iL j M w x v w':=by
 simp only[ef] at h;obtain⟨cs,hcs,h⟩:=bl h;cases h;obtain⟨h1,h2⟩:=pF (j:=j) (M:=M) (w:=w) hl
 have hfs':∀f,f∈fs.toList->(P.info? f.type).isSome=true:=fun f hf=>by
  have:=Array.all_eq_true'.1 hfs f (by simpa using hf)
  simpa using this
 obtain⟨cells',e1,e2⟩:=HP (P:=P) he hfs' hps hcs (cells:=zv.cells) ⟨by simpa using h1,fun i c v hc hv=>h2 i c v hc (by simpa using hv)⟩
 have hmap:(fs.mapM fun f=>do pure (f.offset,<-sizeOf f.type):Sem _).run P w = .ok (fs.map fun f=>(f.offset,P.cellsOf f.type)) w:=by
  rw[kM]
  have hm:=UH (P:=P) (w:=w) (g:=fun f:Field=>(do pure (f.offset,<-sizeOf f.type):Sem _)) (f:=fun f:Field=>(f.offset,P.cellsOf f.type)) fs.toList fun f hf=>by
   obtain⟨inf,hinf⟩:=ct.1 (hfs' f hf);simp[sizeOf,pg hinf,Program.cellsOf,hinf]
  rw[Sem.run_map,hm,<-Array.toList_map];simp only[Result.andThen_ok,Array.toArray_toList]
 refine⟨.agg cells',w,.inl ?_,.still hr (.agg e2.1 e2.2)⟩;have e1':Instr.fill (fun i=>(fs.map fun f=>(f.offset,P.cellsOf f.type))[i]?) zv.cells (parts.map fun p=>(p.1,a.eval p.2)).toList=some cells':=by simpa using e1
 simp only[execOp,hop,Instr.build,zeroValue,Sem.run_bind,pg hi,Result.andThen_ok,hzv,Sem.run_pure,dL ht,hmap];simp only[e1',Sem.run_pure,Result.andThen_ok]
def BW{y:ag}{v:Value}(h:gj j M w y v)(hp:y.gb.plain=true):y.gb.cells.length=v.cells.size /\
  ∀(k:Nat)(c:ag)(u:Value),y.gb.cells[k]?=some c->v.cells[k]?=some u->fM w (ny j M w) c u:=by
 by_cases hag:∃cs,y = .agg cs
 ·obtain⟨cs,rfl⟩:=hag;obtain⟨vs,rfl,h1,h2⟩:=h.ml;simp only[ag.gb,ag.plain,ag.cells,Value.cells] at hp ⊢;refine⟨by simpa using h1,fun k c u hc hu=>?_⟩
  rw[bf,aN] at hc;obtain⟨c0,hc0,rfl⟩:=hc;refine Ah (h2 k c0 u hc0 hu) ?_;have:=bI.1 hp c0.shut (dj.2 ⟨c0,aQ hc0,rfl⟩);exact this
 ·have hs:y.gb=y.shut:=by cases y<;>first|rfl|exact absurd ⟨_,rfl⟩ hag
  have hpl:y.shut.plainCell=true:=by
   rw[hs] at hp;cases y<;>first|exact hp|exact absurd ⟨_,rfl⟩ hag
  have hr:=Ah h hpl;have hc1:y.shut.cells=[y.shut]:=by cases y<;>first|rfl|exact absurd ⟨_,rfl⟩ hag
  have hv1:v.cells = #[v]:=by
   cases y<;>simp only[ag.shut,ag.plainCell,af] at hpl
   case bool=>have:=h.jh; subst this; rfl
   case int=>have:=h.fT; subst this; rfl
   case str=>have:=h.j5; subst this; rfl
   case slice=>obtain⟨A,cap,b,off,sz,vs,e,_⟩:=h.dR.dR; subst e; rfl
   case raw=>cases h with|plain h=>cases h; cases v<;>simp_all [Value.cells]
  rw[hs,hc1,hv1];refine⟨rfl,fun k c u hc hu=>?_⟩
  cases k with
  |zero=>simp at hc hu; subst hc; subst hu; exact hr
  |succ k=>simp at hc
def QD{sz:Nat}:∀(l:List Value)(k:Nat)(cells:Array Value),(∀v,v∈l->v.cells.size=sz)->(k+l.length)*sz<=cells.size ->
  ∃cells',Instr.fill (fun i=>some (i*sz,sz)) cells ((l.zipIdx k).map fun x=>(x.2,x.1))=some cells'/\cells'.size=cells.size/\(∀p,p<k*sz->cells'[p]?=cells[p]?) /\
   ∀i v q,l[i]?=some v->q<sz->cells'[(k+i)*sz+q]?=v.cells[q]?:=by
 intro l;induction l with
 |nil=>intro k cells _ _; exact⟨cells,rfl,rfl,fun _ _=>rfl,fun i v q h=>by simp at h⟩
 |cons v r ih =>
  intro k cells hv hle;have hv0:=hv v (by simp)
  have hk1:(k+1)*sz=k*sz+sz:=mf k sz
  have hle':k*sz+sz<=cells.size:=by
   have:(k+1)*sz<=(k+(r.length+1))*sz:=bj _ (by omega)
   simp only[au] at hle;omega
  obtain⟨p1,p2⟩:=BV cells (k*sz) v.cells;obtain⟨cells',e1,e2,e3,e4⟩:=ih (k+1) (putRow cells (k*sz) v.cells) (fun u hu=>hv u (by simp[hu])) (by rw[p1]; simp only[au] at hle; rw[show k+1+r.length=k+(r.length+1) by omega]; exact hle)
  refine⟨cells',?_,by rw[e2,p1],fun p hp=>?_,fun i u q hi hq=>?_⟩
  ·rw[List.zipIdx_cons,aP];simp only[Instr.fill];rw[aH (by simp; omega)]
   exact e1
  ·rw[e3 p (by omega),p2,aH (by omega)]
  ·cases i with
   |zero =>
    simp at hi; subst hi;rw[dk,e3 _ (by omega),p2,bc (by omega)]
    congr 1;omega
   |succ i =>
    have:=e4 i u q (by simpa using hi) hq
    rw[show k+1+i=k+(i+1) by omega] at this
    exact this
def EE:∀ {l:List (Nat×Operand)} {k:Nat} {zs:List gV},Hz k l=some zs->∃ys:List Operand,l=(ys.zipIdx k).map (fun x=>(x.2,x.1))/\uY ys=some zs
 | [],k,zs,h=>by simp[Hz] at h; subst h; exact⟨[],rfl,rfl⟩
 |(i,y)::r,k,zs,h=>by
  simp only[Hz] at h;split at h
  ·rename_i hi;obtain⟨z,hz,h⟩:=ba h;obtain⟨l,hl,h⟩:=ba h;cases h;obtain⟨ys,e1,e2⟩:=EE hl;exact⟨y::ys,by rw[List.zipIdx_cons,aP,hi,e1],by simp[uY,hz,e2]⟩
  ·cases h
def Fp:∀ {zs:List gV} {sz:Nat} {l:List ag},sj br sz zs=some l->l.length=zs.length /\
  ∀(i:Nat)(y:ag)(z:gV),l[i]?=some y->zs[i]?=some z->y=(z.ev br).gb/\y.plain=true/\y.cells.length=sz
 | [],sz,l,h=>by simp[sj] at h; subst h; exact⟨rfl,fun i y z h=>by simp at h⟩
 |z::r,sz,l,h=>by
  simp only[sj] at h;split at h
  ·rename_i hc;obtain⟨l',hl,h⟩:=bl h;cases h;obtain⟨h1,h2⟩:=Fp hl;refine⟨by simp[h1],fun i y z' hy hz=>?_⟩
   cases i with
   |zero=>simp at hy hz; subst hy; subst hz; exact⟨rfl,hc.1,hc.2⟩
   |succ i=>exact h2 i y z' (by simpa using hy) (by simpa using hz)
  ·cases h
def pv(o:Obj):Quiet w { w with heap:=w.heap.push o }/\(∀b,b<w.heap.size->({ w with heap:=w.heap.push o }:World).heap[b]?=w.heap[b]?)/\({ w with heap:=w.heap.push o }:World).heap[w.heap.size]?=some o :=
 ⟨⟨by simp,rfl,rfl,rfl⟩,fun b hb=>by
  show(w.heap.push _)[b]?=_
  rw[fP,aH (by omega)],by simp⟩
def Fo(he:cn j M w br a){t e:TypeId}{len:Nat}{parts:Array (Nat×Operand)}{i:TypeInfo}{zs:List gV}{l:List ag}(hop:o.op = .buildSlice t len parts)(ht:P.underlying t=some (.slice e))
  (hi:P.info? e=some i) (hzs:Hz 0 parts.toList=some zs) (dQ:zs.length=len) (hroom:len*i.size<=2 ^ 24) (hzero:(i.zero.map fun z=>z.cells.size)=some i.size)
  (hl:sj br i.size zs=some l):l.length=len/\wid l i.size/\∃cells':Array Value,cells'.size=len*i.size /\
   (execOp a.eval o).run P w = .ok (.value (.slice (some ⟨w.heap.size,0,none⟩) len len)) { w with heap:=w.heap.push (.cells cells' e (0,0)) } /\
   ∀(n:Nat)(y:ag)(k:Nat)(c:ag),l[n]?=some y->y.cells[k]?=some c->∃u,cells'[n*i.size+k]?=some u/\fM w (ny j M w) c u:=by
 obtain⟨ys,hys,hyz⟩:=EE hzs;obtain⟨l1,l2⟩:=Fp hl;obtain⟨y1,y2⟩:=tM he hyz
 obtain⟨zv,hzv,hzs'⟩:∃zv,i.zero=some zv/\zv.cells.size=i.size:=by
  cases hz:i.zero with
  |none=>rw[hz] at hzero; cases hzero
  |some zv=>rw[hz] at hzero; exact⟨zv,rfl,by simpa using hzero⟩
 have hvs:∀v,v∈ys.map a.eval->v.cells.size=i.size:=by
  intro v hv;obtain⟨y,hy,rfl⟩:=dj.1 hv;obtain⟨p,hp,rfl⟩:=jK hy;have hpz:p<zs.length:=by omega
  have hpl:p<l.length:=by omega
  have hrep:=y2 p _ _ (ai hpz) (ai hp);obtain⟨e1,e2,e3⟩:=l2 p _ _ (ai hpl) (ai hpz);have:=(BW hrep (by rw[<-e1]; exact e2)).1
  rw[<-e1] at this;omega
 let zero:Array Value:=if len*i.size=0 then #[] else zv.cells
 let cells0:Array Value:=(Array.range (len*i.size)).map (zero[· % zero.size]!)
 obtain⟨cells',f1,f2,f3,f4⟩:=QD (sz:=i.size) (ys.map a.eval) 0 cells0 hvs (by simp[cells0,<-dQ,y1])
 have hfill:Instr.fill (fun k=>some (k*i.size,i.size)) cells0 (parts.map fun p=>(p.1,a.eval p.2)).toList=some cells':=by
  have:(parts.map fun p=>(p.1,a.eval p.2)).toList=((ys.map a.eval).zipIdx 0).map fun x=>(x.2,x.1):=by
   rw[Array.toList_map,hys,jX,List.zipIdx_map,jX];rfl
  rw[this]; exact f1
 have hrun:(execOp a.eval o).run P w = .ok (.value (.slice (some ⟨w.heap.size,0,none⟩) len len)) { w with heap:=w.heap.push (.cells cells' e (0,0)) }:=by
  simp only[execOp,hop,Instr.buildSlice,Sem.run_bind,dL ht,Result.andThen_ok,ji (show pS P e=some i.size by simp[pS,hi]),aH (show ¬len*i.size>2 ^ 24 by omega),Sem.run_pure]
  simp only[cells0] at hfill
  by_cases hc:len*i.size=0
  ·have hz:zero = #[]:=bc hc;rw[hz] at hfill;rw[bc hc];simp only[Sem.run_bind,Sem.run_pure,Result.andThen_ok,hfill];simp[newRow]
  ·have hz:zero=zv.cells:=aH hc;rw[hz] at hfill;rw[aH hc];simp only[zeroValue,Sem.run_bind,pg hi,Result.andThen_ok,hzv,Sem.run_pure,hfill];simp[newRow]
 have hel:∀(n:Nat)(y:ag)(k:Nat)(c:ag),l[n]?=some y->y.cells[k]?=some c->∃u,cells'[n*i.size+k]?=some u/\fM w (ny j M w) c u:=by
  intro n y k c hn hk;have hnl:=aK hn;have hz:=ai (show n<zs.length by omega)
  have hy:=ai (show n<ys.length by omega)
  obtain⟨e1,e2,e3⟩:=l2 n y _ hn hz;have hrep:=y2 n _ _ hz hy;obtain⟨s1,s2⟩:=BW hrep (by rw[<-e1]; exact e2)
  rw[<-e1] at s1 s2;have hkl:=aK hk;have hu:=bd (show k<(a.eval ys[n]).cells.size by omega)
  have f:=f4 n (a.eval ys[n]) k (by simp[hy]) (by omega)
  rw[aL] at f;exact⟨_,f.trans hu,s2 k c _ hk hu⟩
 refine⟨by omega,fun y hy=>?_,cells',by first|(simp[f2,cells0])|(simp[f3,cells0]),hrun,hel⟩
 obtain⟨p,hp,rfl⟩:=jK hy;exact(l2 p _ _ (ai hp) (ai (by omega))).2.2
def MH(hr:Rel j M w)(he:cn j M w br a){t e:TypeId}{len:Nat}{parts:Array (Nat×Operand)}{i:TypeInfo}{zs:List gV}(hop:o.op = .buildSlice t len parts)(ht:P.underlying t=some (.slice e))
  (hi:P.info? e=some i) (hzs:Hz 0 parts.toList=some zs) (dQ:zs.length=len) (hroom:len*i.size<=2 ^ 24) (hzero:(i.zero.map fun z=>z.cells.size)=some i.size)
  (h:ef C br M (.lits i.size zs)=some x):∃v w',qZ P o a w v w'/\iL j M w x v w':=by
 simp only[ef] at h;obtain⟨l,hl,h⟩:=bl h;obtain⟨hll,hwd,cells',_,hrun,hel⟩:=Fo (w:=w) he hop ht hi hzs dQ hroom hzero hl;obtain⟨q,hb,jf⟩:=pv (w:=w) (.cells cells' e (0,0));refine⟨_,_,.inl hrun,?_⟩;have ext:Ext j M w j M { w with heap:=w.heap.push (.cells cells' e (0,0)) }:=Ext.grow q.size rfl rfl rfl hb
 have rel:Rel j M { w with heap:=w.heap.push (.cells cells' e (0,0)) }:=hr.grow q.size rfl rfl rfl hb
 have key:fM { w with heap:=w.heap.push (.cells cells' e (0,0)) } (ny j M { w with heap:=w.heap.push (.cells cells' e (0,0)) }) (.slice .sh l) (.slice (some ⟨w.heap.size,0,none⟩) len len):=by
  refine .slice l _ _ _ w.heap.size 0 i.size (fun p=>(cells'[p]?).getD undef) hll.symm (aC _) (fun _=>rfl) hwd (fun n y k c hn hk=>?_) (fun n y k c hn hk=>?_)
  ·obtain⟨u,hu,_⟩:=hel n y k c hn hk;refine⟨?_,by simp,fun id hid hj=>?_,fun hx=>absurd (hr.Aq _ _ hx) (im _)⟩
   ·simp only[World.cell?,jf,aL,hu];rfl
   ·have:=hr.lt id _ hid hj;omega
  ·obtain⟨u,hu,hru⟩:=hel n y k c hn hk;rw[hu];exact hru.mono ext.ib
 injection h with h
 subst h;cases l with
 |nil =>
  have:len=0:=by simpa using hll.symm
  subst this;exact⟨j,rel,ext,.c0 _⟩
 |cons y r=>exact⟨j,rel,ext,.plain key⟩
def U2(hr:Rel j M w)(he:cn j M w br a){t e:TypeId}{len:Nat}{parts:Array (Nat×Operand)}{i:TypeInfo}{zs:List gV}(hop:o.op = .buildSlice t len parts)(ht:P.underlying t=some (.slice e))
  (hi:P.info? e=some i) (hzs:Hz 0 parts.toList=some zs) (dQ:zs.length=len) (hroom:len*i.size<=2 ^ 24) (hzero:(i.zero.map fun z=>z.cells.size)=some i.size)
  (h:ef C br M (.Dz i.size zs)=some x):∃v w',qZ P o a w v w'/\iL j M w x v w':=by
 simp only[ef] at h;obtain⟨l,hl,h⟩:=bl h;cases h;obtain⟨hll,hwd,cells',hcs,hrun,hel⟩:=Fo (w:=w) he hop ht hi hzs dQ hroom hzero hl;obtain⟨q,hb,jf⟩:=pv (w:=w) (.cells cells' e (0,0));have hob:∀b,some w.heap.size=some b->w.heap.size<=b/\b<({ w with heap:=w.heap.push (.cells cells' e (0,0)) }:World).heap.size:=fun b h=>by cases h; simp
 have ext:Ext j M w (gD j M.length (some w.heap.size)) (M++[.tick i.size l.length]) { w with heap:=w.heap.push (.cells cells' e (0,0)) }:=Ext.push (fun b hb=>(hob b hb).1) q hb
 refine⟨_,_,.inl hrun,gD j M.length (some w.heap.size),hr.push hob q hb (fun h=>by cases h) (fun sz n b _ hb=>by cases hb; exact⟨cells',e,jf⟩),ext,?_⟩
 refine .own (sz:=i.size) (n:=l.length) (by simp) (aC _) ?_ fun _ => .inr ⟨w.heap.size,len,cells',e,by simp[gD],by rw[hll],jf,by omega,by omega⟩
 refine .slice l _ _ _ w.heap.size 0 i.size (fun p=>(cells'[p]?).getD undef) hll.symm (aC _) (fun _=>rfl) hwd (fun n y k c hn hk=>?_) (fun n y k c hn hk=>?_)
 ·obtain⟨u,hu,_⟩:=hel n y k c hn hk;have hk':k<i.size:=by rw[<-hwd y (aQ hn)]; exact aK hk
  refine⟨?_,by simp,fun id hid hj=>?_,fun hx=>absurd (hr.Aq _ _ (by rw[<-ext.X]; exact hx)) (im _)⟩
  ·simp only[World.cell?,jf,aL,hu];rfl
  ·have hid':id=M.length:=by
    rcases bD id M.length with h|h
    ·rw[show gD j M.length (some w.heap.size) id=j id by simp[gD,gP h]] at hj
     exact absurd (hr.lt id _ h hj) (im _)
    ·simp at hid; omega
   subst hid';refine⟨i.size,l.length,by simp,?_⟩
   have:=bj i.size (show n+1<=l.length from aK hn)
   rw[bJ] at this;omega
 ·obtain⟨u,hu,hru⟩:=hel n y k c hn hk;rw[hu];exact hru.mono ext.ib
end
def gj.CR{j:J}{M:aG}{w:World}{xs:List ag}{v:Value}(h:gj j M w (.slice .c0 xs) v):∃A,v = .slice A 0 0:=by
 cases h with
 |plain h=>cases h
 |c0 A=>simp
theorem gj.ZJ{j:J}{M:aG}{w:World}{k:Nat}{xs:List ag}{v:Value}(h:gj j M w (.slice (.own k) xs) v) :
  ∃sz n,M[k]?=some (.tick sz n)/\xs.length<=n/\fM w (ny j M w) (.slice .sh xs) v/\(xs.length=n->Hk j w k sz n v):=by
 cases h with
 |plain h=>cases h
 |own hk hn h ht=>grind
theorem E0(n:Nat):∀(r c:Nat),c<=2*n+1000->Builtin.growBy n r c<=2*n+1000
 |0,c,h=>h
 |r+1,c,h=>by
  unfold Builtin.growBy;split
  ·omega
  ·exact E0 n r _ (by omega)
theorem DE{n c:Nat}(h:c<n):Builtin.nextslicecap n c<=2*n+1000:=by
 grind [Builtin.nextslicecap,E0]
def fM.one{w:World}{ib:Nat->Nat->Prop}{c:ag}{v:Value}(h:fM w ib c v):v.oneCell'=true:=by
 cases h<;>first|rfl|omega
section
variable {P:Program} {C:eK} {o:Oper} {br:Env} {M:aG} {j:J} {w:World} {a:Act} {x:ag×aG}
theorem EO{ib:Nat->Nat->Prop}{xs:List ag}{v:Value}{size:Nat}(hx:fM w ib (.slice .sh xs) v)(hw:wid xs size)(hpos:0<size) :
  ∃u:Nat->Value,(∀w':World,w'.heap=w.heap->(Builtin.firstCells size xs.length v).run P w' = .ok (((List.range (xs.length*size)).map u).toArray) w') /\
   (∀(i:Nat)(y:ag)(k:Nat)(c:ag),xs[i]?=some y->y.cells[k]?=some c->fM w ib c (u (i*size+k))) /\
   ∀b,(∃n cap,v = .slice (some ⟨b,0,none⟩) n cap)->∀p,p<xs.length*size->w.cell? ⟨b,p,none⟩=some (u p):=by
 obtain⟨A,cap,b,off,sz,vs,hv,hc,ha,hz,hs,hr⟩:=hx.dR
 by_cases hne:xs=[]
 ·subst hne;rw[hv];cases A<;>simp_all [Builtin.firstCells,loadCells,loadCellsFrom]
 ·have hsz:sz=size:=by
   obtain⟨y,r,rfl⟩:=ec hne;rw[<-hz y (by simp),hw y (by simp)]
  subst hsz;have hA:=ha hne;subst hA
  have hcell:∀p,p<xs.length*sz->w.cell? ⟨b,off+p,none⟩=some (vs p):=by
   intro p hp;have hd:p / sz<xs.length:=(kl hpos).2 hp;have hm:p % sz<sz:=Nat.mod_lt _ hpos;have hy:=ai hd;have hcl:=hw _ (iU hd);have:=(hs (p / sz) _ (p % sz) _ hy (ai (by omega))).1
   rw[Nat.div_add_mod'] at this;omega
  refine⟨vs,fun w' hw'=>?_,hr,fun b' hb' p hp=>?_⟩
  ·rw[hv]
   have hc':∀p,p<xs.length*sz->w'.cell? ⟨b,off+p,none⟩=some (vs p):=fun p hp=>by
    grind [World.cell?]
   exact pa (P:=P) b off (xs.length*sz) vs hc'
  grind
theorem fM.join{w':World}{saf':Nat->Nat->Prop}{xs ys:List ag}{size:Nat}(hwx:wid xs size)(hwy:wid ys size)(hpos:0<size){ux uy:Nat->Value}
  (hx:∀(i:Nat)(y:ag)(k:Nat)(c:ag),xs[i]?=some y->y.cells[k]?=some c->fM w' saf' c (ux (i*size+k)))
  (hy:∀(i:Nat)(y:ag)(k:Nat)(c:ag),ys[i]?=some y->y.cells[k]?=some c->fM w' saf' c (uy (i*size+k)))
  {b:Nat} {arr:Array Value} {t:TypeId} (harr:w'.heap[b]?=some (.cells arr t (0,0))) (h1:∀p,p<xs.length*size->arr[p]?=some (ux p)) (h2:∀p,p<ys.length*size->arr[xs.length*size+p]?=some (uy p))
  (hs:∀p,p<(xs.length+ys.length)*size->saf' b p) {cap:Nat} (hc:xs.length+ys.length<=cap):fM w' saf' (.slice .sh (xs++ys)) (.slice (some ⟨b,0,none⟩) (xs.length+ys.length) cap):=by
 have cz:∀(i k n:Nat),i<n->k<size->i*size+k<n*size:=by
  intro i k n hi hk;have:(i+1)*size<=n*size:=bj _ hi;rw[mf] at this;omega
 have cas:∀(i:Nat)(y:ag),(xs++ys)[i]?=some y->(i<xs.length/\xs[i]?=some y)\/(∃i',i=xs.length+i'/\ys[i']?=some y):=by
  grind
 refine .slice _ _ _ _ b 0 size (fun p=>if p<xs.length*size then ux p else uy (p-xs.length*size)) (by simp) hc (fun _=>rfl) (fun y hy'=>?_) (fun i y k c hi hk=>?_) (fun i y k c hi hk=>?_)
 ·rcases bm.1 hy' with h|h
  ·exact hwx y h
  ·exact hwy y h
 ·have hkl:=aK hk;rw[aL];rcases cas i y hi with ⟨hil,hxi⟩|⟨i',rfl,hyi⟩
  ·have hk':k<size:=by rw[<-hwx y (aQ hxi)]; omega
   have hp:=cz i k _ hil hk';refine⟨?_,hs _ (cz i k _ (by omega) hk')⟩
   rw[bc hp,<-h1 _ hp];simp[World.cell?,harr]
  ·have hk':k<size:=by rw[<-hwy y (aQ hyi)]; exact hkl
   have hil:=aK hyi;have hp:=cz i' k _ hil hk';refine⟨?_,hs _ (cz _ k _ (by omega) hk')⟩
   have he:(xs.length+i')*size+k=xs.length*size+(i'*size+k):=by rw[bJ]; omega
   rw[he,aH (by simp),iE,<-h2 _ hp]
   simp[World.cell?,harr]
 ·have hkl:=aK hk;rcases cas i y hi with ⟨hil,hxi⟩|⟨i',rfl,hyi⟩
  ·have hk':k<size:=by rw[<-hwx y (aQ hxi)]; exact hkl
   rw[bc (cz i k _ hil hk')];exact hx i y k c hxi hk
  ·have he:(xs.length+i')*size+k=xs.length*size+(i'*size+k):=by rw[bJ]; omega
   rw[he,aH (by simp),iE]
   grind
theorem tv{t t' e:TypeId}{d':TypeDesc}{v':Value}{i:TypeInfo}{zv:Value}(hs:P.underlying t=some (.slice e))(hs':P.underlying t'=some d')(hd':∀k,d' ≠ .int k)(hi:P.info? e=some i)(hz:i.zero=some zv)(hb0:0<i.bytes)(hb1:i.bytes<=2 ^ 20)
  (ty:TypeId) {bL:Option Addr} {n cap m:Nat} {tL new:Array Value} (dQ:∀w':World,(Builtin.lenOf v').run P w' = .ok m w')
  (hold:∀w':World,w'.heap=w.heap->(Builtin.firstCells i.size n (.slice bL n cap)).run P w' = .ok tL w') (jf:∀w':World,w'.heap=w.heap->(Builtin.firstCells i.size m v').run P w' = .ok new w')
  (hroom:(n+m)*i.bytes<=2 ^ 44) :
  (n+m<=cap->∀w',(match bL with|some ad=>(storeCells (ad.add (n*i.size)) new.toList).run P w = .ok () w'|none=>w'=w)->(Builtin.append_ #[t,t'] ty #[.slice bL n cap,v']).run P w = .ok (.slice bL (n+m) cap) w') /\
  (cap<n+m->∃newCap rest,n+m<=newCap/\rest.size=(newCap-(n+m))*zv.cells.size /\
   (Builtin.append_ #[t,t'] ty #[.slice bL n cap,v']).run P w = .ok (.slice (some ⟨w.heap.size,0,none⟩) (n+m) newCap) { w with heap:=w.heap.push (.cells (tL++new++rest) e (0,0)),drawn:=w.drawn+1 }):=by
 have hsz:(sizeOf e).run P w = .ok i.size w:=ji (by grind [pS])
 refine⟨fun hle w' hst=>?_,fun cz=>?_⟩
 ·have h1:=jf w rfl;unfold Builtin.append_;simp only[List.getElem?_toArray,fy,eO,Sem.run_bind,dL hs,dL hs',Result.andThen_ok,hsz,Sem.run_pure];simp only[af,aw,dQ,Result.andThen_ok,fg,aE,bc hle,h1,Sem.run_bind];cases bL with
  |none=>simp_all
  |some ad=>simp_all
 ·have hcapb:¬Builtin.nextslicecap (n+m) cap*i.bytes>2 ^ 48:=by
   have h1:=DE cz;have h2:Builtin.nextslicecap (n+m) cap*i.bytes<=(2*(n+m)+1000)*i.bytes:=bj _ h1
   grind
  let q:Question := .appendCap (n+m) cap e
  refine⟨q.cut (w.tape w.drawn q),Builtin.zeroCells zv.cells (q.cut (w.tape w.drawn q)-(n+m)),by grind [Question.cut],by simp[Builtin.zeroCells],?_⟩
  have h1:=hold w.drew rfl;have h2:=jf w.drew rfl;have hne:i.bytes≠0:=by omega
  have hqf:q.forced=false:=rfl;unfold Builtin.append_;simp only[List.getElem?_toArray,fy,eO,Sem.run_bind,dL hs,dL hs',Result.andThen_ok,hsz,Sem.run_pure];simp only[af,aw,dQ,Result.andThen_ok,fg,aE,aH (Nat.not_le.2 cz),Sem.run_bind];simp[pg hi,hne,hcapb,h1,h2,zeroValue,hz,newRow,q,Question.forced];rfl
theorem Hr(hr:Rel j M w){c:Call}{y y':Operand}{t t' e:TypeId}{d':TypeDesc}{i:TypeInfo}{zv:Value}(hop:o.op = .call c)(hb:c.callee = .builtin .append)(ha:c.args.toList=[y,y'])
  (hat:c.argTypes = #[t,t']) (hs:P.underlying t=some (.slice e)) (hs':P.underlying t'=some d') (hd':∀k,d' ≠ .int k) (hi:P.info? e=some i) (hz:i.zero=some zv) (hzs:zv.cells.size=i.size) (hpos:0<i.size) (hb0:0<i.bytes) (hb1:i.bytes<=2 ^ 20)
  {tk:Tk} {xs ys:List ag} (r1:gj j M w (.slice tk xs) (a.eval y)) (dQ:∀w':World,(Builtin.lenOf (a.eval y')).run P w' = .ok ys.length w') {uy:Nat->Value}
  (fy1:∀w':World,w'.heap=w.heap->(Builtin.firstCells i.size ys.length (a.eval y')).run P w' = .ok (((List.range (ys.length*i.size)).map uy).toArray) w')
  (fy2:∀(q:Nat)(y:ag)(k:Nat)(c:ag),ys[q]?=some y->y.cells[k]?=some c->fM w (ny j M w) c (uy (q*i.size+k)))
  (h:cA (cu (xs.length+ys.length) i.bytes/\wid xs i.size/\wid ys i.size) (
    match tk with
    | .c0=>match xs with|[]=>some (.slice (.own M.length) ys,M++[.tick i.size ys.length])|_=>none
    | .own k=>match nth M k with
     |some (.tick sz' n)=>cA (sz'=i.size/\n=xs.length) (some (.slice (.own k) (xs++ys),jj M k (.tick i.size (xs.length+ys.length))))
     |_=>none
    | .sh=>none)=some x):∃v w' j',qZ P o a w v w'/\Rel j' x.2 w'/\Ext j M w j' x.2 w'/\gj j' x.2 w' x.1 v/\(ys=[]->v=a.eval y/\∀k,tk = .own k->j'=j)/\∀k b',tk = .own k->j' k=some b'->j k=some b'\/∃vs,w'.heap[b']?=some (.cells vs e (0,0)):=by
 obtain⟨⟨hroom,hwx,hwy⟩,h9⟩:=db h;clear h;have h:=h9;clear h9;have p1:=r1.dR;obtain⟨ux,fx1,fx2,fx3⟩:=EO (P:=P) p1 hwx hpos;obtain⟨bL,cap,_,_,_,_,hv,hcap,_⟩:=p1.dR;have ha':c.args = #[y,y']:=by rw[<-ha]
 have hexec:∀r,(Builtin.append_ #[t,t'] o.type #[a.eval y,a.eval y']).run P w=r->(execOp a.eval o).run P w=r.andThen fun v w' => .ok (.value v) w':=by
  intro r hr';simp[execOp,hop,resolve,hb,invoke,builtin,ha',hat,hr']
 rw[hv] at fx1;obtain⟨A1,A2⟩:=tv (P:=P) (w:=w) hs hs' hd' hi hz hb0 hb1 o.type (bL:=bL) (n:=xs.length) (cap:=cap) (m:=ys.length) dQ fx1 fy1 hroom;rw[<-hv] at A1 A2
 -- nothing is appended
 have nil:ys=[]->∃v,(execOp a.eval o).run P w = .ok (.value v) w/\v=a.eval y:=by
  intro hy;subst hy;refine⟨_,?_,rfl⟩
  have:=A1 (by simp; exact hcap) w (by
   cases bL with
   |none=>rfl
   |some ad=>simp[storeCells])
  rw[hexec _ this];simp[hv]
 -- a new block
 have fresh:cap<xs.length+ys.length->∃newCap arr w',xs.length+ys.length<=newCap/\(execOp a.eval o).run P w = .ok (.value (.slice (some ⟨w.heap.size,0,none⟩) (xs.length+ys.length) newCap)) w' /\
   Quiet w w'/\(∀b,b<w.heap.size->w'.heap[b]?=w.heap[b]?)/\w'.heap[w.heap.size]?=some (.cells arr e (0,0))/\newCap*i.size<=arr.size /\
   (∀p,p<xs.length*i.size->arr[p]?=some (ux p))/\∀p,p<ys.length*i.size->arr[xs.length*i.size+p]?=some (uy p):=by
  intro cz;obtain⟨newCap,rest,h1,h2,h3⟩:=A2 cz;obtain⟨q,hbk,jf⟩:=pv (w:=w) (.cells (((List.range (xs.length*i.size)).map ux).toArray++((List.range (ys.length*i.size)).map uy).toArray++rest) e (0,0));refine⟨newCap,_,{ w with heap:=w.heap.push (.cells (((List.range (xs.length*i.size)).map ux).toArray++((List.range (ys.length*i.size)).map uy).toArray++rest) e (0,0)),drawn:=w.drawn+1 },h1,(hexec _ h3).trans rfl,⟨q.size,rfl,rfl,rfl⟩,hbk,jf,?_,fun p hp=>?_,fun p hp=>?_⟩
  ·simp only[fV,cU,fH,List.length_range,h2,hzs];rw[<-bJ,<-bJ];exact bj _ (by omega)
  ·rw[Array.append_assoc,cg (by simpa using hp)]
   simp[hp]
  ·rw[Array.append_assoc,Array.getElem?_append_right (by simp),cg (by simp; omega)]
   simp[hp]
 split at h
 ·-- c0
  split at h
  ·cases h;simp only[av,aL] at *
   have hc0:cap=0:=by
    obtain⟨A',hA'⟩:=r1.CR;rw[hv] at hA';injection hA'
   by_cases hy:ys=[]
   ·subst hy;obtain⟨v,h1,h2⟩:=nil rfl;have q:Quiet w w:=⟨aC _,rfl,rfl,rfl⟩;refine⟨v,w,gD j M.length none,.inl h1,hr.push (ob:=none) (fun b h=>by cases h) q (fun _ _=>rfl) (fun h=>by cases h) (fun sz n b h h'=>by cases h'),Ext.push (fun b h=>by cases h) q (fun _ _=>rfl),?_,fun _=>⟨h2,fun _ h=>by cases h⟩,fun _ _ h=>by cases h⟩
    rw[h2,hv,hc0];exact .own (sz:=i.size) (n:=0) (by simp) (by simp) (fM.nil _ _ _) fun _ => .inl ⟨by simp[gD],rfl,bL,rfl⟩
   ·have hyl:0<ys.length:=gw.2 hy;obtain⟨newCap,arr,w',g1,g2,g3,g4,g5,g6,g7,g8⟩:=fresh (by omega)
    have hob:∀b,some w.heap.size=some b->w.heap.size<=b/\b<w'.heap.size:=fun b hb=>by
     cases hb; exact⟨aC _,lt_of_block g5⟩
    have ext:Ext j M w (gD j M.length (some w.heap.size)) (M++[.tick i.size ys.length]) w':=Ext.push (fun b hb=>(hob b hb).1) g3 g4
    refine⟨_,w',gD j M.length (some w.heap.size),.inl g2,hr.push hob g3 g4 (fun h=>by cases h) (fun sz n b _ hb=>by grind),ext,?_,fun h=>absurd h hy,fun _ _ h=>by cases h⟩
    have hsaf:∀p,p<(0+ys.length)*i.size->ny (gD j M.length (some w.heap.size)) (M++[.tick i.size ys.length]) w' w.heap.size p:=by
     intro p hp;refine⟨lt_of_block g5,fun id hid hj=>?_,fun hx=>absurd (hr.Aq _ _ hx) (im _)⟩
     by_cases hid':id=M.length
     ·subst hid'; exact⟨i.size,ys.length,by simp,by simpa using hp⟩
     ·have:=hr.lt id w.heap.size (by simp at hid; omega) (by simpa[gD,hid'] using hj)
      omega
    have hj:=fM.join (xs:=[]) (ys:=ys) (w':=w') hwx hwy hpos (ux:=ux) (uy:=uy) (fun i y k c h=>by simp at h) (fun i y k c h1 h2=>(fy2 i y k c h1 h2).mono ext.ib) g5 (fun p hp=>by simp at hp) (fun p hp=>by simpa using g8 p hp) hsaf (cap:=newCap) (by simpa using g1)
    simp only[aZ,av,aL] at hj;exact .own (sz:=i.size) (n:=ys.length) (by simp) (aC _) hj fun _ => .inr ⟨w.heap.size,newCap,arr,e,by simp[gD],rfl,g5,g6,g1⟩
  ·cases h
 ·-- own
  rename_i k;rw[fK] at h;split at h
  ·rename_i sz' n' hMk;obtain⟨⟨e1,e2⟩,hx⟩:=db h;subst e1;subst e2;injection hx with hx
   subst hx;rw[gy];obtain⟨sz0,n0,hk,hn,hrp,ht⟩:=r1.ZJ
   ·rw[hMk] at hk;injection hk with hk; injection hk with e1 e2
    subst e1; subst e2
    by_cases hy:ys=[]
    ·subst hy;obtain⟨v,h1,h2⟩:=nil rfl
     have hset:M.set k (.tick i.size (xs.length+([]:List ag).length))=M:=by
      apply dM
      grind
     rw[h2] at h1;rw[hset,cZ];exact⟨a.eval y,w,j,.inl h1,hr,Ext.refl j M w,r1,fun _=>⟨rfl,fun _ _=>rfl⟩,fun _ _ _ h => .inl h⟩
    ·have hyl:0<ys.length:=gw.2 hy
     have moved:cap<xs.length+ys.length->∃v w' j',qZ P o a w v w'/\Rel j' (M.set k (.tick i.size (xs.length+ys.length))) w'/\Ext j M w j' (M.set k (.tick i.size (xs.length+ys.length))) w'/\gj j' (M.set k (.tick i.size (xs.length+ys.length))) w' (.slice (.own k) (xs++ys)) v/\(ys=[]->v=a.eval y/\∀k',Tk.own k = .own k'->j'=j)/\∀k' b',Tk.own k = .own k'->j' k'=some b'->j k'=some b'\/∃vs,w'.heap[b']?=some (.cells vs e (0,0)):=by
      intro cz;obtain⟨newCap,arr,w',g1,g2,g3,g4,g5,g6,g7,g8⟩:=fresh cz;have ext:Ext j M w (gD j k (some w.heap.size)) (M.set k (.tick i.size (xs.length+ys.length))) w':=Ext.Cx hMk g3 g4 (aC _) (by omega)
      refine⟨_,w',gD j k (some w.heap.size),.inl g2,Rel.Cx hMk hr g3 g4 (aC _) g5 (by omega),ext,?_,fun h=>absurd h hy,fun k' b' hk' hb' => .inr ⟨arr,(by grind [gD])⟩⟩
      have hsaf:∀p,p<(xs.length+ys.length)*i.size->ny (gD j k (some w.heap.size)) (M.set k (.tick i.size (xs.length+ys.length))) w' w.heap.size p:=by
       intro p hp;refine⟨lt_of_block g5,fun id hid hj=>?_,fun hx=>absurd (hr.Aq _ _ hx) (im _)⟩
       by_cases hid':id=k
       ·subst hid'; exact⟨i.size,_,dK (aK hMk),hp⟩
       ·have:=hr.lt id w.heap.size (by simpa using hid) (by simpa[gD,hid'] using hj)
        omega
      have hj:=fM.join (w':=w') hwx hwy hpos (ux:=ux) (uy:=uy) (fun i y k c h1 h2=>(fx2 i y k c h1 h2).mono ext.ib) (fun i y k c h1 h2=>(fy2 i y k c h1 h2).mono ext.ib) g5 g7 g8 hsaf (cap:=newCap) g1
      exact .own (sz:=i.size) (n:=xs.length+ys.length) (dK (aK hMk)) (by simp) hj fun _ => .inr ⟨w.heap.size,newCap,arr,e,by simp[gD],rfl,g5,g6,g1⟩
     rcases ht rfl with ⟨_,hn0,A',hA'⟩|⟨b,cap0,vs,t0,hj,hv0,hw0,hsz0,hcap0⟩
     ·rw[hv] at hA';injection hA' with _ _ e3
      exact moved (by omega)
     ·have hvv:=hv.symm.trans hv0;injection hvv with e1 e2 e3
      subst e1; subst e3
      by_cases hfit:xs.length+ys.length<=cap
      ·have jf:(((List.range (ys.length*i.size)).map uy).toArray).toList.length=ys.length*i.size:=by simp
       have hle:xs.length*i.size+ys.length*i.size<=vs.size:=by
        rw[<-bJ];exact aW (bj _ hfit) hsz0
       have hone:∀v,v∈(((List.range (ys.length*i.size)).map uy).toArray).toList->v.oneCell'=true:=by
        intro v hv;simp only[dj,jb] at hv;obtain⟨p,hp,rfl⟩:=hv;have hd:p / i.size<ys.length:=(kl hpos).2 hp;have hm:p % i.size<i.size:=Nat.mod_lt _ hpos;have hcl:=hwy _ (iU hd);have:=fy2 (p / i.size) _ (p % i.size) _ (ai hd) (ai (by omega))
        rw[Nat.div_add_mod'] at this;exact this.one
       have hst:=mN (P:=P) (((List.range (ys.length*i.size)).map uy).toArray).toList w (xs.length*i.size) 0 vs hw0 (by rw[jf]; omega) hone
       rw[dk] at hst;obtain⟨s1,s2,s3,s4,s5,vs',s6,s7,s8,s9⟩:=lC (((List.range (ys.length*i.size)).map uy).toArray).toList w (xs.length*i.size) vs hw0 (by rw[jf]; omega)
       have hrun:=A1 hfit _ (by
        show(storeCells ((⟨b,0,none⟩:Addr).add (xs.length*i.size)) _).run P w=_
        rw[lF,aL];exact hst)
       have q:Quiet w (oy w b (xs.length*i.size) (((List.range (ys.length*i.size)).map uy).toArray).toList):=⟨by omega,s2,s3,s4⟩
       have hkeep:∀p,p<xs.length*i.size->vs'[p]?=vs[p]?:=fun p hp=>s8 p (.inl hp)
       have ext:Ext j M w j (M.set k (.tick i.size (xs.length+ys.length))) (oy w b (xs.length*i.size) (((List.range (ys.length*i.size)).map uy).toArray).toList) :=
        Ext.G5 hMk hj hr q (fun b' hb' _=>s5 b' hb') hw0 s6 s7 hkeep (by omega)
       refine⟨_,_,j,.inl ((hexec _ hrun).trans rfl),Rel.G5 hMk hj hr q (fun b' hb' _=>s5 b' hb') hw0 s6 s7 hkeep (by omega),ext,?_,fun h=>absurd h hy,fun _ _ _ h => .inl h⟩
       have hsaf:∀p,p<(xs.length+ys.length)*i.size->ny j (M.set k (.tick i.size (xs.length+ys.length))) (oy w b (xs.length*i.size) (((List.range (ys.length*i.size)).map uy).toArray).toList) b p:=by
        intro p hp;refine⟨lt_of_block s6,fun id hid hj'=>?_,hr.uS k b (aK hMk) hj p⟩
        have:id=k:=hr.inj id k b (by simpa using hid) (aK hMk) hj' hj
        subst this;exact⟨i.size,_,dK (aK hMk),hp⟩
       have hjn:=fM.join hwx hwy hpos (ux:=ux) (uy:=uy) (fun i y k c h1 h2=>(fx2 i y k c h1 h2).mono ext.ib) (fun i y k c h1 h2=>(fy2 i y k c h1 h2).mono ext.ib) s6 (fun p hp=>by
        rw[hkeep p hp];have:=fx3 b ⟨_,_,hv⟩ p hp;simpa[World.cell?,hw0] using this) (fun p hp=>by
        rw[s9 p (by rw[jf]; exact hp)]
        simp[hp]) hsaf (cap:=cap) hfit
       exact .own (sz:=i.size) (n:=xs.length+ys.length) (dK (aK hMk)) (by simp) hjn fun _ => .inr ⟨b,cap,vs',t0,hj,rfl,s6,by omega,hfit⟩
      ·exact moved (by omega)
  ·cases h
 ·cases h
theorem Lb(hr:Rel j M w)(he:cn j M w br a){c:Call}{y y':Operand}{z z':gV}{t t' e e':TypeId}{i:TypeInfo}{zv:Value}(hop:o.op = .call c)(hb:c.callee = .builtin .append)(ha:c.args.toList=[y,y'])
  (hat:c.argTypes = #[t,t']) (hs:P.underlying t=some (.slice e)) (hs':P.underlying t'=some (.slice e')) (hi:P.info? e=some i) (hz:i.zero=some zv) (hzs:zv.cells.size=i.size) (hpos:0<i.size) (hb0:0<i.bytes) (hb1:i.bytes<=2 ^ 20)
  (hzy:eE y=some z) (hzy':eE y'=some z') (h:ef C br M (.append i.size i.bytes z z')=some x) (hna:∀id ver sz lo hi,z.ev br ≠ .cS id ver sz lo hi):∃v w',qZ P o a w v w'/\iL j M w x v w':=by
 simp[ef] at h;have r1:=cX he hzy;have r2:=cX he hzy';split at h
 ·rename_i tk xs tk' ys ez ez';obtain⟨⟨_,hwx,hwy⟩,_⟩:=db h;rw[ez] at r1;rw[ez'] at r2;have p2:=r2.dR;obtain⟨uy,fy1,fy2,_⟩:=EO p2 hwy hpos;obtain⟨A,cap',_,_,_,_,hv',_⟩:=p2.dR;obtain⟨v,w',j',q1,q2,q3,q4,_⟩:=Hr hr hop hb ha hat hs hs' (fun k h=>by cases h) hi hz hzs hpos hb0 hb1 r1 (fun w'=>by rw[hv']; rfl) fy1 fy2 h
  exact⟨v,w',q1,j',q2,q3,q4⟩
 ·grind
 grind
end
section
variable {P:Program} {C:eK} {o:Oper} {br:Env} {M:aG} {j:J} {w:World} {a:Act} {x:ag×aG}
def KI {f:Field} {k:FK} (h:QG P f=some k):f.name ≠ "_" /\ B8 P f.type=some false/\(match k with | .b=>P.underlying f.type=some .bool | .i=>∃q,P.underlying f.type=some (.int q) | .s=>P.underlying f.type=some .string):=by
 unfold QG at h;split at h
 ·cases h
 ·rename_i hn;refine⟨hn,?_⟩
  split at h<;>first
   |(cases h; rename_i hu; exact⟨by simp[B8,hu],by first|exact hu|exact⟨_,hu⟩⟩)
   |cases h
def KD{d:Nat}{f:Field}{k:FK}(hf:QG P f=some k){y z:ag}{u v:Value}(hu:gj j M w y u)(hv:gj j M w z v){e:Bool}(h:mc k y z=some e) :
  (Op.equalIn (d+1) f.type u v).run P w = .ok e w:=by
 have hk:=(KI hf).2.2;unfold mc at h;split at h
 ·rename_i k1 a k2 b;obtain⟨q,hq⟩:=hk;split at h
  ·rename_i he;subst he;cases h;rw[hu.fT,hv.fT];exact run_equalIn_int w d f.type _ _ a b hq
  ·cases h
 ·rename_i a b;cases h;rw[hu.j5,hv.j5,run_equalIn_string w d f.type _ _ hk,uW,uW]
 ·rename_i a b;cases h;rw[hu.jh,hv.jh];exact run_equalIn_bool' w d f.type a b hk
 ·cases h
def zD{d:Nat}{cs ds:List ag}{us vs:Array Value}(hc:RC j M w cs us)(hd:RC j M w ds vs):∀ {l:List Field} {k:Nat} {ks:List FK} {e:Bool},BD P k l=some ks->ko ks (cs.drop k) (ds.drop k)=some e ->
  (Op.eqFields (d+1) us vs l).run P w = .ok e w
 | [],k,ks,e,h1,h2=>by
  simp[BD] at h1; subst h1;unfold ko at h2;split at h2<;>simp_all [Op.eqFields]
 |f::r,k,ks,e,h1,h2=>by
  simp only[BD] at h1;split at h1
  ·rename_i hoff;obtain⟨q,hq,h1⟩:=ba h1;obtain⟨qs,hqs,h1⟩:=ba h1;cases h1
   have hk1:k<cs.length:=by
    rcases bD k cs.length with h|h
    ·exact h
    ·rw[iR h] at h2; simp[ko] at h2
   have hk2:k<ds.length:=by
    rcases bD k ds.length with h|h
    ·exact h
    ·rw[iR h] at h2;rw[di hk1] at h2;simp[ko] at h2
   rw[di hk1,di hk2] at h2;simp only[ko] at h2;obtain⟨e1,he1,h2⟩:=bl h2;obtain⟨e2,he2,h2⟩:=bl h2;cases h2;have hlu:k<us.size:=by have:=hc.1; omega
   have hlv:k<vs.size:=by have:=hd.1; omega
   have hu:=bd hlu;have hv:=bd hlv;have ih:=zD (d:=d) hc hd hqs he2;obtain⟨hn,hag,_⟩:=KI hq;have p1:(part f.type us f.offset).run P w = .ok us[k] w:=by simp[part,kL hag,hoff,hu]
   have p2:(part f.type vs f.offset).run P w = .ok vs[k] w:=by simp[part,kL hag,hoff,hv]
   have p3:=KD (d:=d) hq (hc.2 k _ _ (ai hk1) hu) (hd.2 k _ _ (ai hk2) hv) he1;simp only[Op.eqFields,bc hn,Sem.run_bind,p1,p2,p3,Result.andThen_ok];cases e1
   ·simp
   ·simpa using ih
  ·cases h1
def LZ:∀ {l:List Field} {k:Nat} {ks:List FK},BD P k l=some ks->∀f,f∈l->∃q,QG P f=some q
 | [],_,_,_,f,hf=>by simp at hf
 |g::r,k,ks,h,f,hf=>by
  simp only[BD] at h;split at h
  ·obtain⟨q,hq,h⟩:=ba h;obtain⟨qs,hqs,h⟩:=ba h;rcases bC.1 hf with rfl|hf
   ·exact⟨q,hq⟩
   ·exact LZ hqs f hf
  ·cases h
def UW(hr:Rel j M w)(he:cn j M w br a){neg:Bool}{y y':Operand}{z z':gV}{t t':TypeId}{fs:Array Field}{ks:List FK}(hop:o.op = .binOp (if neg then .neq else .eql) t y y' t')(ht:P.underlying t=some (.struct fs))
  (hst:P.stoodInHeld t=false) (hks:BD P 0 fs.toList=some ks) (hz:eE y=some z) (hz':eE y'=some z') (h:ef C br M (.Xf ks neg z z')=some x):∃v w',qZ P o a w v w'/\iL j M w x v w':=by
 simp only[ef] at h;have h1:=cX he hz;have h2:=cX he hz';split at h
 ·rename_i cs ds ez ez';obtain⟨e,hee,h⟩:=bl h;cases h;rw[ez] at h1;rw[ez'] at h2;obtain⟨us,hus,hul,huc⟩:=h1.ml;obtain⟨vs,hvs,hvl,hvc⟩:=h2.ml;have hfs:P.fieldsOf t=fs:=by simp[Program.fieldsOf,ht]
  have heq:(Op.equal t (.agg us) (.agg vs)).run P w = .ok e w:=by
   unfold Op.equal;rw[show Op.maxDepth=9999+1 from rfl,run_equalIn_struct w 9999 t us vs (by rw[hfs]; exact ht) hst,hfs]
   exact zD (d:=9998) ⟨hul,huc⟩ ⟨hvl,hvc⟩ hks (by simpa using hee)
  have hgt:P.eqGuardType P.depth t=false:=by
   unfold Program.depth;rw[show 2*(P.types.size+Made.depth)+2=(2*(P.types.size+Made.depth)+1)+1 from rfl,Program.eqGuardType,ht]
   simp only;rw[Array.any_eq_false];intro i hi;obtain⟨q,hq⟩:=LZ hks fs[i] (by simp)
   have:=(KI hq).2.2;simp only[Program.eqGuardType];cases q<;>simp only at this
   ·obtain⟨_,hu⟩:=this; simp[hu]
   ·simp[this]
   ·simp[this]
  have hguard:∀op,(eqGuard op t y y' (.agg us) (.agg vs)).run P w = .ok () w:=by
   intro op;unfold eqGuard;cases op<;>simp[hgt]
  cases neg
  ·exact⟨.bool e,w,.inl (by simp[execOp,hop,hus,hvs,hguard,binOp,heq]),.still hr (.plain (.bool _))⟩
  ·exact⟨.bool (!e),w,.inl (by simp[execOp,hop,hus,hvs,hguard,binOp,heq]),.still hr (.plain (.bool _))⟩
 ·cases h
end
end
end
section
open Go Go.RowKit
variable [kh]
section
variable {j:J} {M:aG} {w w':World}
def Bf(hr:Rel j M w):∀n,∃j',Rel j' (M++List.replicate n dy.vF) w/\Ext j M w j' (M++List.replicate n dy.vF) w
 |0=>⟨j,by simpa using hr,by simpa using Ext.refl j M w⟩
 |n+1=>by
  obtain⟨j',h1,h2⟩:=Bf hr n;have q:Quiet w w:=⟨aC _,rfl,rfl,rfl⟩;refine⟨gD j' (M++List.replicate n dy.vF).length none,?_⟩;rw[mW,<-fx];exact⟨h1.push (ob:=none) (bx := .vF) (fun b h=>by cases h) q (fun _ _=>rfl) (fun h=>by cases h) (fun sz n b h h'=>by cases h'),h2.trans (Ext.push (fun b h=>by cases h) q (fun _ _=>rfl))⟩
def Ext.fill{p b:Nat}{cs:List ag}(hM:M[p]?=some .vF)(hob:w.heap.size<=b)(q:Quiet w w')(hb:∀b,b<w.heap.size->w'.heap[b]?=w.heap[b]?) :
  Ext j M w (gD j p (some b)) (M.set p (.cells cs)) w' where
 len:=by simp
 size:=q.size
 os:=q.os
 tape:=q.tape
 output:=q.output
 X:=rfl
 fix:=fun i bx h hf=>by
  have e:p≠i:=by rintro rfl; rw[hM] at h; cases h; cases hf
  exact⟨by simp[gD,eZ e],bx,by rw[cJ e]; exact h,rfl⟩
 tick:=fun i sz n h=>by
  have e:p≠i:=by rintro rfl; rw[hM] at h; cases h
  exact⟨n,aC _,by rw[cJ e]; exact h,fun _=>⟨by simp[gD,eZ e],fun b vs t _ hv=>⟨vs,(hb b (lt_of_block hv)).trans hv,rfl⟩⟩⟩
 arr:=fun i sz v xs h=>by
  have e:p≠i:=by rintro rfl; rw[hM] at h; cases h
  exact .inr ⟨v,xs,by rw[cJ e]; exact h,aC _,fun _=>⟨by simp[gD,eZ e],rfl,fun b vs t _ hv=>⟨vs,(hb b (lt_of_block hv)).trans hv,rfl⟩⟩⟩
 tags:=fun b0 vs0 t0 fr0 h=>⟨vs0,fr0,(hb b0 (lt_of_block h)).trans h,rfl⟩
 ib:=fun b0 off h=>by
  refine⟨⟨bz h.1 q.size,fun id hid hj=>?_,h.3⟩,World.cell?_of_block (w:=w) (hb b0 h.1)⟩
  by_cases he:id=p
  ·have:b=b0:=by simpa[gD,he] using hj
   have:=h.1;omega
  ·rw[cJ (eZ he)];exact h.2 id (by simpa using hid) (by simpa[gD,he] using hj)
 tL:=fun b0 cz h=>by
  refine⟨hb b0 cz,fun i hi hj=>?_⟩
  by_cases he:i=p
  ·have:b=b0:=by simpa[gD,he] using hj
   omega
  ·exact h i (by simpa using hi) (by simpa[gD,he] using hj)
def Rel.fill(hr:Rel j M w){p b:Nat}{cs:List ag}(hM:M[p]?=some .vF)(hob:w.heap.size<=b)(hbl:b<w'.heap.size)(q:Quiet w w')(hb:∀b,b<w.heap.size->w'.heap[b]?=w.heap[b]?)
  (hbox:∀j' M',Ext j M w j' M' w'->Holds j' M' w' b (.cells cs)):Rel (gD j p (some b)) (M.set p (.cells cs)) w':=by
 have ext:Ext j M w (gD j p (some b)) (M.set p (.cells cs)) w':=Ext.fill hM hob q hb;have up:∀i,i≠p->gD j p (some b) i=j i:=fun i hi=>by simp[gD,hi]
 have hp:=aK hM;refine⟨fun i i' b0 hi hi' h h'=>?_,fun i b0 hi h=>?_,fun i bx' h hf=>?_,fun i sz n b0 h hj=>?_,fun i sz ver xs h=>?_,fun i b0 hi h off hx=>?_,fun b off h=>bz (hr.Aq b off h) q.size⟩
 ·simp only[fi] at hi hi'
  by_cases e:i=p<;>by_cases e':i'=p
  ·omega
  ·have h1:b=b0:=by simpa[gD,e] using h
   rw[up i' e'] at h';have:=hr.lt i' b0 hi' h';omega
  ·have h1:b=b0:=by simpa[gD,e'] using h'
   rw[up i e] at h;have:=hr.lt i b0 hi h;omega
  ·rw[up i e] at h;rw[up i' e'] at h';exact hr.inj i i' b0 hi hi' h h'
 ·simp only[fi] at hi
  by_cases e:i=p
  ·have h1:b=b0:=by simpa[gD,e] using h
   omega
  ·rw[up i e] at h;exact bz (hr.lt i b0 hi h) q.size
 ·by_cases e:i=p
  ·subst e;rw[dK hp] at h;cases h;exact⟨b,by simp[gD],hbox _ _ ext⟩
  ·rw[cJ (eZ e)] at h;obtain⟨b0,h1,h2⟩:=hr.fix i bx' h hf;exact⟨b0,by rw[up i e]; exact h1,h2.mono ext (hb b0 (hr.lt i b0 (aK h) h1))⟩
 ·by_cases e:i=p
  ·subst e; rw[dK hp] at h; cases h
  ·rw[cJ (eZ e)] at h;rw[up i e] at hj;obtain⟨vs,t,h1⟩:=hr.tick i sz n b0 h hj;exact⟨vs,t,(hb b0 (lt_of_block h1)).trans h1⟩
 ·by_cases e:i=p
  ·subst e; rw[dK hp] at h; cases h
  ·rw[cJ (eZ e)] at h;exact pG hr ext h (up i e) fun b0 h1=>hb b0 (hr.lt i b0 (aK h) h1)
 ·simp only[fi] at hi
  by_cases e:i=p
  ·have h1:b=b0:=by simpa[gD,e] using h
   have h2:=hr.Aq b0 off hx;omega
  ·rw[up i e] at h;exact hr.uS i b0 hi h off hx
def QC(hr:Rel j M w){p:Nat}(hM:M[p]?=some .vF){cs:List ag}{vs:Array Value}(hc:RC j M w cs vs)(t:TypeId) :
  iL j M w (.ptr p 0,M.set p (.cells cs)) (.pointer (some ⟨w.heap.size,0,none⟩)) { w with heap:=w.heap.push (.cells vs t (0,0)) }:=by
 have q:Quiet w { w with heap:=w.heap.push (.cells vs t (0,0)) }:=⟨by simp,rfl,rfl,rfl⟩
 have hb:∀b,b<w.heap.size->({ w with heap:=w.heap.push (.cells vs t (0,0)) }:World).heap[b]?=w.heap[b]?:=fun b hb=>by
  show(w.heap.push _)[b]?=_
  rw[fP,aH (by omega)]
 have hn:({ w with heap:=w.heap.push (.cells vs t (0,0)) }:World).heap[w.heap.size]?=some (.cells vs t (0,0)):=by simp
 have hp:=aK hM;exact⟨gD j p (some w.heap.size),hr.fill hM (aC _) (by simp) q hb (fun j' M' hx=>⟨vs,t,hn,hc.1,fun i c v h1 h2=>(hc.2 i c v h1 h2).mono hx⟩),Ext.fill hM (aC _) q hb,.ptr (by simpa using hp) ⟨cs,dK hp⟩ (by simp[gD])⟩
end
variable {P:Program} {own:List Nat} {o:Oper}
def Ns{l:List ag}{t:TypeId}(hop:o.op = .alloc t)(h:Pv P own o=some (.pH l)):∃i zv,P.info? t=some i/\i.zero=some zv/\sy zv.cells.toList=some l:=by
 simp only[Pv,hop] at h;obtain⟨i,hi,h⟩:=ba h;obtain⟨z,hz,h⟩:=ba h;obtain⟨l',hl,h⟩:=ba h;split at h
 ·split at h
  ·split at h
   ·obtain⟨n,hn,h⟩:=ba h;cases h
   ·cases h
  ·injection h with h; cases h; exact⟨i,z,hi,hz,hl⟩
 ·injection h with h; cases h; exact⟨i,z,hi,hz,hl⟩
def Nt{l:List ag}{t0:TypeId}(hop:o.op = .alloc t0)(h:Pv P own o=some (.pH l))(a:Act)(w:World):∃vs t,(∀j M w',RC j M w' l vs)/\qZ P o a w (.pointer (some ⟨w.heap.size,0,none⟩)) { w with heap:=w.heap.push (.cells vs t (0,0)) }:=by
 obtain⟨i,zv,hi,hz,hl⟩:=Ns hop h;refine⟨zv.cells,t0,fun j M w'=>?_,.inl (by simp[execOp,hop,Instr.alloc,zeroValue,pg hi,hz,newVar,newRow])⟩
 obtain⟨h1,h2⟩:=pF (j:=j) (M:=M) (w:=w') hl;exact⟨by simpa using h1,fun i c v hc hv=>h2 i c v hc (by simpa using hv)⟩
end
section
open Go Go.RowKit
variable [kh]
theorem yR{x:Nat}:∀(l a:List Nat),x∈j8 a l↔x∈a\/x∈l
 | [],a=>by simp[j8]
 |y::r,a=>by
  rw[j8,yR r]
  grind
theorem qO:∀(l a:List Nat),a.Nodup->(j8 a l).Nodup
 | [],a,h=>h
 |y::r,a,h=>by
  refine qO r _ ?_
  grind
def IT(M:aG)(l:List Nat):(reach M l).Nodup:=qO _ _ (qO _ _ (qO _ _ (qO _ _ oo)))
def OB{M:aG}{l:List Nat}{x:Nat}(h:x∈l):x∈reach M l:=by
 simp_all [reach,kD,yR]
theorem Ft{M:aG}{x i:Nat}{b:dy}:∀ {l:List Nat},i∈l->M[i]?=some b->x∈b.ids->x∈pX M l
 | [],h,_,_=>by grind
 |k::r,h,hb,hx=>by
  rw[pX,bm];rcases bC.1 h with rfl|h
  ·grind [fK]
  ·exact .inr (Ft h hb hx)
theorem NM{M:aG}{ids:List Nat}(h:kD M ids=ids){i x:Nat}{b:dy}(hi:i∈ids)(hb:M[i]?=some b)(hx:x∈b.ids):x∈ids:=by
 rw[<-h,kD,yR]
 grind [Ft]
theorem tH:∀ {ids:List Nat} {x:Nat},x∈ids->ids[iy ids x]?=some x
 | [],_,h=>by grind
 |a::l,x,h=>by
  rw[iy];split
  ·grind
  ·rcases bC.1 h with rfl|h
   ·omega
   ·simpa using tH h
def uz{ids:List Nat}{x:Nat}(h:x∈ids):iy ids x<ids.length:=aK (tH h)
theorem Cn:∀ {ids:List Nat} {i x:Nat},ids.Nodup->ids[i]?=some x->iy ids x=i
 | [],i,x,_,h=>by grind
 |a::l,i,x,hn,h=>by
  rw[iy];have hn':=nH.1 hn;cases i with
  |zero=>grind
  |succ i =>
   have h':l[i]?=some x:=by grind
   rw[aH (by grind),Cn hn'.2 h']
def LG{ids:List Nat}{x:Nat}(h:x∈ids):wD ids (iy ids x)=x:=by rw[wD,fK,tH h]; rfl
def ac6{ids:List Nat}{i x:Nat}(h:ids[i]?=some x):wD ids i=x:=by rw[wD,fK,h]; rfl
theorem DM{M:aG}{ρ:Nat->Nat}:∀ {l:List Nat} {B:aG},jE M ρ l=some B->B.length=l.length/\∀(i id:Nat),l[i]?=some id->∃b,M[id]?=some b/\b.flat=true/\B[i]?=some (b.pL ρ)
 | [],B,h=>by grind [jE]
 |k::r,B,h=>by
  simp[jE,fK] at h;split at h
  ·split at h
   ·obtain⟨l,hl,h⟩:=bl h;injection h with h; obtain⟨h1,h2⟩:=DM hl
    grind
   grind
  grind
theorem vX{ids:List Nat}:∀ {l:List Nat} {B M:aG},l.Nodup->l.length=B.length->(kY ids M l B).length=M.length/\(∀i,i∉l->(kY ids M l B)[i]?=M[i]?) /\
  ∀(i id:Nat)(b:dy),l[i]?=some id->id<M.length->B[i]?=some b->(kY ids M l B)[id]?=some (b.pL (wD ids))
 | [],B,M,_,_=>by simp[kY]
 |k::r,[],M,_,hl=>by simp at hl
 |k::r,b::B,M,hn,hl=>by
  rw[kY,gy];have hn':=nH.1 hn;obtain⟨h1,h2,h3⟩:=vX (ids:=ids) (B:=B) (M:=M.set k (b.pL (wD ids))) hn'.2 (by grind)
  grind
def MQ(ρ:Nat->Nat)(b:dy):(b.pL ρ).tag=b.tag:=by cases b<;>rfl
def xU{ρ:Nat->Nat}{b:dy}(h:b.loose=true):b.pL ρ=b:=by cases b<;>first|rfl|cases h
structure Sub(j:J)(M:aG)(w:World)(ids:List Nat)(B:aG):Prop where
 nodup:ids.Nodup
 len:B.length=ids.length
 box:∀(i id:Nat),ids[i]?=some id->∃b,M[id]?=some b/\b.flat=true/\B[i]?=some (b.pL (iy ids))
 closed:∀(i:Nat)(b:dy),i∈ids->M[i]?=some b->∀x,x∈b.ids->x∈ids
def down(j:J)(M:aG)(ids:List Nat):J:=⟨fun i=>match ids[i]? with|some id=>j id|none=>none,fun b off=>j.X b off\/∃id,id<M.length/\id∉ids/\j id=some b/\¬ ∃sz n,M[id]?=some (.tick sz n)/\off<n*sz⟩
section
variable {j:J} {M B:aG} {w:World} {ids:List Nat}
theorem Sub.at_(s:Sub j M w ids B){id:Nat}(h:id∈ids){b:dy}(hb:M[id]?=some b):B[iy ids id]?=some (b.pL (iy ids)):=by
 obtain⟨b',h1,_,h2⟩:=s.box _ _ (tH h)
 grind
theorem Sub.inv(s:Sub j M w ids B){i:Nat}{c:dy}(h:B[i]?=some c):∃id b,ids[i]?=some id/\M[id]?=some b/\b.flat=true/\c=b.pL (iy ids):=by
 have hi:i<ids.length:=by rw[<-s.len]; grind
 obtain⟨b,h1,h2,h3⟩:=s.box i _ (ai hi)
 grind
theorem mB{id:Nat}(h:id∈ids):(down j M ids) (iy ids id)=j id:=by grind [down,tH]
theorem qv{i b:Nat}(h:(down j M ids) i=some b):∃id,ids[i]?=some id/\j id=some b:=by
 grind [down]
def Sub.ib(s:Sub j M w ids B){b off:Nat}(h:ny j M w b off):ny (down j M ids) B w b off:=by
 refine⟨h.lt,fun i hi hj=>?_,fun hx=>?_⟩
 ·obtain⟨id,h1,h2⟩:=qv hj;obtain⟨bx,h3,_,h4⟩:=s.box i _ h1;obtain⟨sz,n,h5,h6⟩:=h.ids _ (aK h3) h2;rw[h3] at h5; cases h5;exact⟨sz,n,h4,h6⟩
 ·rcases hx with hx|⟨id,h1,_,h2,h3⟩
  ·exact h.nx hx
  ·exact h3 (h.ids _ h1 h2)
theorem Sub.VE(s:Sub j M w ids B){x:ag}{v:Value}(h:gj j M w x v)(hf:x.EP=true)(hi:∀i,i∈x.ig->i∈ids):gj (down j M ids) B w (x.sZ (iy ids)) v:=by
 cases h with
 |plain h =>
  have:x.sZ (iy ids)=x:=by cases h<;>rfl
  rw[this];exact .plain (h.mono fun b off hs=>⟨s.ib hs,rfl⟩)
 |c0 A=>exact .c0 A
 | @own k xs v sz n hk hn hp ht =>
  have hki:k∈ids:=hi k (by simp[ag.ig])
  refine .own (sz:=sz) (n:=n) (s.at_ hki hk) hn (hp.mono fun b off hs=>⟨s.ib hs,rfl⟩) fun he=>?_
  rcases ht he with ⟨g1,g2,g3⟩|⟨b,cap,vs,t,g1,g2,g3,g4,g5⟩
  ·exact .inl ⟨by rw[mB hki]; omega,g2,g3⟩
  ·exact .inr ⟨b,cap,vs,t,by rw[mB hki]; exact g1,g2,g3,g4,g5⟩
 |agg=>cases hf
 |tuple=>cases hf
 | @ptr id off b hid hc hj =>
  have hki:id∈ids:=hi id (by simp[ag.ig])
  obtain⟨cs,hc⟩:=hc;exact .ptr (by rw[s.len]; exact uz hki) ⟨_,s.at_ hki hc⟩ (by rw[mB hki]; omega)
 |iQ h=>exact .iQ fun k c hk=>⟨(h k c hk).1,s.ib (h k c hk).2.1,(h k c hk).2.2.mono fun b off hs=>⟨s.ib hs,rfl⟩⟩
 |func=>cases hf
 | @ia id b hc hj =>
  have hki:id∈ids:=hi id (by simp[ag.ig])
  obtain⟨ks,vs,hc⟩:=hc;exact .ia ⟨_,_,s.at_ hki hc⟩ (by rw[mB hki]; exact hj)
 | @jn id b hc hj =>
  have hki:id∈ids:=hi id (by simp[ag.ig])
  obtain⟨ks,vs,hc⟩:=hc;exact .jn ⟨_,_,s.at_ hki hc⟩ (by rw[mB hki]; omega)
 | @jF t id off b hc hj =>
  have hki:id∈ids:=hi id (by simp[ag.ig])
  obtain⟨cs,hc⟩:=hc;exact .jF ⟨_,s.at_ hki hc⟩ (by rw[mB hki]; exact hj)
 |pR hl hd=>exact .pR hl fun i c v h1 h2=>(hd i c v h1 h2).mono fun b off hs=>⟨s.ib hs,rfl⟩
 | @jA ks vs b es cl hb hfr hx hw hk hv hks hvs =>
  refine .jA hb (fun i _ he=>?_) (fun off hx'=>?_) hw hk hv (fun i k e h1 h2=>(hks i k e h1 h2).mono fun b off hs=>⟨s.ib hs,rfl⟩) (fun i k e h1 h2=>(hvs i k e h1 h2).mono fun b off hs=>⟨s.ib hs,rfl⟩)
  ·obtain⟨id,h1,h2⟩:=qv he;obtain⟨bx,h3,_⟩:=s.box _ _ h1
   grind
  ·rcases hx' with hx'|⟨id,h1,_,h2,_⟩
   ·exact hx off hx'
   grind
 | @cS id ver sz0 lo hi v h0 hid hM hv =>
  have hki:id∈ids:=hi id (by simp[ag.ig])
  have hb:=ai hid;have hat:=s.at_ hki hb;rw[xU (hM _ hb)] at hat;refine .cS h0 (by rw[s.len]; exact uz hki) (fun bx hbx=>?_) fun sz v' xs h=>?_
  ·rw[hat] at hbx; exact hM bx (hb.trans hbx)
  ·rw[hat] at h;obtain⟨k1,k2⟩:=hv sz v' xs (hb.trans h)
   exact⟨k1,fun he=>by
    obtain⟨l0,l1,l2,⟨l3,l4,l5⟩|⟨b,cap,vs,t,l3,r⟩⟩:=k2 he
    ·exact⟨l0,l1,l2,.inl ⟨l3,by rw[mB hki]; omega,l5⟩⟩
    exact⟨l0,l1,l2,.inr ⟨b,cap,vs,t,by rw[mB hki]; omega,r⟩⟩⟩
 | @iJ id ver i off v h0 hid hM hv =>
  have hki:id∈ids:=hi id (by simp[ag.ig])
  have hb:=ai hid;have hat:=s.at_ hki hb;rw[xU (hM _ hb)] at hat;refine .iJ h0 (by rw[s.len]; exact uz hki) (fun bx hbx=>?_) fun sz v' xs h=>?_
  ·rw[hat] at hbx; exact hM bx (hb.trans hbx)
  grind [mB]
 |any v=>exact .any v
theorem Sub.Lk(s:Sub j M w ids B){x:ag}{v:Value}(h:gj j M w x v)(hf:x.vf=true)(hi:∀i,i∈x.mM->i∈ids):gj (down j M ids) B w (x.r8 (iy ids)) v:=by
 by_cases hfn:∃f caps,x = .func f caps
 ·obtain⟨f,caps,rfl⟩:=hfn;obtain⟨vs,rfl,hl,hc⟩:=h.rS;refine .func (by grind) fun i c u hci hu=>?_
  rw[bf,aN] at hci;obtain⟨c0,hc0,rfl⟩:=hci;have hm:=aQ hc0;exact s.VE (hc i _ u hc0 hu) (bI.1 hf _ hm) fun q hq=>hi q (iV.2 ⟨c0,hm,hq⟩)
 ·have e1:x.r8 (iy ids)=x.sZ (iy ids):=by cases x<;>first|rfl|grind
  have e2:x.mM=x.ig:=by cases x<;>first|rfl|grind
  have e3:x.EP=true:=by cases x<;>first|rfl|exact absurd ⟨_,_,rfl⟩ hfn|cases hf
  rw[e1];exact s.VE h e3 (by rw[<-e2]; omega)
theorem Sub.rep(s:Sub j M w ids B){x:ag}{v:Value}(h:gj j M w x v)(hf:x.flat=true)(hi:∀i,i∈x.ids->i∈ids):gj (down j M ids) B w (x.pL (iy ids)) v:=by
 by_cases hag:∃cs,x = .agg cs
 ·obtain⟨cs,rfl⟩:=hag;obtain⟨vs,rfl,hl,hc⟩:=h.ml;refine .agg (by grind) fun i c u hci hu=>?_
  rw[bf,aN] at hci;obtain⟨c0,hc0,rfl⟩:=hci;have hm:=aQ hc0;exact s.Lk (hc i _ u hc0 hu) (bI.1 hf _ hm) fun q hq=>hi q (iV.2 ⟨c0,hm,hq⟩)
 ·have e1:x.pL (iy ids)=x.r8 (iy ids):=by cases x<;>first|rfl|grind
  have e2:x.ids=x.mM:=by cases x<;>first|rfl|grind
  have e3:x.vf=true:=by cases x<;>first|exact hf|grind
  rw[e1];exact s.Lk h e3 (by rw[<-e2]; omega)
theorem Sub.rel(s:Sub j M w ids B)(hr:Rel j M w):Rel (down j M ids) B w:=by
 have PC:∀ {i id:Nat},ids[i]?=some id->id<M.length:=fun h=>by
  obtain⟨b,h1,_⟩:=s.box _ _ h
  grind
 refine⟨fun i i' b hi hi' h h'=>?_,fun i b hi h=>?_,fun i cb h hf=>?_,fun i sz n b h hj=>?_,fun i sz ver xs h=>?_,fun i b hi h off hx=>?_,fun b off h=>?_⟩
 ·obtain⟨id,h1,h2⟩:=qv h;obtain⟨id',h1',h2'⟩:=qv h';have:=hr.inj id id' b (PC h1) (PC h1') h2 h2';subst this;rw[<-Cn s.nodup h1,Cn s.nodup h1']
 ·obtain⟨id,h1,h2⟩:=qv h;exact hr.lt id b (PC h1) h2
 ·obtain⟨id,bx,h1,h2,h3,h4⟩:=s.inv h;subst h4;have hfx:bx.fixed=true:=by cases bx<;>first|rfl|cases hf
  obtain⟨b,g1,g2⟩:=hr.fix id bx h2 hfx;refine⟨b,by grind [down],?_⟩
  have hcl:∀p,p∈bx.ids->p∈ids:=s.closed id _ (aQ h1) h2;cases bx with
  |tick sz n=>cases hf
  |cells cs0 =>
   obtain⟨vs,t,k1,k2,k3⟩:=g2;refine⟨vs,t,k1,by simpa using k2,fun q c v hc hv=>?_⟩
   rw[bf,aN] at hc;obtain⟨c0,hc0,rfl⟩:=hc;have hm:=aQ hc0;exact s.Lk (k3 q c0 v hc0 hv) (bI.1 h3 c0 hm) fun p hp=>hcl p (iV.2 ⟨c0,hm,hp⟩)
  |map ks vs =>
   obtain⟨es,cl,k1,k2,k3,k4,k5⟩:=g2;refine⟨es,cl,k1,k2,by simpa using k3,fun q c e hc he=>(k4 q c e hc he).mono fun b off hs=>⟨s.ib hs,rfl⟩,fun q c e hc he=>?_⟩
   rw[bf,aN] at hc;obtain⟨c0,hc0,rfl⟩:=hc;have hm:=aQ hc0;exact s.rep (k5 q c0 e hc0 he) (bI.1 h3 c0 hm) fun p hp=>hcl p (iV.2 ⟨c0,hm,hp⟩)
  |mC st pos=>exact g2
  |vF=>cases hf
  |arr=>cases hf
 ·obtain⟨id,bx,h1,h2,h3,h4⟩:=s.inv h;obtain⟨id',h1',h2'⟩:=qv hj;rw[h1] at h1'; cases h1';cases bx<;>first|cases h4|skip
  exact hr.tick id _ _ b h2 h2'
 ·obtain⟨id,bx,h1,h2,h3,h4⟩:=s.inv h;cases bx<;>first|cases h4|skip
  obtain⟨g0,g1⟩|⟨b,vs,t,g1,g2,g3,g4,g5⟩:=hr.arr id _ _ _ h2
  ·grind [down]
  exact .inr ⟨b,vs,t,by grind [down],g2,g3,g4,fun q x k c hx hk=>(g5 q x k c hx hk).imp fun u hu=>⟨hu.1,hu.2.mono fun b off hs=>⟨s.ib hs,rfl⟩⟩⟩
 ·obtain⟨id,h1,h2⟩:=qv h;rcases hx with hx|⟨id',g1,g2,g3,_⟩
  ·exact hr.uS id b (PC h1) h2 off hx
  ·have:=hr.inj id id' b (PC h1) g1 h2 g3
   grind
 ·rcases h with h|⟨id,g1,_,g3,_⟩
  ·exact hr.Aq b off h
  ·exact hr.lt id b g1 g3
variable {j2:J} {B':aG} {w':World}
open Classical in
noncomputable def Ph(j j2:J)(ids:List Nat):J:=⟨fun id=>if id∈ids then j2 (iy ids id) else j id,j.X⟩
theorem kQ{id:Nat}(h:id∈ids):(Ph j j2 ids) id=j2 (iy ids id):=by grind [Ph]
theorem nP{id:Nat}(h:id∉ids):(Ph j j2 ids) id=j id:=by grind [Ph]
structure wF(j:J)(M B:aG)(w:World)(ids:List Nat)(j2:J)(B':aG)(w':World):Prop where
 sub:Sub j M w ids B
 hr:Rel j M w
 ext:Ext (down j M ids) B w j2 B' w'
 rel:Rel j2 B' w'
 len:B'.length=B.length
 flat:∀b,b∈B'->b.flat=true
variable (bk:wF j M B w ids j2 B' w')
include bk
theorem wF.PC{i id:Nat}(h:ids[i]?=some id):id<M.length:=by
 obtain⟨b,h1,_⟩:=bk.sub.box _ _ h
 grind
def wF.KO{id:Nat}(h:id∈ids){b:dy}(hb:B'[iy ids id]?=some b):(kY ids M ids B')[id]?=some (b.pL (wD ids)) :=
 (vX bk.sub.nodup (by rw[bk.len,bk.sub.len])).2.2 _ _ b (tH h) (bk.PC (tH h)) hb
def wF.Lf{id:Nat}(h:id∉ids):(kY ids M ids B')[id]?=M[id]?:=(vX bk.sub.nodup (by rw[bk.len,bk.sub.len])).2.1 _ h
def wF.rD:(kY ids M ids B').length=M.length:=(vX bk.sub.nodup (by rw[bk.len,bk.sub.len])).1
def wF.some_{id:Nat}(h:id∈ids):∃b,B'[iy ids id]?=some b/\b.flat=true:=by
 have hi:iy ids id<B'.length:=by rw[bk.len,bk.sub.len]; exact uz h
 exact⟨_,ai hi,bk.flat _ (iU _)⟩
theorem wF.tL{id b:Nat}(hid:id<M.length)(h:id∉ids)(hj:j id=some b):w'.heap[b]?=w.heap[b]?/\∀i,i<B'.length->j2 i≠some b:=by
 refine bk.ext.tL b (bk.hr.lt _ b hid hj) fun i hi he=>?_
 obtain⟨id',h1,h2⟩:=qv he;have:=bk.hr.inj _ _ b hid (bk.PC h1) hj h2
 grind
def wF.ib{b off:Nat}(h:ny j2 B' w' b off):ny (Ph j j2 ids) (kY ids M ids B') w' b off:=by
 have hX:=bk.ext.X;have hnx:=h.nx;rw[hX] at hnx;refine⟨h.lt,fun id hid hj=>?_,fun hx=>hnx (.inl hx)⟩
 rw[bk.rD] at hid
 by_cases hi:id∈ids
 ·rw[kQ hi] at hj;obtain⟨sz,n,h1,h2⟩:=h.ids _ (by rw[bk.len,bk.sub.len]; exact uz hi) hj
  exact⟨sz,n,bk.KO hi h1,h2⟩
 ·rw[nP hi] at hj;rw[bk.Lf hi];exact Classical.byContradiction fun hc=>hnx (.inr ⟨id,hid,hi,hj,hc⟩)
def wF.Xo:Ext j M w (Ph j j2 ids) (kY ids M ids B') w' where
 len:=by rw[bk.rD]; exact aC _
 size:=bk.ext.size
 os:=bk.ext.os
 tape:=bk.ext.tape
 output:=bk.ext.output
 X:=rfl
 fix:=fun id bx h hf=>by
  by_cases hi:id∈ids
  ·obtain⟨g1,bx',g2,g3⟩:=bk.ext.fix _ _ (bk.sub.at_ hi h) (by cases bx<;>first|rfl|cases hf)
   rw[kQ hi,g1,mB hi];refine⟨rfl,_,bk.KO hi g2,?_⟩;rw[MQ,g3,MQ]
  ·rw[nP hi,bk.Lf hi]; exact⟨rfl,bx,h,rfl⟩
 tick:=fun id sz n h=>by
  by_cases hi:id∈ids
  ·obtain⟨n',g1,g2,g3⟩:=bk.ext.tick _ _ _ (bk.sub.at_ hi h);refine⟨n',g1,bk.KO hi g2,fun he=>?_⟩
   obtain⟨k1,k2⟩:=g3 he;rw[kQ hi,k1,mB hi];exact⟨rfl,fun b vs t hb hv=>k2 b vs t (by rw[mB hi]; exact hb) hv⟩
  ·rw[nP hi,bk.Lf hi];exact⟨n,aC _,h,fun _=>⟨rfl,fun b vs t hb hv=>⟨vs,(bk.tL (aK h) hi hb).1.trans hv,rfl⟩⟩⟩
 arr:=fun id sz v xs h=>by
  by_cases hi:id∈ids
  ·rcases bk.ext.arr _ _ _ _ (bk.sub.at_ hi h) with ⟨n',g⟩|⟨v',xs',g2,g3,g4⟩
   ·exact .inl ⟨n',bk.KO hi g⟩
   ·refine .inr ⟨v',xs',bk.KO hi g2,g3,fun he=>?_⟩
    obtain⟨k1,k2,k3⟩:=g4 he;rw[kQ hi,k1,mB hi];exact⟨rfl,k2,fun b vs t hb hv=>k3 b _ t (by rw[mB hi]; exact hb) hv⟩
  ·rw[nP hi,bk.Lf hi];exact .inr ⟨v,xs,h,aC _,fun _=>⟨rfl,rfl,fun b vs t hb hv=>⟨vs,(bk.tL (aK h) hi hb).1.trans hv,rfl⟩⟩⟩
 tags:=bk.ext.tags
 ib:=fun b off h=>by
  obtain⟨h1,h2⟩:=bk.ext.ib b _ (bk.sub.ib h);exact⟨bk.ib h1,h2⟩
 tL:=fun b hb h=>by
  have h1:∀i,i<B.length->(down j M _) i≠some b:=fun i _ he=>by
   obtain⟨id,g1,g2⟩:=qv he;exact h id (bk.PC g1) g2
  obtain⟨h2,h3⟩:=bk.ext.tL b hb h1;refine⟨h2,fun id hid he=>?_⟩
  rw[bk.rD] at hid
  by_cases hi:id∈ids
  ·rw[kQ hi] at he;exact h3 _ (by rw[bk.len,bk.sub.len]; exact uz hi) he
  ·rw[nP hi] at he;exact h id hid he
def wF.CK{i:Nat}(h:i<B'.length):∃id,ids[i]?=some id/\id∈ids/\wD ids i=id/\iy ids id=i:=by
 have hi:i<ids.length:=by rw[<-bk.sub.len,<-bk.len]; omega
 have hg:=ai hi;exact⟨_,hg,aQ hg,ac6 hg,Cn bk.sub.nodup hg⟩
theorem wF.VE{x:ag}{v:Value}(h:gj j2 B' w' x v)(hf:x.EP=true):gj (Ph j j2 ids) (kY ids M ids B') w' (x.sZ (wD ids)) v:=by
 cases h with
 |plain h =>
  have:x.sZ (wD ids)=x:=by cases h<;>rfl
  rw[this];exact .plain (h.mono fun b off hs=>⟨bk.ib hs,rfl⟩)
 |c0 A=>exact .c0 A
 | @own k xs v sz n hk hn hp ht =>
  obtain⟨id,g1,g2,g3,g4⟩:=bk.CK (aK hk);simp only[ag.sZ,g3];refine .own (sz:=sz) (n:=n) (bk.KO g2 (b := .tick sz n) (by rw[g4]; exact hk)) hn (hp.mono fun b off hs=>⟨bk.ib hs,rfl⟩) fun he=>?_
  rcases ht he with ⟨e1,e2,e3⟩|⟨b,cap,vs,t,e1,e2,e3,e4,e5⟩
  ·exact .inl ⟨by rw[kQ g2,g4]; omega,e2,e3⟩
  ·exact .inr ⟨b,cap,vs,t,by rw[kQ g2,g4]; grind,e2,e3,e4,e5⟩
 | @jF t k off b hc hj =>
  obtain⟨cs,hc⟩:=hc;obtain⟨id,g1,g2,g3,g4⟩:=bk.CK (aK hc);simp only[ag.sZ,g3];exact .jF ⟨_,bk.KO g2 (b := .cells cs) (by rw[g4]; omega)⟩ (by rw[kQ g2,g4]; omega)
 |agg=>cases hf
 |tuple=>cases hf
 | @ptr k off b hid hc hj =>
  obtain⟨id,g1,g2,g3,g4⟩:=bk.CK hid;obtain⟨cs,hc⟩:=hc;simp only[ag.sZ,g3];exact .ptr (by rw[bk.rD]; exact bk.PC g1) ⟨_,bk.KO g2 (b := .cells cs) (by rw[g4]; exact hc)⟩ (by rw[kQ g2,g4]; omega)
 |iQ h=>exact .iQ fun k c hk=>⟨(h k c hk).1,bk.ib (h k c hk).2.1,(h k c hk).2.2.mono fun b off hs=>⟨bk.ib hs,rfl⟩⟩
 |func=>cases hf
 | @ia k b hc hj =>
  obtain⟨ks,vs,hc⟩:=hc;obtain⟨id,g1,g2,g3,g4⟩:=bk.CK (aK hc);simp only[ag.sZ,g3];exact .ia ⟨_,_,bk.KO g2 (b := .map ks vs) (by rw[g4]; omega)⟩ (by rw[kQ g2,g4]; omega)
 | @jn k b hc hj =>
  obtain⟨st,p,hc⟩:=hc;obtain⟨id,g1,g2,g3,g4⟩:=bk.CK (aK hc);simp only[ag.sZ,g3];exact .jn ⟨_,_,bk.KO g2 (b := .mC st p) (by rw[g4]; exact hc)⟩ (by rw[kQ g2,g4]; exact hj)
 |pR hl hd=>exact .pR hl fun i c v h1 h2=>(hd i c v h1 h2).mono fun b off hs=>⟨bk.ib hs,rfl⟩
 | @jA ks vs b es cl hb hfr hx hw hk hv hks hvs =>
  rw[bk.ext.X] at hx;refine .jA hb (fun id hid he=>?_) (fun off hx'=>hx off (.inl hx')) hw hk hv (fun i k e h1 h2=>(hks i k e h1 h2).mono fun b off hs=>⟨bk.ib hs,rfl⟩) (fun i k e h1 h2=>(hvs i k e h1 h2).mono fun b off hs=>⟨bk.ib hs,rfl⟩)
  rw[bk.rD] at hid
  by_cases m:id∈ids
  ·rw[kQ m] at he;exact hfr _ (by rw[bk.len,bk.sub.len]; exact uz m) he
  ·rw[nP m] at he
   by_cases ht:∃sz n,M[id]?=some (.tick sz n)
   ·obtain⟨sz,n,ht⟩:=ht;refine hx (n*sz) (.inr ⟨id,hid,m,he,?_⟩)
    grind
   ·exact hx 0 (.inr ⟨id,hid,m,he,fun⟨sz,n,h1,_⟩=>ht ⟨sz,n,h1⟩⟩)
 | @cS k ver sz0 lo hi v h0 hid hM hv =>
  obtain⟨id,g1,g2,g3,g4⟩:=bk.CK hid;have hb:=ai hid;have hin:=bk.KO g2 (b:=B'[k]) (by rw[g4]; exact hb)
  rw[xU (hM _ hb)] at hin;simp only[ag.sZ,g3];refine .cS h0 (by rw[bk.rD]; exact bk.PC g1) (fun bx hbx=>?_) fun sz v' xs h=>?_
  ·rw[hin] at hbx; exact hM bx (hb.trans hbx)
  ·rw[hin] at h;obtain⟨k1,k2⟩:=hv sz v' xs (hb.trans h)
   exact⟨k1,fun he=>by
    obtain⟨l0,l1,l2,⟨l3,l4,l5⟩|⟨b,cap,vs,t,l3,r⟩⟩:=k2 he
    ·exact⟨l0,l1,l2,.inl ⟨l3,by rw[kQ g2,g4]; exact l4,l5⟩⟩
    exact⟨l0,l1,l2,.inr ⟨b,cap,vs,t,by rw[kQ g2,g4]; exact l3,r⟩⟩⟩
 | @iJ k ver i off v h0 hid hM hv =>
  obtain⟨id,g1,g2,g3,g4⟩:=bk.CK hid;have hb:=ai hid;have hin:=bk.KO g2 (b:=B'[k]) (by rw[g4]; exact hb)
  rw[xU (hM _ hb)] at hin;simp only[ag.sZ,g3];refine .iJ h0 (by rw[bk.rD]; exact bk.PC g1) (fun bx hbx=>?_) fun sz v' xs h=>?_
  ·rw[hin] at hbx; exact hM bx (hb.trans hbx)
  grind [kQ]
 |any v=>exact .any v
theorem wF.Lk{x:ag}{v:Value}(h:gj j2 B' w' x v)(hf:x.vf=true):gj (Ph j j2 ids) (kY ids M ids B') w' (x.r8 (wD ids)) v:=by
 by_cases hfn:∃f caps,x = .func f caps
 ·obtain⟨f,caps,rfl⟩:=hfn;obtain⟨vs,rfl,hl,hc⟩:=h.rS;refine .func (by grind) fun i c u hci hu=>?_
  rw[bf,aN] at hci;obtain⟨c0,hc0,rfl⟩:=hci;exact bk.VE (hc i _ u hc0 hu) (bI.1 hf _ (aQ hc0))
 ·have e1:x.r8 (wD ids)=x.sZ (wD ids):=by cases x<;>first|rfl|grind
  have e3:x.EP=true:=by cases x<;>first|rfl|exact absurd ⟨_,_,rfl⟩ hfn|cases hf
  rw[e1];exact bk.VE h e3
theorem wF.rep{x:ag}{v:Value}(h:gj j2 B' w' x v)(hf:x.flat=true):gj (Ph j j2 ids) (kY ids M ids B') w' (x.pL (wD ids)) v:=by
 by_cases hag:∃cs,x = .agg cs
 ·obtain⟨cs,rfl⟩:=hag;obtain⟨vs,rfl,hl,hc⟩:=h.ml;refine .agg (by grind) fun i c u hci hu=>?_
  rw[bf,aN] at hci;obtain⟨c0,hc0,rfl⟩:=hci;exact bk.Lk (hc i _ u hc0 hu) (bI.1 hf _ (aQ hc0))
 ·have e1:x.pL (wD ids)=x.r8 (wD ids):=by cases x<;>first|rfl|grind
  have e3:x.vf=true:=by cases x<;>first|exact hf|grind
  rw[e1];exact bk.Lk h e3
theorem wF.asx{x:ag}{v:Value}(h:gj j2 B' w' x v)(hf:x.we=true):gj (Ph j j2 ids) (kY ids M ids B') w' (x.Bg (wD ids)) v:=by
 by_cases ht:∃vs,x = .tuple vs
 ·obtain⟨cs,rfl⟩:=ht;obtain⟨vs,rfl,hl,hc⟩:=h.tn;refine .tuple (by grind) fun i c u hci hu=>?_
  rw[bf,aN] at hci;obtain⟨c0,hc0,rfl⟩:=hci;exact bk.rep (hc i _ u hc0 hu) (bI.1 hf _ (aQ hc0))
 ·have e1:x.Bg (wD ids)=x.pL (wD ids):=by cases x<;>first|rfl|grind
  have e3:x.flat=true:=by cases x<;>first|exact hf|grind
  rw[e1];exact bk.rep h e3
theorem wF.amE:Rel (Ph j j2 ids) (kY ids M ids B') w':=by
 have ltin:∀ {id:Nat},id∈ids->iy ids id<B'.length:=fun h=>by rw[bk.len,bk.sub.len]; exact uz h
 refine⟨fun id id' b hi hi' h h'=>?_,fun id b hi h=>?_,fun id cb h hf=>?_,fun id sz n b h hj=>?_,fun id sz ver xs h=>?_,fun id b hi h off hx=>?_,fun b off h=>bz (bk.hr.Aq b off h) bk.ext.size⟩
 ·rw[bk.rD] at hi hi'
  by_cases m:id∈ids<;>by_cases m':id'∈ids
  ·rw[kQ m] at h;rw[kQ m'] at h';have:=bk.rel.inj _ _ b (ltin m) (ltin m') h h';rw[<-LG m,this,LG m']
  ·rw[kQ m] at h;rw[nP m'] at h';exact absurd h ((bk.tL hi' m' h').2 _ (ltin m))
  ·rw[nP m] at h;rw[kQ m'] at h';exact absurd h' ((bk.tL hi m h).2 _ (ltin m'))
  ·rw[nP m] at h;rw[nP m'] at h';exact bk.hr.inj id id' b hi hi' h h'
 ·rw[bk.rD] at hi
  by_cases m:id∈ids
  ·rw[kQ m] at h; exact bk.rel.lt _ b (ltin m) h
  ·rw[nP m] at h; exact bz (bk.hr.lt id b hi h) bk.ext.size
 ·by_cases m:id∈ids
  ·obtain⟨bx,h1,h2⟩:=bk.some_ m;rw[bk.KO m h1] at h;injection h with h
   subst h;have hfx:bx.fixed=true:=by cases bx<;>first|rfl|cases hf
   obtain⟨b,g1,g2⟩:=bk.rel.fix _ bx h1 hfx;refine⟨b,by rw[kQ m]; omega,?_⟩
   cases bx with
   |tick sz n=>cases hf
   |cells cs0 =>
    obtain⟨vs,t,k1,k2,k3⟩:=g2;refine⟨vs,t,k1,by grind,fun q c v hc hv=>?_⟩
    rw[bf,aN] at hc;obtain⟨c0,hc0,rfl⟩:=hc;exact bk.Lk (k3 q c0 v hc0 hv) (bI.1 h2 c0 (aQ hc0))
   |map ks vs =>
    obtain⟨es,cl,k1,k2,k3,k4,k5⟩:=g2;refine⟨es,cl,k1,k2,by grind,fun q c e hc he=>(k4 q c e hc he).mono fun b off hs=>⟨bk.ib hs,rfl⟩,fun q c e hc he=>?_⟩
    rw[bf,aN] at hc;obtain⟨c0,hc0,rfl⟩:=hc;exact bk.rep (k5 q c0 e hc0 he) (bI.1 h2 c0 (aQ hc0))
   |mC st pos=>exact g2
   |vF=>cases hf
   |arr=>cases hf
  ·rw[bk.Lf m] at h;obtain⟨b,g1,g2⟩:=bk.hr.fix id cb h hf;exact⟨b,by rw[nP m]; omega,g2.mono bk.Xo (bk.tL (aK h) m g1).1⟩
 ·by_cases m:id∈ids
  ·obtain⟨bx,h1,h2⟩:=bk.some_ m;rw[bk.KO m h1] at h;injection h with h
   rw[kQ m] at hj;cases bx<;>first|cases h|skip
   exact bk.rel.tick _ _ _ b h1 hj
  ·rw[bk.Lf m] at h;rw[nP m] at hj;obtain⟨vs,t,g⟩:=bk.hr.tick id sz n b h hj;exact⟨vs,t,(bk.tL (aK h) m hj).1.trans g⟩
 ·by_cases m:id∈ids
  ·obtain⟨bx,h1,h2⟩:=bk.some_ m;rw[bk.KO m h1] at h;injection h with h
   cases bx<;>first|cases h|skip
   obtain⟨g0,g1⟩|⟨b,vs,t,g1,g2,g3,g4,g5⟩:=bk.rel.arr _ _ _ _ h1
   ·grind [kQ]
   exact .inr ⟨b,vs,t,by rw[kQ m]; omega,g2,g3,g4,fun q x k c hx hk=>(g5 q x k c hx hk).imp fun u hu=>⟨hu.1,hu.2.mono fun b off hs=>⟨bk.ib hs,rfl⟩⟩⟩
  ·rw[bk.Lf m] at h;exact pG bk.hr bk.Xo h (nP m) fun b hb=>(bk.tL (aK h) m hb).1
 ·rw[bk.rD] at hi
  by_cases m:id∈ids
  ·rw[kQ m] at h;have:=bk.rel.uS _ b (ltin m) h off;rw[bk.ext.X] at this;exact this (.inl hx)
  ·rw[nP m] at h;exact bk.hr.uS id b hi h off hx
end
theorem FG{ρ:Nat->Nat}{x:ag}(h:x.ig=[]):x.sZ ρ=x:=by
 cases x with
 |slice tk xs=>cases tk<;>first|rfl|grind [ag.ig]
 |ptr=>grind [ag.ig]
 |ia=>grind [ag.ig]
 |jn=>grind [ag.ig]
 |cS=>grind [ag.ig]
 |iJ=>grind [ag.ig]
 |jF=>grind [ag.ig]
 |_=>rfl
def IH{ρ:Nat->Nat}:∀ {l:List ag},l.flatMap ag.ig=[]->l.map (ag.sZ ρ)=l
 | [],_=>rfl
 |c::r,h=>by
  rw[List.flatMap_cons,List.append_eq_nil_iff] at h;rw[aP,FG h.1,IH h.2]
theorem FH{ρ:Nat->Nat}{x:ag}(h:x.mM=[]):x.r8 ρ=x:=by
 by_cases hf:∃f caps,x = .func f caps
 ·obtain⟨f,caps,rfl⟩:=hf;exact congrArg _ (IH h)
 ·have e1:x.r8 ρ=x.sZ ρ:=by cases x<;>first|rfl|grind
  have e2:x.mM=x.ig:=by cases x<;>first|rfl|grind
  grind [FG]
def II{ρ:Nat->Nat}:∀ {l:List ag},l.flatMap ag.mM=[]->l.map (ag.r8 ρ)=l
 | [],_=>rfl
 |c::r,h=>by
  rw[List.flatMap_cons,List.append_eq_nil_iff] at h;rw[aP,FH h.1,II h.2]
theorem VD{ρ:Nat->Nat}{x:ag}(_:x.flat=true)(h:x.ids=[]):x.pL ρ=x:=by
 by_cases hf:∃cs,x = .agg cs
 ·obtain⟨cs,rfl⟩:=hf;exact congrArg _ (II h)
 ·have e1:x.pL ρ=x.r8 ρ:=by cases x<;>first|rfl|grind
  have e2:x.ids=x.mM:=by cases x<;>first|rfl|grind
  grind [FH]
theorem qm{P:Program}{C:eK}(hC:oV P C){j:J}{M:aG}{w:World}{f:Nat}{vs:List ag}{us:Array Value}{x:ag×aG}(hr:Rel j M w)(hG:se j M w)(h:aU C f vs M=some x)
  (hl:vs.length=us.size) (hv:∀(i:Nat)(c:ag)(u:Value),vs[i]?=some c->us[i]?=some u->gj j M w c u) :
  mi P f=true/\Calls P f us w fun e w'=>vH j M w x e w':=by
 unfold aU at h;generalize hids:reach M (vs.flatMap ag.ids)=ids at h;split at h
 ·rename_i hf;obtain⟨B,hB,h⟩:=bl h;split at h
  ·rename_i hcl;obtain⟨y,hy,h⟩:=bl h;split at h
   ·rename_i hcond;obtain⟨c1,c2,c3⟩:=hcond;cases h;obtain⟨h1,h2⟩:=hC _ _ _ _ hy;obtain⟨p1,p2⟩:=DM hB;have s:Sub j M w ids B:=⟨by rw[<-hids]; simp[IT],p1,p2,fun i b hi hb x hx=>NM hcl hi hb hx⟩
    refine⟨h1,(h2 (down j M ids) w us (s.rel hr) (hG.ib fun b off h=>s.ib h) (by grind) fun i c u hc hu=>?_).mono ?_⟩
    ·rw[bf,aN] at hc;obtain⟨c0,hc0,rfl⟩:=hc;have hm:=aQ hc0;exact s.rep (hv i c0 u hc0 hu) (bI.1 hf c0 hm) fun q hq=>by rw[<-hids]; exact OB (iV.2 ⟨c0,hm,hq⟩)
    ·rintro e w' (⟨v,rfl,j2,g1,g2,g3⟩|⟨u,rfl,hu,j2,g1,g2⟩)
     ·have bk:wF j M B w ids j2 y.2 w':=⟨s,hr,g2,g1,c1,fun b hb=>bI.1 c3 b hb⟩
      exact .inl ⟨v,rfl,Ph j j2 ids,bk.amE,bk.Xo,bk.asx g3 c2⟩
     ·have bk:wF j M B w ids j2 y.2 w':=⟨s,hr,g2,g1,c1,fun b hb=>bI.1 c3 b hb⟩
      exact .inr ⟨u,rfl,by rw[hu]; rfl,Ph j j2 ids,bk.amE,bk.Xo⟩
   grind
  grind
 grind
theorem VH{j j2:J}{G:aG}{w w':World}{p sz n:Nat}{xs:List ag}{v:Value}(hr:Rel j G w)(hp:G[p]?=some .vF)(h2:Rel j2 [.tick sz n] w')(hx:Ext (down j G []) [] w j2 [.tick sz n] w')
  (hv:gj j2 [.tick sz n] w' (.slice (.own 0) xs) v):iL j G w (.slice (.own p) xs,G.set p (.tick sz n)) v w':=by
 have hpl:=aK hp
 have hold:∀b,b<w.heap.size->w'.heap[b]?=w.heap[b]?/\j2 0≠some b:=fun b hb=>by
  obtain⟨h1,h3⟩:=hx.tL b hb (fun i hi=>by simp at hi)
  exact⟨h1,h3 0 (by simp)⟩
 have up:∀i,i≠p->gD j p (j2 0) i=j i:=fun i hi=>by simp[gD,hi]
 have atp:gD j p (j2 0) p=j2 0:=by simp[gD]
 have nX:∀ {b off},ny j2 [.tick sz n] w' b off->¬j.X b off/\∀id,id<G.length->j id=some b->∃sz n,G[id]?=some (.tick sz n)/\off<n*sz:=fun {b off} hs=>by
  have:=hs.nx;rw[hx.X] at this;refine⟨fun h=>this (.inl h),fun id hid hj=>?_⟩
  by_cases hc:∃sz n,G[id]?=some (.tick sz n)/\off<n*sz
  ·exact hc
  ·exact absurd (Or.inr ⟨id,hid,by simp,hj,hc⟩) this
 have ib:∀b off,ny j2 [.tick sz n] w' b off->ny (gD j p (j2 0)) (G.set p (.tick sz n)) w' b off:=fun b off hs=>by
  obtain⟨n1,n2⟩:=nX hs;refine⟨hs.lt,fun id hid hj=>?_,n1⟩
  by_cases e:id=p
  ·subst e;rw[atp] at hj;obtain⟨s1,m1,h3,h4⟩:=hs.ids 0 (by simp) hj
   grind
  grind
 have q:Quiet w w':=⟨hx.size,hx.os,hx.tape,hx.output⟩
 have ext:Ext j G w (gD j p (j2 0)) (G.set p (.tick sz n)) w':={
  len:=by simp
  size:=q.size
  os:=q.os
  tape:=q.tape
  output:=q.output
  X:=rfl
  fix:=fun i bx h hf=>by
   have e:i≠p:=by rintro rfl; rw[hp] at h; cases h; cases hf
   grind
  tick:=fun i sz n h=>by
   grind
  arr:=fun i sz v xs h=>by
   grind
  tags:=fun b0 vs0 t0 fr0 h=>⟨vs0,fr0,(hold b0 (lt_of_block h)).1.trans h,rfl⟩
  ib:=fun b0 off h=>by
   refine⟨⟨bz h.1 q.size,fun id hid hj=>?_,h.3⟩,World.cell?_of_block (w:=w) (hold b0 h.1).1⟩
   by_cases e:id=p
   ·subst e; rw[atp] at hj; exact absurd hj (hold b0 h.1).2
   ·rw[cJ (eZ e)];rw[up id e] at hj;exact h.2 id (by simpa using hid) hj
  tL:=fun b0 cz h=>by
   grind }
 refine⟨gD j p (j2 0),⟨fun i i' b0 hi hi' h h'=>?_,fun i b0 hi h=>?_,fun i bx' h hf=>?_,fun i sz0 n0 b0 h hj=>?_,fun i sz0 ver ys h=>?_,fun i b0 hi h off hxx=>?_,fun b off h=>bz (hr.Aq b off h) q.size⟩,ext,?_⟩
 ·simp only[fi] at hi hi'
  by_cases e:i=p<;>by_cases e':i'=p
  ·omega
  ·subst e;rw[atp] at h; rw[up i' e'] at h';exact absurd h (hold b0 (hr.lt i' b0 hi' h')).2
  ·subst e';rw[atp] at h'; rw[up i e] at h;exact absurd h' (hold b0 (hr.lt i b0 hi h)).2
  ·rw[up i e] at h; rw[up i' e'] at h';exact hr.inj i i' b0 hi hi' h h'
 ·simp only[fi] at hi
  by_cases e:i=p
  ·subst e; rw[atp] at h; exact h2.lt 0 b0 (by simp) h
  ·rw[up i e] at h;exact bz (hr.lt i b0 hi h) q.size
 ·by_cases e:i=p
  ·subst e;rw[dK hpl] at h;cases h; cases hf
  ·rw[cJ (eZ e)] at h;obtain⟨b0,h1,h3⟩:=hr.fix i bx' h hf;exact⟨b0,by rw[up i e]; exact h1,h3.mono ext (hold b0 (hr.lt i b0 (aK h) h1)).1⟩
 ·by_cases e:i=p
  ·subst e; rw[atp] at hj;exact h2.tick 0 sz n b0 rfl hj
  ·rw[cJ (eZ e)] at h;rw[up i e] at hj;obtain⟨vs,t,h1⟩:=hr.tick i sz0 n0 b0 h hj;exact⟨vs,t,(hold b0 (lt_of_block h1)).1.trans h1⟩
 ·by_cases e:i=p
  ·subst e; rw[dK hpl] at h; cases h
  ·rw[cJ (eZ e)] at h;exact pG hr ext h (up i e) fun b0 h1=>(hold b0 (hr.lt i b0 (aK h) h1)).1
 ·simp only[fi] at hi
  by_cases e:i=p
  ·subst e; rw[atp] at h;exact absurd h (hold b0 (hr.Aq b0 off hxx)).2
  ·rw[up i e] at h;exact hr.uS i b0 hi h off hxx
 ·cases hv with
  |plain h=>cases h
  |own hk hn h ht =>
   simp at hk;obtain⟨rfl,rfl⟩:=hk;refine .own (dK hpl) hn (h.mono fun b off hs=>⟨ib b off hs,rfl⟩) fun he=>?_
   rcases ht he with ⟨h1,h3,h4⟩|⟨b,cap,vs,t,h1,h3,h4,h5,h6⟩
   ·exact .inl ⟨by rw[atp]; exact h1,h3,h4⟩
   ·exact .inr ⟨b,cap,vs,t,by rw[atp]; exact h1,h3,h4,h5,h6⟩
theorem O5{P:Program}{C:eK}(hC:oV P C){j:J}{G:aG}{w:World}{f p:Nat}{vs:List ag}{us:Array Value}{xs:List ag}{sz n:Nat}(hr:Rel j G w)(hG:se j G w)(hp:G[p]?=some .vF)(hf:vs.all ag.flat=true)(hi:vs.flatMap ag.ids=[])
  (h:C f vs []=some (.slice (.own 0) xs,[.tick sz n])) (hl:vs.length=us.size) (hv:∀(i:Nat)(c:ag)(u:Value),vs[i]?=some c->us[i]?=some u->gj j G w c u) :
  mi P f=true/\Calls P f us w fun e w'=>∃v,e = .returned v/\iL j G w (.slice (.own p) xs,G.set p (.tick sz n)) v w':=by
 obtain⟨h1,h2⟩:=hC _ _ _ _ h;have s:Sub j G w _ []:=⟨oo,rfl,fun i id h=>by simp_all,fun i b hi=>by grind⟩
 refine⟨h1,(h2 _ w _ (s.rel hr) (hG.ib fun b off h=>s.ib h) hl fun i c u hc hu=>?_).mono ?_⟩
 ·have hm:=aQ hc
  have:=s.rep (hv i c u hc hu) (bI.1 hf c hm) fun q hq=>by
   have hci  := lH.1 hi c hm;rw[hci] at hq; omega
  rwa[VD (bI.1 hf c hm) (lH.1 hi c hm)] at this
 ·rintro e w' (⟨v,rfl,j2,g1,g2,g3⟩|⟨u,rfl,hu,_⟩)
  ·exact⟨v,rfl,VH hr hp g1 g2 g3⟩
  grind
section
variable {P:Program} {C:eK} {o:Oper} {br:Env} {M:aG} {j:J} {w:World} {a:Act} {x:ag×aG}
theorem Bw:∀ {xs:List ag} {l:List UInt8},bytesOf xs=some l->l.length=xs.length/\∀(i:Nat)(x:ag),xs[i]?=some x->∃n,x = .int .u8 n/\l[i]?=some (UInt8.ofNat n.toNat)
 | [],l,h=>by grind [bytesOf]
 |y::r,l,h=>by
  unfold bytesOf at h;split at h
  ·grind
  ·rename_i n r' e;injection e with e1 e2; subst e2
   obtain⟨l',h1,h⟩:=bl h;injection h with h; obtain⟨g1,g2⟩:=Bw h1
   grind
  grind
theorem Fz(g:Value->ByteArray->Sem (ForInStep ByteArray))(hg:∀n s,g (.int .u8 n) s=pure (ForInStep.yield (s.push (UInt8.ofNat n.toNat)))):∀(vs:List Value)(l:List UInt8)(s:ByteArray),vs.length=l.length->(∀(i:Nat)(v:Value)(b:UInt8),vs[i]?=some v->l[i]?=some b->∃n,v = .int .u8 n/\b=UInt8.ofNat n.toNat) ->
  (forIn vs s g).run P w = .ok ⟨s.data++l.toArray⟩ w
 | [],[],s,_,_=>by rfl
 |v::vs,b::l,s,hl,h=>by
  obtain⟨n,rfl,rfl⟩:=h 0 v b rfl rfl;have:=Fz g hg vs l (s.push (UInt8.ofNat n.toNat)) (by grind) fun i v b hv hb=>h (i+1) v b (by grind) (by grind)
  simp_all
 | [],_::_,_,hl,_=>by grind
 |_::_,[],_,hl,_=>by grind
theorem afV(hr:Rel j M w)(he:cn j M w br a){s d e:TypeId}{y:Operand}{z:gV}(hop:o.op = .convert s d y)(hs:P.underlying s=some (.slice e))(hd:P.underlying d=some .string)(hu:P.underlying e=some (.int .u8))
  (hz:eE y=some z) (h:ef C br M (.b2s z)=some x):∃v w',qZ P o a w v w'/\iL j M w x v w':=by
 simp only[ef] at h;have h1:=cX he hz;split at h
 ·rename_i tk xs ev;obtain⟨l,hl,h⟩:=bl h;cases h;rw[ev] at h1;obtain⟨g1,g2⟩:=Bw hl;refine⟨.string (bs l),w,.inl ?_,.still hr (.plain (.str _))⟩;obtain⟨A,cap,b,off,sz,vs,hv,hc,ha,hwid,hcell,hrep⟩:=h1.dR.dR
  have hrun:(Conv.bytesToString (a.eval y)).run P w = .ok (.string (bs l)) w:=by
   rw[hv];cases A with
   |none =>
    have:xs=[]:=by
     grind
    subst this;have:l=[]:=cG g1;subst this;rfl
   |some A =>
    have hload:∃us:Array Value,(loadCells A xs.length).run P w = .ok us w/\us.size=l.length/\∀(i:Nat)(v:Value)(b:UInt8),us[i]?=some v->l[i]?=some b->∃n,v = .int .u8 n/\b=UInt8.ofNat n.toNat:=by
     by_cases hx:xs=[]
     ·subst hx;have:l=[]:=cG g1;subst this;exact⟨#[],by rfl,rfl,fun i v b h=>by simp at h⟩
     ·have hA:=ha hx;cases hA
      have hsz:sz=1:=by
       cases xs with
       |nil=>grind
       |cons c r =>
        obtain⟨n,rfl,_⟩:=g2 0 c rfl;exact(hwid (.int .u8 n) (by simp)).symm
      subst hsz
      have cellOf:∀i,i<xs.length->∃n,w.cell? ⟨b,off+i,none⟩=some (vs i)/\vs i = .int .u8 n/\l[i]?=some (UInt8.ofNat n.toNat):=by
       intro i hi;have hxi:xs[i]?=some xs[i]:=ai hi;obtain⟨n,hn,hb⟩:=g2 i _ hxi;have q1:=hcell i _ 0 (.int .u8 n) hxi (by rw[hn]; rfl)
       have q2:=hrep i _ 0 (.int .u8 n) hxi (by rw[hn]; rfl)
       simp only[Nat.mul_one,dk] at q1 q2;exact⟨n,q1.1,(gj.plain (j:=j) (M:=M) q2).fT,hb⟩
      refine⟨_,pa (P:=P) (w:=w) b off xs.length vs (fun k hk=>(cellOf k hk).choose_spec.1),by simp[g1],fun i v c hi hb=>?_⟩
      grind
    obtain⟨us,u1,u2,u3⟩:=hload;simp only[Conv.bytesToString,Sem.run_bind,u1,Result.andThen_ok];rw[<-Array.forIn_toList];refine(congrArg (fun r=>Result.andThen r _) (Fz (P:=P) (w:=w) _ ?_ us.toList l ByteArray.empty (by omega) fun i v b hv hb=>u3 i v b (by simpa using hv) hb)).trans ?_
    ·simp
    simp[bs]
  simp only[execOp,hop,convert,Sem.run_bind,dL hs,dL hd,Result.andThen_ok];rw[hv] at hrun ⊢;cases A<;>simp[dL hu,hrun]
 ·cases h
theorem C7{fk:FK}{k k':ag}{b:Bool}(h:mc fk k k'=some b) :
  (∃t x y,k = .int t x/\k' = .int t y/\fk = .i/\b=(x==y))\/(∃x y,k = .str x/\k' = .str y/\fk = .s/\b=(x==y))\/∃x y,k = .bool x/\k' = .bool y/\fk = .b/\b=(x==y):=by
 unfold mc at h
 grind
def FK.is:FK->TypeDesc->Prop
 | .i,.int _=>True
 | .s,.string=>True
 | .b,.bool=>True
 |_,_=>False
theorem Fj{t:TypeId}{fk:FK}(h:Du P t=some fk):∃d,P.underlying t=some d/\fk.is d:=by
 unfold Du at h
 split at h<;>first
  |(rename_i hd; cases h; exact⟨_,hd,trivial⟩)
  |grind
theorem Js{fk:FK}{d:TypeDesc}(hd:fk.is d){k k':ag}{b:Bool}(h:mc fk k k'=some b){ib:Nat->Nat->Prop}{v v':Value}(hv:gj j M w k v)(hv':fM w ib k' v') :
  Instr.sameNow d v v'=some b/\(b=true->Instr.sameBits 10000 v' v=true)/\fM w (ny j M w) k v:=by
 rcases C7 h with ⟨t,x,y,rfl,rfl,rfl,rfl⟩|⟨x,y,rfl,rfl,rfl,rfl⟩|⟨x,y,rfl,rfl,rfl,rfl⟩
 ·have e1:=hv.fT; subst e1; cases hv';cases d<;>first|exact False.elim hd|skip
  exact⟨by simp[Instr.sameNow],fun h=>by grind [Instr.sameBits],.int _ _⟩
 ·have e1:=hv.j5; subst e1; cases hv';cases d<;>first|exact False.elim hd|skip
  have this:∀x y,(bs x==bs y)=(x==y):=fun x y=>by
   show(x.toArray==y.toArray)=(x==y)
   simp
  exact⟨by simp_all [Instr.sameNow],fun h=>by grind [Instr.sameBits],.str _⟩
 ·have e1:=hv.jh; subst e1; cases hv';cases d<;>first|exact False.elim hd|skip
  exact⟨by simp[Instr.sameNow],fun h=>by grind [Instr.sameBits],.bool _⟩
def Ol{fk:FK}{k:ag}{b:Bool}(h:mc fk k k=some b){v:Value}(hv:gj j M w k v):fM w (ny j M w) k v:=by
 rcases C7 h with ⟨t,x,y,rfl,_⟩|⟨x,y,rfl,_⟩|⟨x,y,rfl,_⟩
 ·have:=hv.fT; subst this; exact .int _ _
 ·have:=hv.j5; subst this; exact .str _
 ·have:=hv.jh; subst this; exact .bool _
def EF{fk:FK}{d:TypeDesc}(hd:fk.is d){t:TypeId}(ht:P.underlying t=some d)(e:Bool)(v:Value):(Instr.checkKey e 10000 t v).run P w = .ok () w:=by
 rw[Instr.checkKey.eq_def];simp only[Sem.run_bind,dL ht];cases fk<;>cases d<;>first|exact False.elim hd|(cases v<;>rfl)
theorem HQ{fk:FK}{d:TypeDesc}(hd:fk.is d){k:ag}{v:Value}(hv:gj j M w k v){ib:Nat->Nat->Prop}:∀ {ks vs:List ag} {es:List MapEntry} {r:Option ag} (n:Nat),A4 fk k ks vs=some r ->
  ks.length=es.length->vs.length=es.length->(∀(i:Nat)(k:ag)(e:MapEntry),ks[i]?=some k->es[i]?=some e->fM w ib k e.key) ->
  (r=none/\Instr.findNow d v es n=some none)\/∃i u e,r=some u/\vs[i]?=some u/\es[i]?=some e/\Instr.findNow d v es n=some (some (n+i,e.val))
 | [],[],[],r,n,h,_,_,_=>by simp[A4] at h; exact .inl ⟨h.symm,rfl⟩
 |k'::ks,u::vs,e::es,r,n,h,h1,h2,h3=>by
  obtain⟨b,hb,h⟩:=bl h;obtain⟨s1,_⟩:=Js hd hb hv (h3 0 k' e rfl rfl);rcases jR h with ⟨rfl,h⟩|⟨rfl,h⟩
  ·injection h with h
   exact .inr ⟨0,u,e,h.symm,rfl,rfl,by grind [Instr.findNow]⟩
  ·have hf:Instr.findNow d v (e::es) n=Instr.findNow d v es (n+1):=by rw[Instr.findNow,s1]
   rcases HQ hd hv (n+1) h (by simpa using h1) (by simpa using h2) (fun i k e hk he=>h3 (i+1) k e (by grind) (by grind)) with ⟨g1,g2⟩|⟨i,u',e',g1,g2,g3,g4⟩
   ·grind
   ·exact .inr ⟨i+1,u',e',g1,by grind,by grind,by grind⟩
 | [],_::_,[],_,_,_,_,h2,_=>by simp at h2
 |_::_,[],_::_,_,_,_,_,h2,_=>by simp at h2
 | [],_,_::_,_,_,_,h1,_,_=>by simp at h1
 |_::_,_,[],_,_,_,h1,_,_=>by simp at h1
theorem HR{fk:FK}{d:TypeDesc}(hd:fk.is d){k y:ag}{v:Value}(hv:gj j M w k v){ib:Nat->Nat->Prop}:∀ {ks vs:List ag} {es:List MapEntry} {r:List ag×List ag} (n:Nat),A5 fk k y ks vs=some r ->
  ks.length=es.length->vs.length=es.length->(∀(i:Nat)(k:ag)(e:MapEntry),ks[i]?=some k->es[i]?=some e->fM w ib k e.key) ->
  fM w (ny j M w) k v/\((r=(ks++[k],vs++[y])/\Instr.findNow d v es n=some none)\/∃i e,r=(ks.set i k,vs.set i y)/\es[i]?=some e/\Instr.sameBits 10000 e.key v=true/\Instr.findNow d v es n=some (some (n+i,e.val)))
 | [],[],[],r,n,h,_,_,_=>by
  obtain⟨b,hb,h⟩:=bl h;injection h with h
  exact⟨Ol hb hv,.inl ⟨h.symm,rfl⟩⟩
 |k'::ks,u::vs,e::es,r,n,h,h1,h2,h3=>by
  obtain⟨b,hb,h⟩:=bl h;obtain⟨s1,s2,s3⟩:=Js hd hb hv (h3 0 k' e rfl rfl);refine⟨s3,?_⟩;rcases jR h with ⟨rfl,h⟩|⟨rfl,h⟩
  ·injection h with h
   exact .inr ⟨0,e,h.symm,rfl,s2 rfl,by grind [Instr.findNow]⟩
  ·obtain⟨r',h',h⟩:=bl h;cases h;have hf:Instr.findNow d v (e::es) n=Instr.findNow d v es (n+1):=by rw[Instr.findNow,s1]
   rcases(HR hd hv (n+1) h' (by simpa using h1) (by simpa using h2) (fun i k e hk he=>h3 (i+1) k e (by grind) (by grind))).2 with ⟨g1,g2⟩|⟨i,e',g1,g2,g3,g4⟩
   ·grind
   ·exact .inr ⟨i+1,e',by rw[g1]; rfl,by grind,g3,by rw[hf,g4]; grind⟩
 | [],_::_,[],_,_,_,_,h2,_=>by grind
 |_::_,[],_::_,_,_,_,_,h2,_=>by grind
 | [],_,_::_,_,_,_,h1,_,_=>by simp at h1
 |_::_,_,[],_,_,_,h1,_,_=>by grind
def B7.rep{x:ag}{v:Value}(h:B7 w (ny j M w) x v):gj j M w x v:=by
 by_cases hag:∃cs,x = .agg cs
 ·obtain⟨cs,rfl⟩:=hag;obtain⟨us,rfl,h2,h3⟩:=h;exact .agg h2 fun i c u hc hu => .plain (h3 i c u hc hu)
 ·cases x<;>first|exact absurd ⟨_,rfl⟩ hag|exact .plain h
theorem Fq(hr:Rel j M w){m:ag}{v:Value}{e:List ag×List ag}(h:mapOf M m=some e)(hm:gj j M w m v):∃(b:Nat) (es:Array MapEntry) (clock:Nat),v = .map (some b)/\w.heap[b]?=some (.map es clock) /\
  e.1.length=es.size/\e.2.length=es.size/\(∀(i:Nat)(k:ag)(e':MapEntry),e.1[i]?=some k->es[i]?=some e'->fM w (ny j M w) k e'.key)/\∀(i:Nat)(k:ag)(e':MapEntry),e.2[i]?=some k->es[i]?=some e'->gj j M w k e'.val:=by
 unfold mapOf at h;split at h
 ·split at h
  ·rename_i ks vs hM;injection h with h; rw[fK] at hM
   obtain⟨b,_,hj,rfl⟩:=hm.vp;obtain⟨b',hj',es,clock,g1,g2,g3,g4,g5⟩:=hr.fix _ _ hM rfl
   grind
  grind
 ·cases h;cases hm with
  |plain h=>cases h
  |jA hb hf hx hw hk hv hks hvs=>exact⟨_,_,_,rfl,hw,hk,hv,hks,fun i k e h1 h2=>(hvs i k e h1 h2).rep⟩
 ·cases h
theorem IE{zero:ag}{ok:Bool}{r:Option ag}{v:Value}(h:gj j M w (r.getD zero) v):gj j M w (qF zero ok r) (if ok then .tuple #[v,.bool r.isSome] else v):=by
 cases ok with
 |false=>exact h
 |true =>
  refine .tuple rfl fun i c u hc hu=>?_
  match i with
  |0=>grind
  |1=>simp at hc hu; subst hc; subst hu; exact .plain (.bool _)
  |n+2=>simp_all
def ZD(hr:Rel j M w)(he:cn j M w br a){t kt et:TypeId}{m k:Operand}{m' k':gV}{ok:Bool}{fk:FK}{ie:TypeInfo}{zv:Value}{z:ag}(hop:o.op = .lookup t m k ok)(ht:P.underlying t=some (.map kt et))
  (hk:Du P kt=some fk) (hi:P.info? et=some ie) (hz:ie.zero=some zv) (hzv:PX zv=some z) (hm':eE m=some m') (hk':eE k=some k') (h:ef C br M (.look fk z ok m' k')=some x) :
  ∃v w',qZ P o a w v w'/\iL j M w x v w':=by
 simp only[ef] at h;obtain⟨e,h1,h⟩:=bl h;obtain⟨r,h2,h⟩:=bl h;cases h;obtain⟨d,hd,hfk⟩:=Fj hk;obtain⟨b,es,clock,hv,hb,g1,g2,g3,g4⟩:=Fq hr h1 (cX he hm');have hc:∀q,(Instr.checkKey q 10000 kt (a.eval k)).run P w = .ok () w:=fun q=>EF hfk hd q _
 rcases HQ hfk (cX he hk') (es:=es.toList) 0 h2 (by simpa using g1) (by simpa using g2) (fun i k e hk he=>g3 i k e hk (by simpa using he)) with ⟨rfl,f1⟩|⟨i,u,e',rfl,f2,f3,f1⟩
 ·refine⟨if ok then .tuple #[zv,.bool false] else zv,w,.inl ?_,.still hr (IE (r:=none) (Hn hzv))⟩
  simp[execOp,hop,Instr.lookup,dL ht,hv,MapKept.run_getObj_map hb,hc,Instr.findKey,dL hd,f1,zeroValue,pg hi,hz]
 ·refine⟨if ok then .tuple #[e'.val,.bool true] else e'.val,w,.inl ?_,.still hr (IE (r:=some u) (g4 i u e' f2 (by simpa using f3)))⟩
  simp[execOp,hop,Instr.lookup,dL ht,hv,MapKept.run_getObj_map hb,hc,Instr.findKey,dL hd,f1]
def ZA(hr:Rel j M w)(he:cn j M w br a){c:Call}{y:Operand}{z:gV}{t k e:TypeId}(hop:o.op = .call c)(hb:c.callee = .builtin .len)(ha:c.args.toList=[y])
  (ht:c.argTypes[0]?=some t) (hs:P.underlying t=some (.map k e)) (hz:eE y=some z) (h:ef C br M (.Oo z)=some x):∃v w',qZ P o a w v w'/\iL j M w x v w':=by
 simp only[ef] at h;obtain⟨e,h1,h⟩:=bl h;cases h;obtain⟨b,es,clock,hv,hbl,g1,g2,g3,g4⟩:=Fq hr h1 (cX he hz);have ha':c.args = #[y]:=by rw[<-ha]
 refine⟨.int .i64 e.1.length,w,.inl ?_,.still hr (.plain (.int _ _))⟩;simp[execOp,hop,resolve,hb,invoke,builtin,Builtin.len_,ha',ht,dL hs,hv,MapKept.run_getObj_map hbl,goInt,g1]
def MC(hr:Rel j M w){bx:dy}{ob:Obj}(hfx:bx.fixed=true)(hh:∀j' M' (w':World),w'.heap[w.heap.size]?=some ob->Holds j' M' w' w.heap.size bx) :
  ∃j':J,Rel j' (M++[bx]) { w with heap:=w.heap.push ob }/\Ext j M w j' (M++[bx]) { w with heap:=w.heap.push ob }/\j' M.length=some w.heap.size:=by
 have q:Quiet w { w with heap:=w.heap.push ob }:=⟨by simp,rfl,rfl,rfl⟩
 have hb:∀b,b<w.heap.size->({ w with heap:=w.heap.push ob }:World).heap[b]?=w.heap[b]?:=fun b hb=>by
  show(w.heap.push _)[b]?=_
  rw[fP,aH (by omega)]
 have hn:({ w with heap:=w.heap.push ob }:World).heap[w.heap.size]?=some ob:=by simp
 refine⟨gD j M.length (some w.heap.size),hr.push (fun b h=>?_) q hb (fun _=>?_) (fun sz n b h=>by rw[h] at hfx; cases hfx) (fun sz v xs h=>by rw[h] at hfx; cases hfx),Ext.push (fun b h=>?_) q hb,by simp[gD]⟩
 ·cases h; simp
 ·exact⟨_,rfl,fun j' M' hx=>hh j' M' _ hn⟩
 ·injection h with h; omega
def U5(hr:Rel j M w){t:TypeId}(hop:o.op = .makeMap t none)(h:ef C br M .mkMap=some x):∃v w',qZ P o a w v w'/\iL j M w x v w':=by
 simp only[ef] at h;cases h;obtain⟨j',h1,h2,h3⟩:=MC (ob := .map #[] 0) (bx := .map [] []) hr rfl fun j' M' w' hw=>⟨#[],0,hw,rfl,rfl,fun i k e h=>by simp at h,fun i k e h=>by simp at h⟩
 exact⟨.map (some w.heap.size),_,.inl (by simp[execOp,hop,Instr.makeMap]),j',h1,h2,.ia ⟨[],[],by simp⟩ h3⟩
def ZG(hr:Rel j M w)(he:cn j M w br a){t:TypeId}{y:Operand}{z:gV}(hop:o.op = .range t y)(ht:P.underlying t=some .string)(hz:eE y=some z)(h:ef C br M (.O7 z)=some x):∃v w',qZ P o a w v w'/\iL j M w x v w':=by
 simp only[ef] at h;have h0:=cX he hz;split at h
 ·rename_i s e;rw[e] at h0;cases h;obtain⟨j',h1,h2,h3⟩:=MC (ob := .stringIter (bs s) 0) (bx := .mC s 0) hr rfl fun j' M' w' hw=>hw
  exact⟨.pointer (some ⟨w.heap.size,0,none⟩),_,.inl (by simp[execOp,hop,Instr.range,dL ht,h0.j5]),j',h1,h2,.jn ⟨s,0,by simp⟩ h3⟩
 ·cases h
def GV(hr:Rel j M w){id b:Nat}{bx bx':dy}{ob:Obj}(hM:M[id]?=some bx)(hfx:bx.fixed=true)(htag:bx'.tag=bx.tag)(hj:j id=some b)(hnc:∀vs t fr,w.heap[b]?≠some (.cells vs t fr))
  (hh:∀j' M' (w':World),Ext j M w j' M' w'->w'.heap[b]?=some ob->Holds j' M' w' b bx') :
  Rel j (M.set id bx') { w with heap:=w.heap.setIfInBounds b ob }/\Ext j M w j (M.set id bx') { w with heap:=w.heap.setIfInBounds b ob }:=by
 have q:Quiet w { w with heap:=w.heap.setIfInBounds b ob }:=⟨by simp,rfl,rfl,rfl⟩
 have hb:∀b',b'≠b->b'<w.heap.size->({ w with heap:=w.heap.setIfInBounds b ob }:World).heap[b']?=w.heap[b']?:=fun b' hne _=>by
  show(w.heap.setIfInBounds b ob)[b']?=_
  rw[fh (eZ hne)]
 have cz:b<w.heap.size:=hr.lt id b (aK hM) hj
 have hn:({ w with heap:=w.heap.setIfInBounds b ob }:World).heap[b]?=some ob:=by
  show(w.heap.setIfInBounds b ob)[b]?=_
  simp[cz]
 exact⟨Rel.store hM hfx htag hj hr q hb (fun vs t fr h=>absurd h (hnc vs t fr)) fun j' M' hx=>hh j' M' _ hx hn,Ext.store hM hfx htag hj hr q hb (fun vs t fr h=>absurd h (hnc vs t fr))⟩
def U7(hr:Rel j M w)(he:cn j M w br a){y:Operand}{z:gV}(hop:o.op = .next y true)(hz:eE y=some z)(h:ef C br M (.Fv z)=some x):∃v w',qZ P o a w v w'/\iL j M w x v w':=by
 simp only[ef] at h;have h0:=cX he hz;split at h
 ·rename_i id e;rw[e] at h0;obtain⟨b,_,hj,hv⟩:=h0.Dl;split at h
  ·rename_i s pos hM;rw[fK] at hM;obtain⟨b',hj',hw⟩:=hr.fix _ _ hM rfl;rw[hj] at hj'; cases hj';have hw:w.heap[b]?=some (.stringIter (bs s) pos):=hw;have hsz:(bs s).size=s.length:=by simp[bs,ByteArray.size]
   have hget:(getObj b).run P w = .ok (.stringIter (bs s) pos) w:=by simp[getObj,Sem.run,hw]
   rcases jR h with ⟨cz,h⟩|⟨cz,h⟩<;>(cases h)
   ·have hlt':pos<s.length:=by simpa using cz
    have hset:∀ob,(setObj b ob).run P w = .ok () { w with heap:=w.heap.setIfInBounds b ob }:=fun ob=>by simp[setObj,Sem.run,hw]
    obtain⟨r1,r2⟩:=GV (ob := .stringIter (bs s) (pos+(Utf8.decode (bs s) pos).2)) (bx' := .mC s (pos+(Utf8.decode ⟨s.toArray⟩ pos).2)) hr hM rfl rfl hj (fun vs t fr h=>by rw[hw] at h; cases h) fun j' M' w' _ hw=>hw
    refine⟨.tuple #[.bool true,goInt pos,.int .i32 (Utf8.decode (bs s) pos).1],{ w with heap:=w.heap.setIfInBounds b (.stringIter (bs s) (pos+(Utf8.decode (bs s) pos).2)) },.inl ?_,j,?_,?_,?_⟩
    ·simp[execOp,hop,Instr.next,hv,hget,hsz,hlt',hset]
    ·rw[gy]; exact r1
    ·rw[gy]; exact r2
    ·refine .tuple rfl fun i c u hc hu=>?_
     match i with
     |0=>simp at hc hu; subst hc; subst hu; exact .plain (.bool _)
     |1=>simp at hc hu; subst hc; subst hu; exact .plain (.int _ _)
     |2=>simp at hc hu; subst hc; subst hu; exact .plain (.int _ _)
     |n+3=>simp at hc
   ·have hlt':¬pos<s.length:=by simpa using cz
    refine⟨.tuple #[.bool false],w,.inl ?_,.still hr (.tuple rfl fun i c u hc hu=>?_)⟩
    ·simp[execOp,hop,Instr.next,hv,hget,hsz,hlt']
    ·match i with
     |0=>simp at hc hu; subst hc; subst hu; exact .plain (.bool _)
     |n+1=>simp at hc
  ·cases h
 ·cases h
def U9(hr:Rel j M w)(he:cn j M w br a){t kt et:TypeId}{m k y:Operand}{m' k' y':gV}{fk:FK}(hop:o.op = .mapUpdate t m k y\/o.op = .insert t m k y)(ht:P.underlying t=some (.map kt et))
  (hk:Du P kt=some fk) (hm':eE m=some m') (hk':eE k=some k') (hyr:gj j M w (y'.ev br) (a.eval y)) (h:ef C br M (.gD fk m' k' y')=some x):∃v w',qZ P o a w v w'/\iL j M w x v w':=by
 simp only[ef] at h;have h0:=cX he hm';split at h
 ·rename_i id e;rw[e] at h0;split at h
  ·rename_i ks vs hM;obtain⟨r,hr',h⟩:=bl h;cases h;rw[fK] at hM;obtain⟨b,_,hj,hv⟩:=h0.vp;obtain⟨b',hj',es,clock,hb,g2,g3,g4,g5⟩:=hr.fix _ _ hM rfl;rw[hj] at hj'; cases hj';obtain⟨d,hd,hfk⟩:=Fj hk;have hc:∀q,(Instr.checkKey q 10000 kt (a.eval k)).run P w = .ok () w:=fun q=>EF hfk hd q _
   obtain⟨kp,hf⟩:=HR hfk (cX he hk') (es:=es.toList) 0 hr' (by simpa using g2) (by simpa using g3) (fun i k e hk he=>g4 i k e hk (by simpa using he))
   have hset:∀ob,(setObj b ob).run P w = .ok () { w with heap:=w.heap.setIfInBounds b ob }:=fun ob=>MapKept.run_setObj_map ob hb
   rcases hf with ⟨rfl,f1⟩|⟨i,e',rfl,f3,f4,f1⟩
   ·obtain⟨r1,r2⟩:=GV (ob := .map (es.push { key:=a.eval k,val:=a.eval y,born:=clock }) (clock+1)) (bx' := .map (ks++[k'.ev br]) (vs++[y'.ev br])) hr hM rfl rfl hj (fun vs t fr h=>by rw[hb] at h; cases h) fun j' M' w' hx hw=>by
     refine⟨_,_,hw,by simp[g2],by simp[g3],fun i k e hk he=>?_,fun i k e hk he=>?_⟩
     ·rw[fP] at he;rw[mU] at hk
      by_cases hi:i=es.size
      ·subst hi;simp[g2] at hk he;subst hk; subst he;exact kp.mono hx.ib
      ·rw[aH hi] at he;have hi':i<es.size:=(ft.1 he).1;rw[bc (by omega)] at hk
       exact(g4 i k e hk he).mono hx.ib
     ·rw[fP] at he;rw[mU] at hk
      by_cases hi:i=es.size
      ·subst hi;simp[g3] at hk he;subst hk; subst he;exact hyr.mono hx
      ·rw[aH hi] at he;have hi':i<es.size:=(ft.1 he).1;rw[bc (by omega)] at hk
       exact(g5 i k e hk he).mono hx
    refine⟨undef,{ w with heap:=w.heap.setIfInBounds b (.map (es.push { key:=a.eval k,val:=a.eval y,born:=clock }) (clock+1)) },.inr ⟨?_,rfl⟩,j,?_,?_,.any _⟩
    ·rcases hop with hop|hop<;>simp[execOp,hop,Instr.mapUpdate,dL ht,hv,MapKept.run_getObj_map hb,hc,Instr.findKey,dL hd,f1,hset]
    ·rw[gy]; exact r1
    ·rw[gy]; exact r2
   ·have hi:i<es.size:=by simpa using(aq.1 f3).1
    have he':es[i]?=some e':=by simpa using f3
    obtain⟨r1,r2⟩:=GV (ob := .map (es.modify i fun e=>{ e with key:=a.eval k,val:=a.eval y }) clock) (bx' := .map (ks.set i (k'.ev br)) (vs.set i (y'.ev br))) hr hM rfl rfl hj (fun vs t fr h=>by rw[hb] at h; cases h) fun j' M' w' hx hw=>by
     refine⟨_,_,hw,by simp[g2],by simp[g3],fun q k e hk he=>?_,fun q k e hk he=>?_⟩
     ·rw[gA] at he
      by_cases hq:i=q
      ·subst hq;simp[he'] at he;rw[gm (by omega)] at hk
       cases hk; subst he;exact kp.mono hx.ib
      ·rw[aH hq] at he;rw[gQ hq] at hk;exact(g4 q k e hk he).mono hx.ib
     ·rw[gA] at he
      by_cases hq:i=q
      ·subst hq;simp[he'] at he;rw[gm (by omega)] at hk
       cases hk; subst he;exact hyr.mono hx
      ·rw[aH hq] at he;rw[gQ hq] at hk;exact(g5 q k e hk he).mono hx
    refine⟨undef,{ w with heap:=w.heap.setIfInBounds b (.map (es.modify i fun e=>{ e with key:=a.eval k,val:=a.eval y }) clock) },.inr ⟨?_,rfl⟩,j,?_,?_,.any _⟩
    ·rcases hop with hop|hop<;>simp[execOp,hop,Instr.mapUpdate,dL ht,hv,MapKept.run_getObj_map hb,hc,Instr.findKey,dL hd,f1,hset,he',Instr.keyThatStays,f4]
    ·rw[gy]; exact r1
    ·rw[gy]; exact r2
  ·cases h
 ·cases h
end
def jC(xs:List ag):List ag:=xs.flatMap ag.cells
def nM(x:ag)(xs:List ag):jC (x::xs)=x.cells++jC xs:=rfl
def nL(xs ys:List ag):jC (xs++ys)=jC xs++jC ys:=by simp[jC]
def iw{sz:Nat}:∀ {xs:List ag},wid xs sz->(jC xs).length=xs.length*sz
 | [],_=>by simp[jC]
 |x::xs,h=>by
  rw[nM,aD,h x (aV ..),iw fun y hy=>h y (aO _ hy),au,bJ]
  omega
def mO{sz:Nat}{xs ys:List ag}(h1:wid xs sz)(h2:wid ys sz):wid (xs++ys) sz:=fun x hx=>(bm.1 hx).elim (h1 x) (h2 x)
def vE{sz n:Nat}{xs:List ag}(h:wid xs sz):wid (xs.take n) sz:=fun x hx=>h x (dI hx)
def vD{sz n:Nat}{xs:List ag}(h:wid xs sz):wid (xs.drop n) sz:=fun x hx=>h x (dr hx)
def rA{sz:Nat}:∀(n:Nat){xs:List ag},wid xs sz->jC (xs.take n)=(jC xs).take (n*sz)
 |0,_,_=>by simp[jC]
 |n+1,[],_=>by simp[jC]
 |n+1,x::xs,h=>by
  have hx:=h x (aV ..);have e:(n+1)*sz=sz+n*sz:=by rw[bJ]; omega
  rw[List.take_succ_cons,nM,nM,rA n fun y hy=>h y (aO _ hy),List.take_append,hx,e,iE,bQ (l:=x.cells) (by omega)]
def tF{sz:Nat}:∀(n:Nat){xs:List ag},wid xs sz->jC (xs.drop n)=(jC xs).drop (n*sz)
 |0,_,_=>by simp
 |n+1,[],_=>by simp[jC]
 |n+1,x::xs,h=>by
  have hx:=h x (aV ..);have e:(n+1)*sz=sz+n*sz:=by rw[bJ]; omega
  rw[List.drop_succ_cons,nM,tF n fun y hy=>h y (aO _ hy),List.drop_append,hx,e,iE,List.drop_of_length_le (l:=x.cells) (by omega),aZ]
theorem AQ{sz:Nat}:∀ {xs:List ag},wid xs sz->∀ {q:Nat} {x:ag} {k:Nat} {c:ag},xs[q]?=some x->x.cells[k]?=some c->(jC xs)[q*sz+k]?=some c
 | [],_,q,x,k,c,hx,_=>by grind
 |y::xs,h,0,x,k,c,hx,hk=>by
  simp at hx; subst hx;rw[nM,jY,aL,bB (aq.1 hk).1];omega
 |y::xs,h,q+1,x,k,c,hx,hk=>by
  have hy:=h y (aV ..);rw[nM,bA (by rw[bJ]; omega),hy]
  rw[show(q+1)*sz+k-sz=q*sz+k by rw[bJ]; omega]
  exact AQ (fun z hz=>h z (aO _ hz)) (by grind) hk
theorem C9{sz:Nat}{xs:List ag}(h:wid xs sz){p:Nat}{c:ag}(hp:(jC xs)[p]?=some c):∃q x k,xs[q]?=some x/\x.cells[k]?=some c/\p=q*sz+k:=by
 have cz:p<xs.length*sz:=by rw[<-iw h]; grind
 have hsz:0<sz:=by
  grind
 have hq:p / sz<xs.length:=by rw[kl hsz]; omega
 have hk:p % sz<(xs[p / sz]).cells.length:=by rw[h _ (iU _)]; simp_all [Nat.mod_lt]
 grind [Nat.mul_comm,Nat.div_add_mod,AQ]
def RL(w:World)(ib:Nat->Nat->Prop)(cs:List ag)(vs:List Value):Prop:=cs.length=vs.length/\∀(p:Nat)(c:ag)(v:Value),cs[p]?=some c->vs[p]?=some v->fM w ib c v
section
variable {w w':World} {ib saf':Nat->Nat->Prop} {cs ds:List ag} {us vs:List Value}
def RL.append(h:RL w ib cs us)(k:RL w ib ds vs):RL w ib (cs++ds) (us++vs):=by
 refine⟨by simp[h.1,k.1],fun p c v hc hv=>?_⟩
 rcases bD p _ with hp|hp
 ·rw[bB hp] at hc;rw[bB (by rw[<-h.1]; omega)] at hv
  exact h.2 p c v hc hv
 ·rw[bA hp] at hc;rw[bA (by rw[<-h.1]; omega),<-h.1] at hv
  exact k.2 _ c v hc hv
theorem RL.take(n:Nat)(h:RL w ib cs us):RL w ib (cs.take n) (us.take n):=by
 refine⟨by simp[h.1],fun p c v hc hv=>?_⟩
 rw[gI] at hc hv;split at hc
 ·rename_i hp;rw[bc hp] at hv;exact h.2 p c v hc hv
 grind
def RL.drop(n:Nat)(h:RL w ib cs us):RL w ib (cs.drop n) (us.drop n):=by
 refine⟨by simp[h.1],fun p c v hc hv=>?_⟩
 rw[cI] at hc hv;exact h.2 _ c v hc hv
def RL.mono(hm:∀b off,ib b off->saf' b off/\w'.cell? ⟨b,off,none⟩=w.cell? ⟨b,off,none⟩)(h:RL w ib cs us):RL w' saf' cs us:=⟨h.1,fun p c v hc hv=>(h.2 p c v hc hv).mono hm⟩
end
section
variable {j:J} {M:aG} {w:World}
theorem xB{b sz:Nat}{xs:List ag}{vs:Array Value}(hl:xs.length*sz<=vs.size)(hwd:wid xs sz)
  (hc:∀(q:Nat)(x:ag)(k:Nat)(c:ag),xs[q]?=some x->x.cells[k]?=some c->∃v,vs[q*sz+k]?=some v/\fM w (ny j M w) c v):RL w (ny j M w) (jC xs) (vs.toList.take (xs.length*sz)):=by
 refine⟨by rw[iw hwd]; grind,fun p c v hp hv=>?_⟩
 obtain⟨q,x,k,h1,h2,rfl⟩:=C9 hwd hp
 grind
theorem lJ{j':J}{M':aG}{w':World}{b sz:Nat}{t:TypeId}{xs:List ag}{us:List Value}{vs:Array Value}(hw:w'.heap[b]?=some (.cells vs t (0,0)))(hwd:wid xs sz)(hr:RL w' (ny j' M' w') (jC xs) us)
  (hv:∀p,p<us.length->vs[p]?=us[p]?):Ev j' M' w' b sz xs:=by
 have dQ:us.length=xs.length*sz:=by rw[<-hr.1,iw hwd]
 refine⟨vs,t,hw,?_,hwd,fun q x k c hx hk=>?_⟩
 ·grind
 ·have h1:=AQ hwd hx hk;have hp:q*sz+k<us.length:=by rw[<-hr.1]; grind
  exact⟨us[q*sz+k],by rw[hv _ hp,ai _],hr.2 _ _ _ h1 (ai _)⟩
theorem AR:∀(ids:List Nat){M:aG}{i:Nat}{bx:dy},M[i]?=some bx->(∀sz v xs,bx ≠ .arr sz v xs)->(sO M ids)[i]?=some bx
 | [],_,_,_,h,_=>h
 |a::r,M,i,bx,h,hn=>by
  simp[sO,fK];split
  ·refine AR r ?_ hn
   grind [gy]
  ·exact AR r h hn
theorem Ck:∀(ids:List Nat){M:aG},Rel j M w->Ext j M w j (sO M ids) w/\Rel j (sO M ids) w/\(sO M ids).length=M.length/\∀id,id∈ids->∀sz v xs,M[id]?=some (.arr sz v xs)->(sO M ids)[id]?=some (.tick sz xs.length)
 | [],M,hr=>⟨.refl _ _ _,hr,rfl,fun id h=>by cases h⟩
 |a::r,M,hr=>by
  simp only[sO,fK];split
  ·rename_i sz v xs hM;rw[gy];obtain⟨h1,h2,h3,h4⟩:=Ck r (Rel.freeze hM hr);refine⟨(Ext.freeze hM).trans h1,h2,by rw[h3]; simp,fun id hid sz' v' xs' hid'=>?_⟩
   grind [id,AR,dK,aK]
  ·obtain⟨h1,h2,h3,h4⟩:=Ck r hr
   grind
def gj.ou{M':aG}(hr:Rel j M w)(hx:Ext j M w j M' w)(hr':Rel j M' w)(hl:M'.length=M.length){x:ag}{v:Value}(h:gj j M w x v)(hf:∀id,id∈x.ig->∀sz v xs,M[id]?=some (.arr sz v xs)->M'[id]?=some (.tick sz xs.length)):gj j M' w (x.ou M) v:=by
 cases x<;>try exact h.mono hx
 rename_i id ver sz lo hi;simp[ag.ou,fK];split
 ·rename_i sz' v' xs hM;split
  ·rename_i hv;subst hv;obtain⟨_,hid,_,g⟩:=h.nR;obtain⟨e1,l1,l2,⟨rfl,_,A,rfl⟩|⟨b,cap,vs,t,l3,l4,l5,l6,l7⟩⟩:=(g sz' v' xs hM).2 rfl
   ·simp;exact .plain (fM.nil _ _ _)
   subst e1;obtain⟨b',vs',t',k1,k2,k3,k4,k5⟩:=hr.zn hM l3;rw[l3] at k1; cases k1;rw[l4];refine .plain (xC k2 k4 k5 (fun b off hs=>(hx.ib b off hs).1) (fun off ho=>⟨hr'.lt id b (by rw[hl]; exact aK hM) l3,fun i hi hji=>?_,hr'.uS id b (by omega) l3 off⟩) l1 l2 l5)
   have  := hr'.inj i id b hi (by rw[hl]; exact aK hM) hji l3
   subst this;exact⟨sz',xs.length,hf i (by simp[ag.ig]) _ _ _ hM,ho⟩
  ·exact .any _
 ·exact .any _
theorem gj.wx{M':aG}(hr:Rel j M w)(hx:Ext j M w j M' w)(hr':Rel j M' w)(hl:M'.length=M.length){x:ag}{v:Value}(h:gj j M w x v)(hf:∀id,id∈x.ids->∀sz v xs,M[id]?=some (.arr sz v xs)->M'[id]?=some (.tick sz xs.length)):gj j M' w (x.wx M) v:=by
 by_cases hag:∃cs,x = .agg cs
 ·obtain⟨cs,rfl⟩:=hag;obtain⟨vs,rfl,hl',hc⟩:=h.ml;refine .agg (by grind) fun i c u hi hu=>?_
  rw[bf,aN] at hi;obtain⟨c0,hc0,rfl⟩:=hi;refine(hc i c0 u hc0 hu).ou hr hx hr' hl fun id hid=>hf _ ?_
  refine iV.2 ⟨c0,aQ hc0,?_⟩;cases c0<;>first|exact hid|(simp[ag.ig] at hid)
 ·have:x.wx M=x.ou M:=by cases x<;>first|rfl|grind
  rw[this];refine h.ou hr hx hr' hl fun id hid=>hf id ?_
  cases x<;>first|exact hid|exact absurd _ _|grind [ag.ig]
end
section
variable {P:Program} {C:eK} {o:Oper} {br:Env} {M:aG} {j:J} {w:World} {a:Act} {x:ag×aG}
theorem qY(z:Array Value)(n:Nat):(Builtin.zeroCells z n).toList=(List.replicate n z.toList).flatten:=by
 induction n with
 |zero=>simp[Builtin.zeroCells]
 |succ n ih =>
  rw[mW,List.flatten_append,<-ih];apply dM;intro i;simp only[Builtin.zeroCells,Array.toList_map,Array.toList_range,List.flatten_cons,List.flatten_nil,cZ];rcases bD i (n*z.size) with h|h
  ·grind
  ·rw[bA (by grind)]
   simp only[fH,List.length_range];rcases bD i ((n+1)*z.size) with h2|h2
   ·have h3:i-n*z.size<z.size:=by rw[bJ] at h2; omega
    have h4:i % z.size=i-n*z.size:=by
     have:i=(i-n*z.size)+n*z.size:=by omega
     rw[this,Nat.add_mul_mod_self_right,Nat.mod_eq_of_lt h3]; omega
    rw[bf,jI h2];simp[h4,h3]
   grind
def N1(n:Nat)(zero:List ag):jC (List.replicate n (.agg zero))=(List.replicate n zero).flatten:=by
 induction n with
 |zero=>rfl
 |succ n ih=>rw[iM,nM,ih]; rfl
theorem PU{ib:Nat->Nat->Prop}(n:Nat){cs:List ag}{us:List Value}(h:RL w ib cs us):RL w ib (List.replicate n cs).flatten (List.replicate n us).flatten:=by
 induction n with
 |zero=>exact⟨rfl,fun p c v hc=>by simp⟩
 |succ n ih=>exact h.append ih
theorem xA{id b sz ver ver':Nat}{xs xs':List ag}{vs vs':Array Value}{t:TypeId}{us:List Value}{w':World}(hr:Rel j M w)(hM:M[id]?=some (.arr sz ver xs))(hj:j id=some b)(q:Quiet w w')
  (hb:∀b',b'≠b->b'<w.heap.size->w'.heap[b']?=w.heap[b']?) (hw:w.heap[b]?=some (.cells vs t (0,0))) (hw':w'.heap[b]?=some (.cells vs' t (0,0))) (hs:vs'.size=vs.size)
  (hv:ver<=ver') (hl:ver'=ver->xs'.length=xs.length) (hwd:wid xs' sz) (hrl:RL w (ny j M w) (jC xs') us) (hus:∀p,p<us.length->vs'[p]?=us[p]?) :
  Rel j (M.set id (.arr sz ver' xs')) w'/\Ext j M w j (M.set id (.arr sz ver' xs')) w':=by
 have hwr:∀vs0 t1,w.heap[b]?=some (.cells vs0 t1 (0,0))->∃vs1,w'.heap[b]?=some (.cells vs1 t1 (0,0))/\vs1.size=vs0.size:=fun vs0 t1 h=>by
  grind
 exact⟨Rel.EB hM hj hr q hb hwr hv hl fun j' M' hx=>lJ hw' hwd (hrl.mono hx.ib) hus,Ext.EB hM hj hr q hb hwr hv hl⟩
theorem CE{l:List ag}{vs:List Value}(hl:sy vs=some l)(hp:(l.map ag.shut).all ag.plainCell=true):RL w (ny j M w) (l.map ag.shut) vs/\∀v,v∈vs->v.oneCell'=true:=by
 obtain⟨h1,h2⟩:=pF (j:=j) (M:=M) (w:=w) hl;rw[List.all_map,bI] at hp;refine⟨⟨by grind,fun p c v hc hv=>?_⟩,fun v hv=>?_⟩
 ·grind [Ah,List.mem_of_getElem?]
 ·obtain⟨p,hp',rfl⟩:=jK hv;have hpl:p<l.length:=by omega
  exact CX (h2 p _ _ (ai hpl) (ai hp')) (BX (hp _ (iU hpl)))
theorem OJ(hr:Rel j M w)(he:cn j M w br a){c:Call}{y:Operand}{z:gV}{t e:TypeId}{i:TypeInfo}{zv:Value}{l:List ag}(hop:o.op = .call c)(hb:c.callee = .builtin .clear)(ha:c.args.toList=[y])
  (ht:c.argTypes.toList=[t]) (hs:P.underlying t=some (.slice e)) (hi:P.info? e=some i) (hzv:i.zero=some zv) (hl:sy zv.cells.toList=some l) (hsz:l.length=i.size) (hz:eE y=some z)
  (h:ef C br M (.AH i.size (l.map ag.shut) z)=some x):∃v w',qZ P o a w v w'/\iL j M w x v w':=by
 simp only[ef] at h;have h1:=cX he hz;have ha':c.args = #[y]:=by rw[<-ha]
 have ht':c.argTypes = #[t]:=by rw[<-ht]
 split at h
 ·rename_i tk xs ez;rw[ez] at h1;split at h
  ·cases h;obtain⟨A,cap,b,off,sz,vs,hv,_⟩:=h1.dR.dR;refine⟨.tuple #[],w,.inl ?_,.still hr (.any _)⟩;cases A<;>simp[execOp,hop,resolve,hb,invoke,builtin,Builtin.clear_,ha',ht',dL hs,hv]
  ·cases h
 ·rename_i id ver sz' lo hi' ez;rw[ez] at h1;rw[fK] at h;split at h
  ·rename_i sz0 v0 xs hM;split at h
   ·rename_i hc;obtain⟨c1,c2,c3,c4⟩:=hc;cases h;subst c1; subst c2;obtain⟨_,hid,_,g⟩:=h1.nR;obtain⟨e1,l1,l2,⟨rfl,_,A,hA⟩|⟨b,cap,vs,t0,l3,l4,l5,l6,l7⟩⟩:=(g sz0 v0 xs hM).2 rfl
    ·have hlo:lo=0:=Nat.le_zero.1 (aW l1 l2);have hhi:hi'=0:=Nat.le_zero.1 l2;subst hlo; subst hhi;refine⟨.tuple #[],w,.inl ?_,?_⟩
     ·cases A<;>simp[execOp,hop,resolve,hb,invoke,builtin,Builtin.clear_,ha',ht',dL hs,hA]
     ·rw[gy]
      have he:M.set id (.arr sz0 v0 (List.take 0 ([]:List ag)++(List.replicate (0-0) (ag.agg (l.map ag.shut))++List.drop 0 [])))=M:=by
       apply dM
       grind
      rw[he];exact .still hr (.any _)
    subst e1;obtain⟨b',vs',t',k1,k2,k3,k4,k5⟩:=hr.zn hM l3;rw[l3] at k1; cases k1;rw[l6] at k2; injection k2 with k2; injection k2 with k2 k2'
    subst k2; subst k2';obtain⟨p1,p2⟩:=CE (j:=j) (M:=M) (w:=w) hl c4;have hzl:zv.cells.toList.length=i.size:=by rw[<-p1.1]; simpa using hsz
    have dQ:(List.replicate (hi'-lo) zv.cells.toList).flatten.length=(hi'-lo)*i.size:=by simp[List.length_flatten,gJ,List.sum_replicate_nat,hzl]
    have hbd:lo*i.size+(hi'-lo)*i.size<=xs.length*i.size:=by rw[<-bJ]; exact bj _ (by omega)
    have hfit:lo*i.size+(List.replicate (hi'-lo) zv.cells.toList).flatten.length<=vs.size:=by rw[dQ]; omega
    have hone:∀v,v∈(List.replicate (hi'-lo) zv.cells.toList).flatten->v.oneCell'=true:=fun v hv=>by
     obtain⟨r,hr1,hr2⟩:=List.mem_flatten.1 hv;rw[kZ hr1] at hr2;exact p2 v hr2
    have hrun:=mN (P:=P) (List.replicate (hi'-lo) zv.cells.toList).flatten w (lo*i.size) 0 vs l6 (by omega) hone
    obtain⟨s1,s2,s3,s4,s5,vs',s6,s7,s8,s9⟩:=lC (List.replicate (hi'-lo) zv.cells.toList).flatten w (lo*i.size) vs l6 hfit;have hrow:=xB (b:=b) k3 k4 k5;have hwz:wid (List.replicate (hi'-lo) (ag.agg (l.map ag.shut))) i.size:=fun x hx=>by rw[kZ hx]; simpa[ag.cells] using hsz
    have jf:RL w (ny j M w) (jC (xs.take lo++(List.replicate (hi'-lo) (ag.agg (l.map ag.shut))++xs.drop hi'))) ((vs.toList.take (xs.length*i.size)).take (lo*i.size)++((List.replicate (hi'-lo) zv.cells.toList).flatten++(vs.toList.take (xs.length*i.size)).drop (hi'*i.size))):=by
     rw[nL,nL,rA lo k4,tF hi' k4,N1];exact(hrow.take _).append ((PU _ p1).append (hrow.drop _))
    have hhi:lo*i.size+(hi'-lo)*i.size=hi'*i.size:=by rw[<-bJ,dg l1]
    have hput:=xA (ver':=v0) (xs':=xs.take lo++(List.replicate (hi'-lo) (ag.agg (l.map ag.shut))++xs.drop hi')) hr hM l3 (w':=oy w b (lo*i.size) (List.replicate (hi'-lo) zv.cells.toList).flatten) ⟨by omega,s2,s3,s4⟩ (fun b' hb' _=>s5 b' hb') l6 s6 s7 (aC _)
     (fun _=>by simp; omega) (mO (vE k4) (mO hwz (vD k4))) jf (fun p hp=>by
      have hp':p<xs.length*i.size:=by
       rw[<-jf.1,iw (mO (vE k4) (mO hwz (vD k4)))] at hp;have:(xs.take lo++(List.replicate (hi'-lo) (ag.agg (l.map ag.shut))++xs.drop hi')).length=xs.length:=by simp; omega
       rwa[this] at hp
      have htk:(List.take (lo*i.size) (vs.toList.take (xs.length*i.size))).length=lo*i.size:=by simp; omega
      rcases bD p (lo*i.size) with q1|q1
      ·rw[s8 p (.inl q1),bB (by rw[htk]; omega),bF q1,bF hp']; simp
      ·rw[bA (by rw[htk]; exact q1),htk]
       rcases bD p (hi'*i.size) with q2|q2
       ·rw[bB (by rw[dQ]; omega)]
        have:=s9 (p-lo*i.size) (by rw[dQ]; omega)
        rw[dg q1] at this;exact this
       ·rw[bA (by rw[dQ]; omega),s8 p (.inr (by rw[dQ]; omega)),cI,dQ,show hi'*i.size+(p-lo*i.size-(hi'-lo)*i.size)=p by omega,bF hp']; simp)
    rw[gy];rcases gL (hi'-lo) with h0|h0
    ·refine⟨.tuple #[],oy w b (lo*i.size) (List.replicate (hi'-lo) zv.cells.toList).flatten,.inl ?_,j,hput.1,hput.2,.any _⟩;rw[h0] at l4;simp[execOp,hop,resolve,hb,invoke,builtin,Builtin.clear_,ha',ht',dL hs,l4,h0,oy]
    ·refine⟨.tuple #[],oy w b (lo*i.size) (List.replicate (hi'-lo) zv.cells.toList).flatten,.inl ?_,j,hput.1,hput.2,.any _⟩;obtain⟨m,hm⟩:∃m,hi'-lo=m+1:=⟨hi'-lo-1,by omega⟩
     simp only[dk] at hrun;rw[<-qY,hm] at hrun;rw[hm] at l4;rw[<-qY,hm];simp[execOp,hop,resolve,hb,invoke,builtin,Builtin.clear_,ha',ht',dL hs,l4,zeroValue,pg hi,hzv,hrun]
   ·cases h
  ·cases h
 ·cases h
end
def fM.xc{j:J}{M:aG}{w:World}{x:ag}{v:Value}(h:gj j M w x v)(hp:x.plainCell=true):fM w (ny j M w) x v:=by
 cases x with
 |slice tk xs=>cases tk with
  |sh=>exact h.dR
  |c0=>cases hp
  |own k=>cases hp
 |bool b=>cases h with|plain h=>exact h
 |int k n=>cases h with|plain h=>exact h
 |str s=>cases h with|plain h=>exact h
 |raw v=>cases h with|plain h=>exact h
 |agg _=>cases hp
 |tuple _=>cases hp
 |ptr _ _=>cases hp
 |iQ _=>cases hp
 |func _ _=>cases hp
 |ia _=>cases hp
 |jn _=>cases hp
 |jA _ _=>cases hp
 |cS _ _ _ _ _=>cases hp
 |iJ _ _ _ _=>cases hp
 |pR _ _=>cases hp
 |mQ _=>cases hp
 |jF _ _ _=>cases hp
 |any=>cases hp
def B7.xc{j:J}{M:aG}{w:World}{x:ag}{v:Value}(h:gj j M w x v)(hp:x.plain=true):B7 w (ny j M w) x v:=by
 by_cases hag:∃cs,x = .agg cs
 ·obtain⟨cs,rfl⟩:=hag;obtain⟨us,h1,h2,h3⟩:=h.ml;refine⟨us,h1,h2,fun i c u hc hu => .xc (h3 i c u hc hu) ?_⟩
  simp only[ag.plain,bI] at hp;exact hp c (aQ hc)
 ·have e1:x.plain=x.plainCell:=by cases x<;>first|rfl|exact absurd ⟨_,rfl⟩ hag
  have:=fM.xc h (e1▸hp);cases x<;>first|exact absurd ⟨_,rfl⟩ hag|exact this
def Pa{j:J}{M:aG}{w:World}{x:ag}{v:Value}(h:gj j M w x v):gj j M w x.gb v:=by
 have hs:∀ {x:ag} {v:Value},gj j M w x v->gj j M w x.shut v:=fun {x v} h=>by
  cases x<;>first|exact h|exact .plain h.dR
 by_cases hag:∃cs,x = .agg cs
 ·obtain⟨cs,rfl⟩:=hag;obtain⟨us,rfl,h2,h3⟩:=h.ml;refine .agg (by simpa using h2) fun i c u hc hu=>?_
  rw[bf,aN] at hc;obtain⟨c0,hc0,rfl⟩:=hc;exact hs (h3 i c0 u hc0 hu)
 ·cases x<;>first|exact absurd ⟨_,rfl⟩ hag|exact h|exact .plain h.dR
section
variable {P:Program} {C:eK} {o:Oper} {br:Env} {M:aG} {j:J} {w:World} {a:Act} {x:ag×aG}
def US(hr:Rel j M w)(he:cn j M w br a){f:Nat}{first caps:Array Operand}{zs:List gV}(hop:o.op = .makeFunc (.func f) first caps)(hf:caps.isEmpty=true)(hz:uY first.toList=some zs)
  (h:ef C br M (.CQ f zs)=some x):∃v w',qZ P o a w v w'/\iL j M w x v w':=by
 simp only[ef] at h;split at h
 ·rename_i hp;cases h;obtain⟨h1,h2⟩:=tM he hz;have hf':caps = #[]:=by simpa using hf
  refine⟨.func (.func f) (first.map a.eval) #[],w,.inl ?_,.still hr (.pR (by simpa using h1) fun i c v hc hv=>?_)⟩
  ·simp[execOp,hop,Instr.makeFunc,hf']
  ·have hpc:=bI.1 hp c (aQ hc);rw[bf,aN] at hc;obtain⟨y,hy,rfl⟩:=hc;rw[iu,aN] at hv;obtain⟨z,hz',rfl⟩:=hv;exact .xc (Pa (h2 i y z hy (by simpa using hz'))) hpc
 ·cases h
def ON(hr:Rel j M w)(he:cn j M w br a){y i:Operand}{z z':gV}{t e:TypeId}{len n:Nat}(hop:o.op = .indexAddr t y i)(ht:P.underlying t=some (.array len e))(hn:pS P e=some n)
  (hz:eE y=some z) (hz':eE i=some z') (h:ef C br M (.wZ len n z z')=some x):∃v w',qZ P o a w v w'/\iL j M w x v w':=by
 simp only[ef] at h;have h1:=cX he hz;have h2:=cX he hz';split at h
 ·rename_i cs k m ez ez';obtain⟨⟨h0,hm,hle⟩,h⟩:=db h;cases h;rw[ez] at h1;rw[ez'] at h2;obtain⟨b,off,vs,hv,hc⟩:=h1.tU;refine⟨.pointer (some ⟨b,off+m.toNat*n,none⟩),w,.inl ?_,.still hr (.iQ (vs:=fun q=>vs (m.toNat*n+q)) fun q c hq=>?_)⟩
  ·simp[execOp,hop,Instr.indexAt,dL ht,hv,h2.fT,asIntOf,h0,hm,ji hn,lF,Instr.sureAddr]
  ·rw[cI] at hq;have h3:=hc _ c hq;rw[Nat.add_assoc];exact h3
 ·rename_i id off k m ez ez';obtain⟨⟨h0,hm⟩,h⟩:=db h;cases h;rw[ez] at h1;rw[ez'] at h2;obtain⟨b,h3,h4,h5,hv⟩:=h1.pt;refine⟨.pointer (some ⟨b,off+m.toNat*n,none⟩),w,.inl ?_,.still hr (.ptr h3 h4 h5)⟩;simp[execOp,hop,Instr.indexAt,dL ht,hv,h2.fT,asIntOf,h0,hm,ji hn,lF,Instr.sureAddr]
 ·cases h
def OY(hr:Rel j M w){id q sz:Nat}{cs:List ag}(hM:M[id]?=some (.cells cs))(hc:cs[q]?=some (.slice .c0 [])) :
  ∃j',Rel j' (M.set id (.cells (cs.set q (.slice (.own M.length) [])))++[.tick sz 0]) w/\Ext j M w j' (M.set id (.cells (cs.set q (.slice (.own M.length) [])))++[.tick sz 0]) w:=by
 have q0:Quiet w w:=⟨aC _,rfl,rfl,rfl⟩;have hr1:Rel (gD j M.length none) (M++[.tick sz 0]) w:=hr.push (ob:=none) (fun b h=>by cases h) q0 (fun _ _=>rfl) (fun h=>by cases h) (fun sz n b h h'=>by cases h')
 have hx1:Ext j M w (gD j M.length none) (M++[.tick sz 0]) w:=Ext.push (fun b h=>by cases h) q0 (fun _ _=>rfl)
 have hid:=aK hM;have hM1:(M++[dy.tick sz 0])[id]?=some (.cells cs):=by rw[zl hid]; exact hM
 obtain⟨b,vs,t,hj,hw,hl,hcs⟩:=hr.box id cs hM;have hj1:gD j M.length none id=some b:=by simp[gD,gP hid,hj]
 have hset:M.set id (dy.cells (cs.set q (.slice (.own M.length) [])))++[dy.tick sz 0]=(M++[dy.tick sz 0]).set id (dy.cells (cs.set q (.slice (.own M.length) []))):=by rw[List.set_append_left _ _ hid]
 rw[hset];have hh:∀j' M',Ext (gD j M.length none) (M++[.tick sz 0]) w j' M' w->Holds j' M' w b (.cells (cs.set q (.slice (.own M.length) []))):=fun j' M' hx=>⟨vs,t,hw,by simpa using hl,fun p c v hc' hv=>gj.mono hx ?_⟩
 ·exact⟨_,Rel.store hM1 rfl rfl hj1 hr1 q0 (fun _ _ _=>rfl) (fun vs t fr h=>⟨vs,fr,h,rfl⟩) hh,hx1.trans (Ext.store hM1 rfl rfl hj1 hr1 q0 (fun _ _ _=>rfl) (fun vs t fr h=>⟨vs,fr,h,rfl⟩))⟩
 ·by_cases hp:q=p
  ·subst hp;rw[gm (aK hc)] at hc';cases hc';have h1:=hcs q _ v hc hv
   obtain⟨A,hA⟩:∃A,v = .slice A 0 0:=by
    cases h1 with
    |plain h=>cases h
    |c0 A=>exact⟨A,rfl⟩
   rw[hA];exact .own (sz:=sz) (n:=0) (by simp) (by simp) (fM.nil _ _ _) fun _ => .inl ⟨by simp[gD],rfl,A,rfl⟩
  ·rw[gQ hp] at hc';exact gj.mono hx1 (hcs p c v hc' hv)
def JJ{cs new:List ag}{off p:Nat}{x:ag}(h:off+new.length<=cs.length)(hp:p<new.length):mF cs off (new.set p x)=(mF cs off new).set (off+p) x:=by
 apply dM;intro i;rw[p9 (by simpa using h)]
 by_cases hi:off+p=i
 ·subst hi;rw[gm (by rw[uH h]; omega),bc (by simp; omega),show off+p-off=p by omega,gm hp]
 ·rw[gQ hi,p9 h];simp only[fi];split
  ·rename_i hc;rw[gQ (by omega)]
  ·rfl
def OT(hr:Rel j M w)(he:cn j M w br a){y y':Operand}{z z':gV}{t:TypeId}{n sz p:Nat}(hop:o.op = .store t y y')(hn:pS P t=some n)(hz:eE y=some z)(hz':eE y'=some z')
  (h:ef C br M (.Bl sz p n z z')=some x):∃v w',qZ P o a w v w'/\iL j M w x v w':=by
 simp only[ef] at h;split at h
 ·rename_i id off e;split at h
  ·rename_i cs hM;obtain⟨new,jf,h⟩:=bl h;split at h
   ·rename_i hp;split at h
    ·rename_i hcond;cases h
     have hs:ef C br M (.store n z z')=some (.any,jj M id (.cells (mF cs off new))):=by
      simp only[ef,e,hM,jf,bV];rw[bc hcond]
     obtain⟨v,w',h1,j',h2,h3,h4⟩:=DH hr he hop hn hz hz' hs;rw[fK] at hM hp;have cz:=aK hM;have hpl:=aK hp;have hle:off+new.length<=cs.length:=by omega
     rw[gy] at h2 h3 h4;have hM2:(M.set id (.cells (mF cs off new)))[id]?=some (.cells (mF cs off new)):=dK cz
     have hc2:(mF cs off new)[off+p]?=some (.slice .c0 []):=by
      rw[p9 hle,bc (by omega),show off+p-off=p by omega]
      exact hp
     obtain⟨j'',k1,k2⟩:=OY (sz:=sz) h2 hM2 hc2;rw[List.set_set,fi] at k1 k2;rw[gy,gy,JJ hle hpl];exact⟨v,w',h1,j'',k1,h3.trans k2,.any _⟩
    ·cases h
   ·cases h
  ·cases h
 ·cases h
end
section
variable {P:Program} {C:eK} {o:Oper} {br:Env} {M:aG} {j:J} {w:World} {a:Act} {x:ag×aG}
def Pn{x:ag}{u v:Value}(h:valOf x=some u)(hr:gj j M w x v):v=u:=by
 unfold valOf at h;split at h
 ·cases h; exact hr.fT
 ·rename_i k n;cases h;obtain⟨vs,rfl,hl,hc⟩:=hr.ml;have hs:vs.size=1:=by simpa using hl.symm
  have h0:vs[0]?=some (vs[0]'(by omega)):=bd (by omega)
  have h1:=(hc 0 _ _ rfl h0).fT;congr 1;apply Array.ext
  ·simpa using hs
  ·intro i h2 h3;have:i=0:=by omega
   subst this;simpa using h1
 ·cases h
def gj.MP{u v:Value}(h:gj j M w (.raw u) v):v=u:=by cases h with|plain h=>cases h; rfl
def U1(hr:Rel j M w)(he:cn j M w br a){t:TypeId}{y:Operand}{z:gV}{d:TypeDesc}(hop:o.op = .makeInterface t y)(hu:P.underlying t=some d)(hd:∀m,d ≠ .interface m)(hz:eE y=some z)
  (h:ef C br M (.iface t z)=some x):∃v w',qZ P o a w v w'/\iL j M w x v w':=by
 simp only[ef] at h;have h1:=cX he hz;split at h
 ·rename_i id off e;cases h;rw[e] at h1;obtain⟨b,_,hc,hj,hy⟩:=h1.pt;refine⟨_,w,.inl ?_,.still hr (.jF hc hj)⟩;simp only[execOp,hop,Instr.makeInterface,hy];cases d<;>first|exact absurd rfl (hd _)|simp[dL hu]
 obtain⟨v,hv,h⟩:=bl h;cases h;have hy:=Pn hv h1;refine⟨.iface t v,w,.inl ?_,.still hr (.plain (.raw _ rfl))⟩;simp only[execOp,hop,Instr.makeInterface,hy];cases d<;>first|exact absurd rfl (hd _)|simp[dL hu]
def U8(hr:Rel j M w)(he:cn j M w br a){y:Operand}{z:gV}(hop:o.op = .panic y)(hz:eE y=some z)(h:ef C br M (.raise z)=some x) :
  ∃u,(execOp a.eval o).run P w = .halt (.panic u) w/\Hj j M w x u w:=by
 simp only[ef] at h;have h1:=cX he hz;split at h
 ·rename_i v e;split at h
  ·rename_i t u;cases h;rw[e] at h1;refine⟨.iface t u,?_,rfl,j,hr,Ext.refl j M w⟩;have:a.eval y = .iface t u:=h1.MP;simp[execOp,hop,Instr.panic,this]
  ·cases h
 ·cases h
end
section
variable {P:Program} {C:eK} {o:Oper} {br:Env} {M:aG} {j:J} {w:World} {a:Act} {x:ag×aG}
def Va(he:cn j M w br a){y:Operand}{z:gV}(hz:Qa y=some z):gj j M w (z.ev br) (a.eval y):=by
 unfold Qa at hz;split at hz
 ·cases hz;exact .plain (.raw _ rfl)
 ·exact cX he hz
def QB{n:Nat}(he:cn j M w br a):∀ {parts:List (Nat×Operand)} {ps:List (Nat×Nat×gV)} {cs cs':List ag} {cells:Array Value},
  xD n parts=some ps->lx br cs ps=some cs'->RC j M w cs cells ->
  ∃cells',Instr.fill (fun i=>some (i*n,n)) cells (parts.map fun p=>(p.1,a.eval p.2))=some cells'/\RC j M w cs' cells':=by
 intro parts;induction parts with
 |nil =>
  intro ps cs cs' cells h1 h2 h3;simp[xD] at h1; subst h1;simp[lx] at h2; subst h2;exact⟨cells,rfl,h3⟩
 |cons p r ih =>
  intro ps cs cs' cells h1 h2 h3;obtain⟨i,y⟩:=p;simp only[xD] at h1;obtain⟨z,hz,h1⟩:=ba h1;obtain⟨l,hl,h1⟩:=ba h1;cases h1;simp only[lx] at h2;obtain⟨new,jf,h2⟩:=bl h2;split at h2
  ·rename_i hc;obtain⟨c1,c2⟩:=hc;have hrc:=uZ (cX he hz) jf;obtain⟨cells',e1,e2⟩:=ih hl h2 (h3.write (off:=i*n) hrc (by omega))
   refine⟨cells',?_,e2⟩;have hs1:=hrc.1;have hs2:=h3.1;simp only[aP,Instr.fill];rw[aH (by simp; omega)]
   exact e1
  ·cases h2
def OI(hr:Rel j M w)(he:cn j M w br a){t e:TypeId}{len n:Nat}{parts:Array (Nat×Operand)}{i:TypeInfo}{zv:Value}{l:List ag}{ps:List (Nat×Nat×gV)}(hop:o.op = .build t parts)
  (ht:P.underlying t=some (.array len e)) (hi:P.info? t=some i) (hzv:i.zero=some zv) (hl:sy zv.cells.toList=some l) (hn:pS P e=some n) (hps:xD n parts.toList=some ps)
  (h:ef C br M (.build l ps)=some x):∃v w',qZ P o a w v w'/\iL j M w x v w':=by
 simp only[ef] at h;obtain⟨cs,hcs,h⟩:=bl h;cases h;obtain⟨h1,h2⟩:=pF (j:=j) (M:=M) (w:=w) hl;obtain⟨cells',e1,e2⟩:=QB (n:=n) he hps hcs (cells:=zv.cells) ⟨by simpa using h1,fun i c v hc hv=>h2 i c v hc (by simpa using hv)⟩
 refine⟨.agg cells',w,.inl ?_,.still hr (.agg e2.1 e2.2)⟩;have e1':Instr.fill (fun i=>some (i*n,n)) zv.cells (parts.map fun p=>(p.1,a.eval p.2)).toList=some cells':=by simpa using e1
 simp only[execOp,hop,Instr.build,zeroValue,Sem.run_bind,pg hi,Result.andThen_ok,hzv,Sem.run_pure,dL ht,ji hn];simp only[e1',Sem.run_pure,Result.andThen_ok]
def KC{a b:ag}{r:Bool}(h:mc .i a b=some r):∃k x y,a = .int k x/\b = .int k y/\r=(x==y):=by
 cases a<;>cases b<;>first
  |(simp only[mc] at h
    split at h
    ·rename_i hk; subst hk; injection h with h; exact⟨_,_,_,rfl,rfl,h.symm⟩
    ·cases h)
  |cases h
def BC{d:Nat}{e:TypeId}{k0:IntKind}(hk:P.underlying e=some (.int k0))(hc1:P.cellsOf e=1){cs ds:List ag}{us vs:Array Value}(hc:RC j M w cs us)(hd:RC j M w ds vs):∀(n k:Nat){r:Bool},ko (List.replicate n .i) (cs.drop k) (ds.drop k)=some r ->
  (Op.eqItems (d+1) e (P.cellsOf e) us vs (List.range' k n)).run P w = .ok r w
 |0,k,r,h2=>by
  unfold ko at h2;split at h2<;>simp_all [Op.eqItems]
 |n+1,k,r,h2=>by
  have hk1:k<cs.length:=by
   rcases bD k cs.length with h|h
   ·exact h
   ·rw[iR h,iM] at h2; simp[ko] at h2
  have hk2:k<ds.length:=by
   rcases bD k ds.length with h|h
   ·exact h
   ·rw[iR h,di hk1,iM] at h2;simp[ko] at h2
  rw[di hk1,di hk2,iM] at h2;simp only[ko] at h2;obtain⟨e1,he1,h2⟩:=bl h2;obtain⟨e2,he2,h2⟩:=bl h2;cases h2;have hlu:k<us.size:=by have:=hc.1; omega
  have hlv:k<vs.size:=by have:=hd.1; omega
  have hu:=bd hlu;have hv:=bd hlv;have ih:=BC (d:=d) hk hc1 hc hd n (k+1) he2;have hr1:=hc.2 k _ _ (ai hk1) hu;have hr2:=hd.2 k _ _ (ai hk2) hv;have hag:B8 P e=some false:=by simp[B8,hk]
  have p1:(part e us (k*P.cellsOf e)).run P w = .ok us[k] w:=by simp[part,kL hag,hc1,hu]
  have p2:(part e vs (k*P.cellsOf e)).run P w = .ok vs[k] w:=by simp[part,kL hag,hc1,hv]
  have p3:(Op.equalIn (d+1) e us[k] vs[k]).run P w = .ok e1 w:=by
   obtain⟨kk,x,y,e3,e4,rfl⟩:=KC he1;rw[e3] at hr1; rw[e4] at hr2;rw[hr1.fT,hr2.fT];exact run_equalIn_int w d e _ _ x y hk
  rw[List.range'_succ];simp only[Op.eqItems,Sem.run_bind,p1,p2,p3,Result.andThen_ok];cases e1
  ·simp
  ·simpa using ih
def UX(hr:Rel j M w)(he:cn j M w br a){y y':Operand}{z z':gV}{t t' e:TypeId}{len:Nat}{k0:IntKind}(hop:o.op = .binOp .eql t y y' t')(ht:P.underlying t=some (.array len e))(hk:P.underlying e=some (.int k0))(hs:pS P e=some 1)
  (hz:eE y=some z) (hz':eE y'=some z') (h:ef C br M (.Xf (List.replicate len .i) false z z')=some x):∃v w',qZ P o a w v w'/\iL j M w x v w':=by
 simp only[ef] at h;have h1:=cX he hz;have h2:=cX he hz';split at h
 ·rename_i cs ds ez ez';obtain⟨r,hee,h⟩:=bl h;cases h;rw[ez] at h1;rw[ez'] at h2;obtain⟨us,hus,hul,huc⟩:=h1.ml;obtain⟨vs,hvs,hvl,hvc⟩:=h2.ml;obtain⟨inf,hinf,hsz⟩:=D1 hs;have hc1:P.cellsOf e=1:=by simp[Program.cellsOf,hinf,hsz]
  have heq:(Op.equal t (.agg us) (.agg vs)).run P w = .ok r w:=by
   unfold Op.equal;rw[show Op.maxDepth=9998+1+1 from rfl,run_equalIn_array w (9998+1) us vs ht hinf,mV]
   exact BC (d:=9998) hk hc1 ⟨hul,huc⟩ ⟨hvl,hvc⟩ len 0 (by simpa using hee)
  have hgt:P.eqGuardType P.depth t=false:=by
   unfold Program.depth;rw[show 2*(P.types.size+Made.depth)+2=(2*(P.types.size+Made.depth))+1+1 from rfl,Program.eqGuardType,ht]
   simp only[Program.eqGuardType,hk]
  have hguard:∀op,(eqGuard op t y y' (.agg us) (.agg vs)).run P w = .ok () w:=by
   intro op;unfold eqGuard;cases op<;>simp[hgt]
  exact⟨.bool r,w,.inl (by simp[execOp,hop,hus,hvs,hguard,binOp,heq]),.still hr (.plain (.bool _))⟩
 ·cases h
def tK{l:List ag}(hp:0<l.length)(h1:l.all ag.plainCell=true):(ag.agg l).norm.cells=l:=by
 match l with
 | []=>simp at hp
 | [c] =>
  simp only[lq,List.all_nil,gq] at h1
  show c.cells=[c]
  cases c<;>first|rfl|cases h1
 |_::_::_=>rfl
def UG(z:Array Value)(n k:Nat)(h:k<n)(hz:0<z.size):(madeCells z n)[k]?=z[k % z.size]?:=by
 have hm:k % z.size<z.size:=Nat.mod_lt _ hz;rw[bd hm];simp[madeCells,h,hm]
def Nr(w:World)(ib:Nat->Nat->Prop){v:Value}{c:ag}(h:J1 v=some c):fM w ib c.shut v:=by
 unfold J1 at h
 split at h<;>first
  |(cases h; first|exact .bool _|exact .int _ _|exact .str _|exact .raw _ rfl|exact fM.nil _ _ _)
  |cases h
def Hl:∀ {vs:List Value} {l:List ag},sy vs=some l->∀(i:Nat)(c:ag)(v:Value),l[i]?=some c->vs[i]?=some v->J1 v=some c
 | [],l,h,i,c,v,h1,h2=>by simp at h2
 |u::r,l,h,i,c,v,h1,h2=>by
  simp only[sy] at h;obtain⟨x,hx,h⟩:=ba h;obtain⟨l',hl,h⟩:=ba h;cases h;cases i with
  |zero=>simp at h1 h2; subst h1; subst h2; exact hx
  |succ i=>exact Hl hl i c v (by simpa using h1) (by simpa using h2)
def MA{t e:TypeId}{i:TypeInfo}{zv:Value}{l:List ag}{y:Operand}{k:Int}{kk:IntKind}(hop:o.op = .makeSlice t y y)(ht:P.underlying t=some (.slice e))(hi:P.info? e=some i)(hzv:i.zero=some zv)
  (hl:sy zv.cells.toList=some l) (c1:l.length=i.size) (c2:0<i.size) (c3:i.bytes<=8*i.size) (hev:a.eval y = .int kk k) (h0:0<=k) (hroom:cu k.toNat (8*(l.map ag.shut).length)) (hpl:(l.map ag.shut).all ag.plainCell=true) :
  ∃row:Array Value,(execOp a.eval o).run P w = .ok (.value (.slice (some ⟨w.heap.size,0,none⟩) k.toNat k.toNat)) (w.alloc (.cells row e))/\row.size=k.toNat*i.size /\
   ∀ib (w':World) (q:Nat) (x:ag) (p:Nat) (c:ag),(List.replicate k.toNat (ag.agg (l.map ag.shut)).norm)[q]?=some x->x.cells[p]?=some c->∃v,row[q*i.size+p]?=some v/\fM w' ib c v:=by
 have hls:(l.map ag.shut).length=i.size:=by simpa using c1
 have hzs:zv.cells.size=i.size:=by
  have:=(pF (j:=⟨fun _=>none,fun _ _=>False⟩) (M:=[]) (w:=w) hl).1
  simp at this; omega
 unfold cu at hroom;rw[hls] at hroom
 have hb:i.bytes*k.toNat<=2 ^ 44:=by
  refine aW ?_ hroom;rw[Nat.mul_comm];exact Nat.mul_le_mul_left _ c3
 have hk44:k.toNat<=2 ^ 44:=aW (fz _ (by omega)) hroom
 have hrun:=run_make (P:=P) w t e i zv ht hi hzv kk kk k k h0 (cp _) (by
  have:((i.bytes*k.toNat:Nat):Int)<=2 ^ 44:=by exact_mod_cast hb
  rw[Int.natCast_mul,nD h0] at this;omega) (by omega)
 refine⟨madeCells zv.cells (k.toNat*i.size),by simp[execOp,hop,hev,hrun],size_madeCells _ _,fun ib w' q x p c hx hc=>?_⟩
 rw[jJ] at hx;split at hx
 ·rename_i hq;cases hx;rw[tK (by omega) hpl] at hc
  have hp:p<i.size:=by rw[<-hls]; exact aK hc
  have cz:q*i.size+p<k.toNat*i.size:=by
   have:(q+1)*i.size<=k.toNat*i.size:=bj _ hq;rw[bJ,fN] at this;omega
  rw[UG _ _ _ cz (by omega),hzs,Nat.add_comm,Nat.add_mul_mod_self_right,Nat.mod_eq_of_lt hp]
  rw[bf,aN] at hc;obtain⟨c0,hc0,rfl⟩:=hc;have hpz:p<zv.cells.size:=by omega
  have hv:=bd hpz;refine⟨_,hv,?_⟩;exact Nr w' ib (Hl hl p c0 _ hc0 (by simp))
 ·cases hx
def U6(hr:Rel j M w)(he:cn j M w br a){t e:TypeId}{i:TypeInfo}{zv:Value}{l:List ag}{y:Operand}{z:gV}(hop:o.op = .makeSlice t y y)(ht:P.underlying t=some (.slice e))(hi:P.info? e=some i)(hzv:i.zero=some zv)
  (hl:sy zv.cells.toList=some l) (hz:eE y=some z) (c1:l.length=i.size) (c2:0<i.size) (c3:i.bytes<=8*i.size) (h:ef C br M (.mkS (l.map ag.shut) z)=some x):∃v w',qZ P o a w v w'/\iL j M w x v w':=by
 simp only[ef] at h;have h1:=cX he hz;split at h
 ·rename_i kk k ek;obtain⟨⟨h0,hroom,hpl⟩,h⟩:=db h;cases h;rw[ek] at h1;obtain⟨row,hrun,hsz,hel⟩:=MA (w:=w) hop ht hi hzv hl c1 c2 c3 h1.fT h0 hroom hpl;have hls:(l.map ag.shut).length=i.size:=by simpa using c1
  obtain⟨q,hb,jf⟩:=pv (w:=w) (.cells row e (0,0));refine⟨_,{ w with heap:=w.heap.push (.cells row e (0,0)) },.inl hrun,?_⟩
  have ext:Ext j M w j M { w with heap:=w.heap.push (.cells row e (0,0)) }:=Ext.grow q.size rfl rfl rfl hb
  have rel:Rel j M { w with heap:=w.heap.push (.cells row e (0,0)) }:=hr.grow q.size rfl rfl rfl hb
  refine⟨j,rel,ext,.plain (.slice _ _ _ _ w.heap.size 0 i.size (fun p=>(row[p]?).getD undef) (by simp) (aC _) (fun _=>rfl) (fun x hx=>?_) (fun n y k c hn hk=>?_) (fun n y k c hn hk=>?_))⟩
  ·obtain⟨_,rfl⟩:=List.mem_replicate.1 hx;rw[tK (by omega) hpl,hls]
  ·obtain⟨u,hu,_⟩:=hel (ny j M { w with heap:=w.heap.push (.cells row e (0,0)) }) { w with heap:=w.heap.push (.cells row e (0,0)) } n y k c hn hk
   refine⟨?_,by simp,fun id hid hj=>?_,fun hx=>absurd (hr.Aq _ _ hx) (im _)⟩
   ·simp only[World.cell?,jf,aL,hu];rfl
   ·have:=hr.lt id _ hid hj;omega
  ·obtain⟨u,hu,hru⟩:=hel (ny j M { w with heap:=w.heap.push (.cells row e (0,0)) }) { w with heap:=w.heap.push (.cells row e (0,0)) } n y k c hn hk
   rw[hu];exact hru
 ·cases h
def ZE(hr:Rel j M w)(he:cn j M w br a){t e:TypeId}{i:TypeInfo}{zv:Value}{l:List ag}{y:Operand}{z:gV}(hop:o.op = .makeSlice t y y)(ht:P.underlying t=some (.slice e))(hi:P.info? e=some i)(hzv:i.zero=some zv)
  (hl:sy zv.cells.toList=some l) (hz:eE y=some z) (c1:l.length=i.size) (c2:0<i.size) (c3:i.bytes<=8*i.size) (h:ef C br M (.OC (l.map ag.shut) z)=some x):∃v w',qZ P o a w v w'/\iL j M w x v w':=by
 simp only[ef] at h;have h1:=cX he hz;split at h
 ·rename_i kk k ek;obtain⟨⟨h0,hroom,hpl⟩,h⟩:=db h;cases h;rw[ek] at h1;obtain⟨row,hrun,hsz,hel⟩:=MA (w:=w) hop ht hi hzv hl c1 c2 c3 h1.fT h0 hroom hpl;have hls:(l.map ag.shut).length=i.size:=by simpa using c1
  rw[hls];obtain⟨q,hb,jf⟩:=pv (w:=w) (.cells row e (0,0));have hob:∀b,some w.heap.size=some b->w.heap.size<=b/\b<({ w with heap:=w.heap.push (.cells row e (0,0)) }:World).heap.size:=fun b h=>by cases h; simp
  have ext:Ext j M w (gD j M.length (some w.heap.size)) (M++[.arr i.size 0 (List.replicate k.toNat (ag.agg (l.map ag.shut)).norm)]) { w with heap:=w.heap.push (.cells row e (0,0)) }:=Ext.push (fun b hb=>(hob b hb).1) q hb
  refine⟨_,{ w with heap:=w.heap.push (.cells row e (0,0)) },.inl hrun,gD j M.length (some w.heap.size),hr.push hob q hb (fun h=>by cases h) (fun sz n b h _=>by cases h) (fun sz0 v0 xs0 he=>?_),ext,?_⟩
  ·injection he with e1 e2 e3
   subst e1; subst e2; subst e3;refine .inr ⟨w.heap.size,row,e,rfl,jf,by simp[hsz],fun x hx=>?_,fun j' M' hx q0 x p c hq hp=>hel (ny j' M' { w with heap:=w.heap.push (.cells row e (0,0)) }) { w with heap:=w.heap.push (.cells row e (0,0)) } q0 x p c hq hp⟩
   obtain⟨_,rfl⟩:=List.mem_replicate.1 hx;rw[tK (by omega) hpl,hls]
  ·refine .cS (.inl ⟨_,_,_,by rw[bK],by omega⟩) (by simp) (fun bx hbx=>by rw[mr] at hbx; cases hbx; rfl) fun sz' v' ys hx=>?_
   rw[mr] at hx; injection hx with hx; injection hx with e1 e2 e3
   subst e1; subst e2; subst e3;exact⟨aC _,fun _=>⟨rfl,cV _,by simp,.inr ⟨w.heap.size,k.toNat,row,e,by simp[gD],by simp,by omega,jf,by rw[aL]; omega⟩⟩⟩
 ·cases h
end
end
end Go.Abs
