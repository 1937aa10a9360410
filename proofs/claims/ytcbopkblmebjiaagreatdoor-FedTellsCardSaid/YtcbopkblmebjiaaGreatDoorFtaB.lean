import Derived.Test.YtcbopkblmebjiaaGreatDoorFtaA
set_option linter.all false
open Go.Proofs.Tryz
set_option maxRecDepth 100000
namespace Go.Proofs.YtcbopkblmebjiaaGreatDoor
open Go Go.Abs
def fT{o:Option eX}{n:Nat}{r:List sm}{c:cD}(h:o=some (eX.mk n r c):=by kernel_rfl):o=some (eX.mk n r (sub c 0)):=okc h
def gr(r k:cD)(h:At r 0 k:=by exact aeX _):eqs r 0 k:=vY r k 0 h
def f9P{q:Prop}(r k:cD)(z:q)(h:At r 0 k:=by exact aeX _):=cn (gr r k h) z
def acE:Ko [] f65:=fb
def b65:=acE.1
def ahd:=eX.mk 1 [.tmp 2] (sub b65 0)
def S6:Ko [] f232:=fb
def agc:=S6.1
def Zq:=eX.mk 2 [.tmp 4,.tmp 5] (sub agc 0)
def Sx:Ko [] f177:=fb
def afK:=Sx.1
def Y6:=eX.mk 2 [.fI 4 6,.tmp 5] (sub afK 0)
def SR:Ko [] f216:=fb
def afY:=SR.1
def Zh:=eX.mk 2 [.fI 4 6,.tmp 5] (sub afY 0)
def RP:Ko [] f126:=fb
def aaC:=RP.1
def EG:=eX.mk 1 [.tmp 2] (sub aaC 0)
abbrev Mo:=sub aaC 15
def ah7:Ko [] f253:=fb
def ake:=ah7.1
def agQ:=eX.mk 3 [.tmp 6,.tmp 7] (sub ake 0)
def Tb:Ko [] f254:=fb
def agi:=Tb.1
def Zw:=eX.mk 2 [.tmp 4] (sub agi 0)
def RZ:Ko [] f138:=fb
def afj:=RZ.1
def YM:=eX.mk 2 [.tmp 4] (sub afj 0)
def S2:Ko [] f228:=fb
def af7:=S2.1
def Zm:=eX.mk 2 [.tmp 4,.tmp 5] (sub af7 0)
def pg:=by
 have h:=f9P b65 acE.1 (f9P agc S6.1 (f9P afK Sx.1 (f9P afY SR.1 (f9P aaC RP.1 (f9P agi Tb.1 (f9P afj RZ.1 (gr af7 S2.1)))))));simp only[fb,acE,S6,Sx,SR,RP,Tb,RZ,S2,zj,seval] at h;exact h
def E65:=pg.1
def ajW:=pg.2.1
def aac:=pg.2.2.1
def Vc:=pg.2.2.2.1
def vO:=pg.2.2.2.2.1
def aj0:=pg.2.2.2.2.2.1
def ajC:=pg.2.2.2.2.2.2.1
def ajT:=pg.2.2.2.2.2.2.2
def Sv:Ko [] f175:=fb
def afJ:=Sv.1
def Y4:=eX.mk 3 [.tmp 6,.tmp 7] (sub afJ 0)
def Ru:Ko [] f106:=fb
def ae4:=Ru.1
def Yw:=eX.mk 2 [.fI 4 6,.tmp 5] (sub ae4 0)
def SH:Ko [9] f202:=fb
def aaI:=SH.1
def QL:=eX.mk 2 [.tmp 4] (sub aaI 0)
def aiv:wT [9] f202 QL:=fT
abbrev WL:=sub aaI 7
def S9:Ko [] f248:=fb
def agf:=S9.1
def Zu:=eX.mk 2 [.tmp 4] (sub agf 0)
def SX:Ko [1000234,1000249] f223:=fb
def af2:=SX.1
def QO:=eX.mk 2 [] (sub af2 0)
def aix:wT [1000234,1000249] f223 QO:=fT
def Sy:Ko [1000234,1000233] f178:=fb
def afL:=Sy.1
def QI:=eX.mk 2 [] (sub afL 0)
def ait:wT [1000234,1000233] f178 QI:=fT
def SY:Ko [1000218,1000250,2000223] f224:=fb
def af3:=SY.1
def QP:=eX.mk 4 [] (sub af3 0)
def aiy:wT [1000218,1000250,2000223] f224 QP:=fT
def S0:Ko [1000218,1000252,2000223] f226:=fb
def af5:=S0.1
def QR:=eX.mk 3 [] (sub af5 0)
def aiz:wT [1000218,1000252,2000223] f226 QR:=fT
def ph:=by
 have h:=f9P afJ Sv.1 (f9P ae4 Ru.1 (f9P aaI SH.1 (f9P agf S9.1 (f9P af2 SX.1 (f9P afL Sy.1 (f9P af3 SY.1 (gr af5 S0.1)))))));simp only[fb,Sv,Ru,SH,S9,SX,Sy,SY,S0,zj,seval] at h;exact h
def Jy:=ph.1
def ajv:=ph.2.1
def BV:=ph.2.2.1
def ajY:=ph.2.2.2.1
def aae:=ph.2.2.2.2.1
def aad:=ph.2.2.2.2.2.1
def PE:=ph.2.2.2.2.2.2.1
def Vd:=ph.2.2.2.2.2.2.2
def S1:Ko [] f227:=fb
def af6:=S1.1
def Zl:=eX.mk 2 [] (sub af6 0)
def SV:Ko [] f222:=fb
def af1:=SV.1
def Zk:=eX.mk 3 [.tmp 6] (sub af1 0)
def S4:Ko [] f230:=fb
def aga:=S4.1
def Zo:=eX.mk 2 [.tmp 4] (sub aga 0)
def Rr:Ko [] f104:=fb
def ae3:=Rr.1
def Yv:=eX.mk 2 [.fI 4 3,.tmp 5] (sub ae3 0)
def Sr:Ko [] f171:=fb
def afF:=Sr.1
def Y0:=eX.mk 4 [.fI 8 3,.tmp 9,.tmp 10] (sub afF 0)
def Ss:Ko [] f172:=fb
def afG:=Ss.1
def Y1:=eX.mk 4 [.fI 8 3,.tmp 9] (sub afG 0)
def Su:Ko [] f174:=fb
def afI:=Su.1
def Y3:=eX.mk 3 [.fI 6 3,.tmp 7,.tmp 8] (sub afI 0)
def Tc:Ko [] f255:=fb
def aaK:=Tc.1
def Zx:=eX.mk 2 [.tmp 4] (sub aaK 0)
abbrev WN:=sub aaK 7
def oj:=by
 have h:=f9P af6 S1.1 (f9P af1 SV.1 (f9P aga S4.1 (f9P ae3 Rr.1 (f9P afF Sr.1 (f9P afG Ss.1 (f9P afI Su.1 (gr aaK Tc.1)))))));simp only[fb,S1,SV,S4,Rr,Sr,Ss,Su,Tc,zj,seval] at h;exact h
def aaf:=oj.1
def Hf:=oj.2.1
def aeF:=oj.2.2.1
def aev:=oj.2.2.2.1
def aaa:=oj.2.2.2.2.1
def aab:=oj.2.2.2.2.2.1
def PC:=oj.2.2.2.2.2.2.1
def JB:=oj.2.2.2.2.2.2.2
def S3:Ko [] f229:=fb
def af8:=S3.1
def Zn:=eX.mk 2 [.tmp 4] (sub af8 0)
def Te:Ko [] f257:=fb
def agk:=Te.1
def Zz:=eX.mk 5 [.tmp 6] (sub agk 0)
def ah9:Ko [] f278:=fb
def akh:=ah9.1
def agU:=eX.mk 2 [.tmp 4] (sub akh 0)
def Td:Ko [] f256:=fb
def agj:=Td.1
def Zy:=eX.mk 2 [.tmp 4] (sub agj 0)
def S5:Ko [] f231:=fb
def agb:=S5.1
def Zp:=eX.mk 3 [.tmp 6] (sub agb 0)
def Sw:Ko [] f176:=fb
def aaF:=Sw.1
def Y5:=eX.mk 5 [.fI 10 3,.tmp 11,.tmp 12] (sub aaF 0)
abbrev MO:=sub aaF 86
def ah8:Ko [] f258:=fb
def akf:=ah8.1
def agR:=eX.mk 3 [.tmp 6,.tmp 7] (sub akf 0)
def Tf:Ko [] f259:=fb
def agl:=Tf.1
def ZA:=eX.mk 2 [.tmp 4] (sub agl 0)
def acA:Ko [] f60:=fb
def b60:=acA.1
def ahb:=eX.mk 2 [.tmp 4] (sub b60 0)
def RO:Ko [] f124:=fb
def afb:=RO.1
def YF:=eX.mk 1 [.tmp 2] (sub afb 0)
def om:=by
 have h:=f9P af8 S3.1 (f9P agk Te.1 (f9P agj Td.1 (f9P agb S5.1 (f9P aaF Sw.1 (f9P agl Tf.1 (f9P b60 acA.1 (gr afb RO.1)))))));simp only[fb,S3,Te,Td,S5,Sw,Tf,acA,RO,zj,seval] at h;exact h
def ajU:=om.1
def aeH:=om.2.1
def aj1:=om.2.2.1
def ajV:=om.2.2.2.1
def yD:=om.2.2.2.2.1
def aj2:=om.2.2.2.2.2.1
def E60:=om.2.2.2.2.2.2.1
def ajx:=om.2.2.2.2.2.2.2
def acK:Ko [] f71:=fb
def b71:=acK.1
def ahh:=eX.mk 2 [.tmp 4] (sub b71 0)
def RV:Ko [] f133:=fb
def afg:=RV.1
def YJ:=eX.mk 2 [.tmp 4] (sub afg 0)
def RX:Ko [] f134:=fb
def afh:=RX.1
def YK:=eX.mk 2 [.tmp 4] (sub afh 0)
def ah4:Ko [] f135:=fb
def aka:=ah4.1
def agK:=eX.mk 2 [.tmp 4] (sub aka 0)
def ah5:Ko [] f136:=fb
def akb:=ah5.1
def agL:=eX.mk 3 [.tmp 6] (sub akb 0)
def Sm:Ko [1000218] f168:=fb
def afC:=Sm.1
def yo:=eX.mk 4 [.tmp 8,.tmp 9,.tmp 10] (sub afC 0)
def ais:wT [1000218] f168 yo:=fT
def S8:Ko [] f246:=fb
def age:=S8.1
def Zt:=eX.mk 2 [.tmp 4] (sub age 0)
def SS:Ko [] f217:=fb
def afZ:=SS.1
def Zi:=eX.mk 2 [.tmp 4] (sub afZ 0)
def SU:Ko [] f219:=fb
def af0:=SU.1
def Zj:=eX.mk 2 [.tmp 3] (sub af0 0)
def ah6:Ko [] f221:=fb
def akd:=ah6.1
def agO:=eX.mk 2 [.tmp 4] (sub akd 0)
def acR:Ko [] f78:=fb
def b78:=acR.1
def ahj:=eX.mk 0 [.fI 0 3] (sub b78 0)
def oo:=by
 have h:=f9P b71 acK.1 (f9P afg RV.1 (f9P afh RX.1 (f9P afC Sm.1 (f9P age S8.1 (f9P afZ SS.1 (f9P af0 SU.1 (gr b78 acR.1)))))));simp only[fb,acK,RV,RX,Sm,S8,SS,SU,acR,zj,seval] at h;exact h
def E71:=oo.1
def aey:=oo.2.1
def ajA:=oo.2.2.1
def Hc:=oo.2.2.2.1
def aeG:=oo.2.2.2.2.1
def ajR:=oo.2.2.2.2.2.1
def ajS:=oo.2.2.2.2.2.2.1
def E78:=oo.2.2.2.2.2.2.2
def Sg:Ko [] f156:=fb
def Vw:=Sg.1
def YU:=eX.mk 2 [.tmp 4,.tmp 5] (sub Vw 0)
abbrev WI:=sub Vw 19
abbrev adX:=sub Vw 39
def Sk:Ko [] f161:=fb
def afA:=Sk.1
def YX:=eX.mk 1 [.tmp 2,.tmp 3,.tmp 4] (sub afA 0)
def Bq:=by
 have h:=And.intro (gr Vw Sg.1) (gr afA Sk.1);simp only[fb,Sg,Sk,zj,seval] at h;exact h
def Jv:=Bq.1
def U7:=Bq.2
end Go.Proofs.YtcbopkblmebjiaaGreatDoor
set_option maxRecDepth 100000
namespace Go.Proofs.YtcbopkblmebjiaaGreatDoor
open Go Go.Abs
def SD:Ko [] f193:=fb
def afO:=SD.1
def L4:=eX.mk 2 [.tmp 4,.tmp 5] (sub afO 0)
def S7:Ko [] f240:=fb
def agd:=S7.1
def L6:=eX.mk 2 [.tmp 4,.tmp 5] (sub agd 0)
def Tg:Ko [] f261:=fb
def agm:=Tg.1
def HX:=eX.mk 2 [.tmp 4] (sub agm 0)
def yE:=by
 have h:=And.intro (gr afO SD.1) (And.intro (gr agd S7.1) (gr agm Tg.1));simp only[fb,SD,S7,Tg,zj,seval] at h;exact h
def ajN:=yE.1
def Ve:=yE.2.1
def Vf:=yE.2.2
end Go.Proofs.YtcbopkblmebjiaaGreatDoor
set_option maxRecDepth 100000
namespace Go.Proofs.YtcbopkblmebjiaaGreatDoor
open Go Go.Abs
def SE:Ko [] f195:=fb
def aaH:=SE.1
def Y9:=eX.mk 2 [.tmp 4] (sub aaH 0)
abbrev WK:=sub aaH 15
def Gc:=by
 have h:=gr aaH SE.1;simp only[fb,SE,zj,seval] at h;exact h
end Go.Proofs.YtcbopkblmebjiaaGreatDoor
set_option maxRecDepth 100000
namespace Go.Proofs.YtcbopkblmebjiaaGreatDoor
open Go Go.Abs
def abP:Ko [] f13:=fb
def b13:=abP.1
def agJ:=eX.mk 1 [.tmp 2] (sub b13 0)
def E13:=by
 have h:=gr b13 abP.1;simp only[fb,abP,zj,seval] at h;exact h
end Go.Proofs.YtcbopkblmebjiaaGreatDoor
set_option maxRecDepth 100000
namespace Go.Proofs.YtcbopkblmebjiaaGreatDoor
open Go Go.Abs
set_option maxHeartbeats 4000000 in
def SJ:Ko [] f204:=⟨_,stg rfl (by cbv) (by (repeat' first|apply sgs|apply sgb|apply sgl|apply sgc); all_goals first|cbv|(apply sgr; cbv; cbv; (repeat (apply sgk; cbv)); exact sgn; cbv))⟩
def afS:=SJ.1
def QM:=eX.mk 2 [.tmp 4] (sub afS 0)
def SI:Ko [] f203:=fb
def afR:=SI.1
def Zb:=eX.mk 3 [.tmp 6,.tmp 7] (sub afR 0)
def R9:Ko [] f149:=fb
def afq:=R9.1
def uF:=eX.mk 2 [.tmp 4] (sub afq 0)
def acT:Ko [] f80:=fb
def b80:=acT.1
def Gw:=eX.mk 1 [.tmp 2] (sub b80 0)
def acO:Ko [] f75:=fb
def b75:=acO.1
def Ea:=eX.mk 1 [.tmp 2] (sub b75 0)
def R6:Ko [] f146:=fb
def afo:=R6.1
def YT:=eX.mk 1 [.tmp 2,.tmp 3] (sub afo 0)
def R7:Ko [] f147:=fb
def afp:=R7.1
def pY:=eX.mk 4 [.tmp 8] (sub afp 0)
set_option maxHeartbeats 4000000 in
def SG:Ko [] f201:=⟨_,stg rfl (by cbv) (by (repeat' first|apply sgs|apply sgb|apply sgl|apply sgc); all_goals first|cbv|(apply sgr; cbv; cbv; (repeat (apply sgk; cbv)); exact sgn; cbv))⟩
def afQ:=SG.1
def QK:=eX.mk 2 [.tmp 4] (sub afQ 0)
def pj:=by
 have h:=f9P afS SJ.1 (f9P afR SI.1 (f9P afq R9.1 (f9P b80 acT.1 (f9P b75 acO.1 (f9P afo R6.1 (f9P afp R7.1 (gr afQ SG.1)))))));simp only[fb,SJ,SI,R9,acT,acO,R6,R7,SG,zj,seval] at h;exact h
def Al:=pj.1
def Jz:=pj.2.1
def Ak:=pj.2.2.1
def BX:=pj.2.2.2.1
def BW:=pj.2.2.2.2.1
def Pz:=pj.2.2.2.2.2.1
def uR:=pj.2.2.2.2.2.2.1
def zm:=pj.2.2.2.2.2.2.2
end Go.Proofs.YtcbopkblmebjiaaGreatDoor
set_option maxRecDepth 100000
namespace Go.Proofs.YtcbopkblmebjiaaGreatDoor
open Go Go.Abs
def acI:Ko [] f69:=fb
def b69:=acI.1
def ahf:=eX.mk 2 [.tmp 4] (sub b69 0)
abbrev adn:=sub b69 7
def ab2:Ko [] f26:=fb
def b26:=ab2.1
def agS:=eX.mk 2 [.fI 4 6,.tmp 5] (sub b26 0)
def RG:Ko [] f116:=fb
def ae9:=RG.1
def YA:=eX.mk 2 [.fI 4 6,.tmp 5] (sub ae9 0)
def RI:Ko [] f118:=fb
def aaz:=RI.1
def YB:=eX.mk 2 [.tmp 4] (sub aaz 0)
abbrev Wz:=sub aaz 7
def acy:Ko [] f56:=fb
def b56:=acy.1
def ag9:=eX.mk 3 [.tmp 6,.tmp 7] (sub b56 0)
def RA:Ko [5] f112:=fb
def aaw:=RA.1
def QA:=eX.mk 2 [.fI 4 3] (sub aaw 0)
def aij:wT [5] f112 QA:=fT
abbrev Ww:=sub aaw 11
def SC:Ko [5] f181:=fb
def aaG:=SC.1
def QJ:=eX.mk 2 [.fI 4 3] (sub aaG 0)
def aiu:wT [5] f181 QJ:=fT
abbrev WJ:=sub aaG 9
def RF:Ko [9] f115:=fb
def aax:=RF.1
def QB:=eX.mk 3 [.fI 6 3] (sub aax 0)
def aik:wT [9] f115 QB:=fT
abbrev Wx:=sub aax 11
def pn:=by
 have h:=f9P b69 acI.1 (f9P b26 ab2.1 (f9P ae9 RG.1 (f9P aaz RI.1 (f9P b56 acy.1 (f9P aaw RA.1 (f9P aaG SC.1 (gr aax RF.1)))))));simp only[fb,acI,ab2,RG,RI,acy,RA,SC,RF,zj,seval] at h;exact h
def E69:=pn.1
def E26:=pn.2.1
def U6:=pn.2.2.1
def Js:=pn.2.2.2.1
def E56:=pn.2.2.2.2.1
def Jq:=pn.2.2.2.2.2.1
def PD:=pn.2.2.2.2.2.2.1
def Jr:=pn.2.2.2.2.2.2.2
def Rz:Ko [12] f111:=fb
def aav:=Rz.1
def Qz:=eX.mk 4 [.fI 8 3] (sub aav 0)
def aii:wT [12] f111 Qz:=fT
abbrev Wv:=sub aav 15
def RM:Ko [] f120:=fb
def aaA:=RM.1
def YD:=eX.mk 2 [.tmp 4] (sub aaA 0)
abbrev WA:=sub aaA 7
def ab3:Ko [] f27:=fb
def b27:=ab3.1
def agT:=eX.mk 3 [.tmp 6] (sub b27 0)
abbrev adj:=sub b27 7
def SA:Ko [] f179:=fb
def afM:=SA.1
def Y7:=eX.mk 2 [.tmp 4] (sub afM 0)
def Ry:Ko [] f110:=fb
def ae6:=Ry.1
def Yx:=eX.mk 3 [.tmp 6] (sub ae6 0)
def acw:Ko [] f54:=fb
def b54:=acw.1
def ag7:=eX.mk 4 [.fI 8 3,.tmp 9,.tmp 10] (sub b54 0)
def acu:Ko [] f52:=fb
def b52:=acu.1
def ag6:=eX.mk 4 [.fI 8 3,.tmp 9] (sub b52 0)
def RE:Ko [] f114:=fb
def ae8:=RE.1
def Yz:=eX.mk 2 [.fI 4 3] (sub ae8 0)
def po:=by
 have h:=f9P aav Rz.1 (f9P aaA RM.1 (f9P b27 ab3.1 (f9P afM SA.1 (f9P ae6 Ry.1 (f9P b54 acw.1 (f9P b52 acu.1 (gr ae8 RE.1)))))));simp only[fb,Rz,RM,ab3,SA,Ry,acw,acu,RE,zj,seval] at h;exact h
def Ga:=po.1
def Jt:=po.2.1
def Vg:=po.2.2.1
def aeB:=po.2.2.2.1
def F9:=po.2.2.2.2.1
def E54:=po.2.2.2.2.2.1
def E52:=po.2.2.2.2.2.2.1
def aew:=po.2.2.2.2.2.2.2
def acx:Ko [] f55:=fb
def b55:=acx.1
def ag8:=eX.mk 3 [.fI 6 3,.tmp 7,.tmp 8] (sub b55 0)
def RJ:Ko [] f119:=fb
def afa:=RJ.1
def YC:=eX.mk 3 [.tmp 6] (sub afa 0)
def RN:Ko [] f121:=fb
def aaB:=RN.1
def YE:=eX.mk 3 [.tmp 6] (sub aaB 0)
abbrev WB:=sub aaB 11
def acz:Ko [] f57:=fb
def b57:=acz.1
def aha:=eX.mk 5 [.fI 10 3,.tmp 11,.tmp 12] (sub b57 0)
def SB:Ko [] f180:=fb
def afN:=SB.1
def Y8:=eX.mk 2 [.fI 4 3,.tmp 5] (sub afN 0)
def aci:Ko [] f41:=fb
def b41:=aci.1
def ag0:=eX.mk 0 [.fI 0 3] (sub b41 0)
def RH:Ko [] f117:=fb
def aay:=RH.1
def QC:=eX.mk 1 [.tmp 2] (sub aay 0)
abbrev Wy:=sub aay 15
def pk:=by
 have h:=f9P b55 acx.1 (f9P afa RJ.1 (f9P aaB RN.1 (f9P b57 acz.1 (f9P afN SB.1 (f9P b41 aci.1 (gr aay RH.1))))));simp only[fb,acx,RJ,RN,acz,SB,aci,RH,zj,seval] at h;exact h
def E55:=pk.1
def aex:=pk.2.1
def Pw:=pk.2.2.1
def PF:=pk.2.2.2.1
def aeC:=pk.2.2.2.2.1
def E41:=pk.2.2.2.2.2.1
def Gb:=pk.2.2.2.2.2.2
end Go.Proofs.YtcbopkblmebjiaaGreatDoor
set_option maxRecDepth 100000
namespace Go.Proofs.YtcbopkblmebjiaaGreatDoor
open Go Go.Abs
def abO:Ko [] f12:=fb
def b12:=abO.1
def agI:=eX.mk 1 [.tmp 2] (sub b12 0)
def ace:Ko [] f37:=fb
def b37:=ace.1
def NZ:=eX.mk 2 [.fI 4 4,.fI 5 7] (sub b37 0)
def acd:Ko [] f36:=fb
def b36:=acd.1
def NY:=eX.mk 2 [.fI 4 4,.fI 5 7] (sub b36 0)
def amQ:Ko [] f14:=fb
def b14:=amQ.1
def alV:=eX.mk 2 [.fI 4 4] (sub b14 0)
def ab8:Ko [] f32:=fb
def b32:=ab8.1
def V2:=eX.mk 1 [.tmp 2] (sub b32 0)
def ZQ:cD :=
 (.seq (.region [
 ob 0 (.mv (.kj (.bool false)))] false [0]) (.ret))
def ZR:cD :=
 (.seq (.region [
 ob 83 (.pX 1 (.tmp 2)),
 ob 84 (.mY (.tmp 83)),
 ob 85 (.bin .eql (.tmp 84) (.kj (.int .i64 2))),
 ob 86 (.mv (.tmp 85)),
 og 87 86 true (.pX 1 (.tmp 3)),
 og 88 86 true (.mY (.tmp 87)),
 og 89 86 true (.bin .eql (.tmp 88) (.kj (.int .i64 3))),
 ob 90 (.pick (.tmp 86) (.tmp 89) (.kj (.bool false))),
 ob 91 (.mv (.tmp 90)),
 og 92 91 true (.mv (.tmp 4)),
 og 93 91 true (.bin .eql (.tmp 92) (.kj (.int .i64 0))),
 ob 94 (.pick (.tmp 91) (.tmp 93) (.kj (.bool false))),
 ob 95 (.mv (.tmp 94)),
 og 96 95 true (.pX 1 (.tmp 5)),
 og 97 95 true (.mY (.tmp 96)),
 og 98 95 true (.bin .eql (.tmp 97) (.kj (.int .i64 4))),
 ob 99 (.pick (.tmp 95) (.tmp 98) (.kj (.bool false))),
 ob 100 (.mv (.tmp 99)),
 og 101 100 true (.pX 0 (.tmp 7)),
 og 102 100 true (.mY (.tmp 101)),
 og 103 100 true (.bin .eql (.tmp 102) (.kj (.int .i64 91))),
 ob 104 (.pick (.tmp 100) (.tmp 103) (.kj (.bool false))),
 ob 105 (.mv (.tmp 104)),
 og 106 105 true (.pX 0 (.tmp 9)),
 og 107 105 true (.mY (.tmp 106)),
 og 108 105 true (.bin .eql (.tmp 107) (.kj (.int .i64 180))),
 ob 109 (.pick (.tmp 105) (.tmp 108) (.kj (.bool false))),
 ob 110 (.mv (.tmp 109)),
 og 111 110 true (.pX 1 (.tmp 11)),
 og 112 110 true (.mY (.tmp 111)),
 og 113 110 true (.bin .eql (.tmp 112) (.kj (.int .i64 4))),
 ob 114 (.pick (.tmp 110) (.tmp 113) (.kj (.bool false))),
 ob 115 (.mv (.tmp 114)),
 og 116 115 true (.mv (.tmp 13)),
 og 117 115 true (.bin .eql (.tmp 116) (.kj (.int .i64 73))),
 ob 118 (.pick (.tmp 115) (.tmp 117) (.kj (.bool false))),
 ob 119 (.mv (.tmp 118)),
 og 120 119 true (.mv (.tmp 15)),
 og 121 119 true (.bin .eql (.tmp 120) (.kj (.int .i64 0))),
 ob 122 (.pick (.tmp 119) (.tmp 121) (.kj (.bool false))),
 ob 123 (.mv (.tmp 122)),
 og 124 123 true (.pX 1 (.tmp 1)),
 og 125 123 true (.mY (.tmp 124)),
 og 126 123 true (.rD 2 (.tmp 125) (.kj (.int .i64 0))),
 og 127 123 true (.pX 0 (.tmp 126)),
 og 128 123 true (.mY (.tmp 127)),
 og 129 123 true (.bin .eql (.tmp 128) (.kj (.int .i64 1))),
 ob 130 (.pick (.tmp 123) (.tmp 129) (.kj (.bool false))),
 ob 131 (.mv (.tmp 130)),
 og 132 131 true (.pX 1 (.tmp 1)),
 og 133 131 true (.mY (.tmp 132)),
 og 134 131 true (.rD 2 (.tmp 133) (.kj (.int .i64 0))),
 og 135 131 true (.pX 1 (.tmp 134)),
 og 136 131 true (.mY (.tmp 135)),
 og 137 131 true (.vu (.tmp 136)),
 og 138 131 true (.bin .eql (.tmp 137) (.kj (.int .i64 2))),
 ob 139 (.pick (.tmp 131) (.tmp 138) (.kj (.bool false))),
 ob 140 (.mv (.tmp 139)),
 og 141 140 true (.pX 1 (.tmp 1)),
 og 142 140 true (.mY (.tmp 141)),
 og 143 140 true (.rD 2 (.tmp 142) (.kj (.int .i64 1))),
 og 144 140 true (.pX 1 (.tmp 143)),
 og 145 140 true (.mY (.tmp 144)),
 og 146 140 true (.vu (.tmp 145)),
 og 147 140 true (.bin .eql (.tmp 146) (.kj (.int .i64 2))),
 ob 148 (.pick (.tmp 140) (.tmp 147) (.kj (.bool false))),
 ob 149 (.mv (.tmp 148)),
 og 150 149 true (.pX 1 (.tmp 10)),
 og 151 149 true (.mY (.tmp 150)),
 og 152 149 true (.rD 2 (.tmp 151) (.kj (.int .i64 0))),
 og 153 149 true (.pX 1 (.tmp 152)),
 og 154 149 true (.mY (.tmp 153)),
 og 155 149 true (.vu (.tmp 154)),
 og 156 149 true (.bin .eql (.tmp 155) (.kj (.int .i64 3))),
 ob 157 (.pick (.tmp 149) (.tmp 156) (.kj (.bool false))),
 ob 158 (.mv (.tmp 157)),
 og 159 158 true (.kl 4 (.tmp 1)),
 og 160 158 true (.build [(.int .i64 0),(.int .i64 0),(.str []),(.str []),(.int .i64 0),(.int .i64 0),(.int .i64 0),(.slice .c0 [])] [(0,1,(.kj (.int .i64 1))),(2,1,(.kj (.str [47,97,47,102])))]),
 ⟨(some 161),.call 21 [(.tmp 159),(.tmp 160)],(some (158,true)),false,false,[],false⟩,
 og 162 158 true (.lits 1 [(.kj (.int .i64 1)),(.kj (.int .i64 5))]),
 og 163 158 true (.call 38 [(.tmp 161),(.tmp 162)]),
 ob 164 (.pick (.tmp 158) (.tmp 163) (.kj (.bool false))),
 ob 165 (.mv (.tmp 164)),
 og 166 165 true (.kl 4 (.tmp 1)),
 og 167 165 true (.call 31 [(.tmp 166)]),
 ob 168 (.pick (.tmp 165) (.tmp 167) (.kj (.bool false))),
 ob 169 (.mv (.tmp 168)),
 og 170 169 true (.build [(.slice .c0 []),(.slice .c0 []),(.int .i64 0),(.int .i64 0)] []),
 og 171 169 true (.call 31 [(.tmp 170)]),
 og 172 169 true (.not (.tmp 171)),
 ob 173 (.pick (.tmp 169) (.tmp 172) (.kj (.bool false))),
 ob 174 (.mv (.tmp 173)),
 og 175 174 true (.kl 4 (.tmp 1)),
 ⟨(some 176),.call 17 [(.tmp 175)],(some (174,true)),true,false,[],false⟩,
 og 177 174 true (.kl 4 (.tmp 14)),
 og 178 174 true (.call 17 [(.tmp 177)]),
 og 179 174 true (.call 20 [(.tmp 176),(.tmp 178)]),
 ob 180 (.pick (.tmp 174) (.tmp 179) (.kj (.bool false))),
 ob 181 (.mv (.tmp 180)),
 og 182 181 true (.kl 4 (.tmp 1)),
 og 183 181 true (.kl 4 (.tmp 14)),
 og 184 181 true (.call 30 [(.tmp 182),(.tmp 183)]),
 og 185 181 true (.not (.tmp 184)),
 ob 186 (.pick (.tmp 181) (.tmp 185) (.kj (.bool false))),
 ob 0 (.mv (.tmp 186))] true [0]) (.ret))
def ZT:cD :=
 (.seq (.seq (.region [
 ob 67 (.pX 1 (.tmp 1)),
 ob 68 (.mY (.tmp 67)),
 ob 69 (.vu (.tmp 68)),
 ob 70 (.bin .neq (.tmp 69) (.kj (.int .i64 2))),
 ob 71 (.mv (.tmp 70)),
 og 72 71 false (.pX 1 (.tmp 10)),
 og 73 71 false (.mY (.tmp 72)),
 og 74 71 false (.vu (.tmp 73)),
 og 75 71 false (.bin .neq (.tmp 74) (.kj (.int .i64 2))),
 ob 76 (.pick (.tmp 71) (.kj (.bool true)) (.tmp 75)),
 ob 77 (.mv (.tmp 76)),
 og 78 77 false (.pX 1 (.tmp 14)),
 og 79 77 false (.mY (.tmp 78)),
 og 80 77 false (.vu (.tmp 79)),
 og 81 77 false (.bin .neq (.tmp 80) (.kj (.int .i64 1))),
 ob 82 (.pick (.tmp 77) (.kj (.bool true)) (.tmp 81))] false [1,2,3,4,5,7,9,10,11,13,14,15,82]) (.cond (.tmp 82) ZQ (.skip))) ZR)
def ZU:cD :=
 (.seq (.region [
 ob 63 (.kl 4 (.tmp 1)),
 ob 64 (.call 43 [(.tmp 63),(.kj (.str [47,97]))]),
 ob 62 (.mv (.tmp 64)),
 ob 65 (.extract (.tmp 62) 0),
 ob 66 (.extract (.tmp 62) 1),
 ob 14 (.sv [(.slice .c0 []),(.slice .c0 []),(.int .i64 0),(.int .i64 0)]),
 ox (.store 4 (.tmp 14) (.tmp 65)),
 ob 15 (.mv (.tmp 66))] false [1,2,3,4,5,7,9,10,11,13,14,15]) ZT)
def ZV:cD :=
 (.seq (.region [
 ob 58 (.kl 4 (.tmp 1)),
 ob 59 (.call 42 [(.tmp 58),(.kj (.str [47,97,47,102])),(.kj (.int .i64 2))]),
 ob 57 (.mv (.tmp 59)),
 ob 60 (.extract (.tmp 57) 0),
 ob 61 (.extract (.tmp 57) 1),
 ob 12 (.sv [(.slice .c0 []),(.slice .c0 []),(.int .i64 0),(.int .i64 0)]),
 ox (.store 4 (.tmp 12) (.tmp 60)),
 ob 13 (.mv (.tmp 61))] false [1,2,3,4,5,7,9,10,11,13]) ZU)
def ZW:cD :=
 (.seq (.region [
 ob 52 (.kl 4 (.tmp 1)),
 ob 53 (.build [(.int .i64 0),(.int .i64 0),(.str []),(.str []),(.int .i64 0),(.int .i64 0),(.int .i64 0),(.slice .c0 [])] [(0,1,(.kj (.int .i64 5))),(2,1,(.kj (.str [47,97,47,102]))),(3,1,(.kj (.str [47,98,47,102])))]),
 ob 54 (.call 15 [(.tmp 52),(.tmp 53)]),
 ob 51 (.mv (.tmp 54)),
 ob 55 (.extract (.tmp 51) 0),
 ob 56 (.extract (.tmp 51) 1),
 ob 10 (.sv [(.slice .c0 []),(.slice .c0 []),(.int .i64 0),(.int .i64 0)]),
 ob 11 (.sv [(.int .i64 0),(.int .i64 0),(.int .i64 0),(.int .i64 0),(.int .i64 0),(.slice .c0 []),(.slice .c0 [])]),
 ox (.store 4 (.tmp 10) (.tmp 55)),
 ox (.store 7 (.tmp 11) (.tmp 56))] false [1,2,3,4,5,7,9,10,11]) ZV)
def ZX:cD :=
 (.seq (.region [
 ob 46 (.kl 4 (.tmp 1)),
 ob 47 (.build [(.int .i64 0),(.int .i64 0),(.str []),(.str []),(.int .i64 0),(.int .i64 0),(.int .i64 0),(.slice .c0 [])] [(0,1,(.kj (.int .i64 5))),(2,1,(.kj (.str [47,97]))),(3,1,(.kj (.str [47,99])))]),
 ob 48 (.call 15 [(.tmp 46),(.tmp 47)]),
 ob 45 (.mv (.tmp 48)),
 ob 49 (.extract (.tmp 45) 0),
 ob 50 (.extract (.tmp 45) 1),
 ob 8 (.sv [(.slice .c0 []),(.slice .c0 []),(.int .i64 0),(.int .i64 0)]),
 ob 9 (.sv [(.int .i64 0),(.int .i64 0),(.int .i64 0),(.int .i64 0),(.int .i64 0),(.slice .c0 []),(.slice .c0 [])]),
 ox (.store 4 (.tmp 8) (.tmp 49)),
 ox (.store 7 (.tmp 9) (.tmp 50))] false [1,2,3,4,5,7,9]) ZW)
def ZY:cD :=
 (.seq (.region [
 ob 40 (.kl 4 (.tmp 1)),
 ob 41 (.build [(.int .i64 0),(.int .i64 0),(.str []),(.str []),(.int .i64 0),(.int .i64 0),(.int .i64 0),(.slice .c0 [])] [(0,1,(.kj (.int .i64 3))),(2,1,(.kj (.str [47,97,47,102]))),(3,1,(.kj (.str [47,103])))]),
 ob 42 (.call 15 [(.tmp 40),(.tmp 41)]),
 ob 39 (.mv (.tmp 42)),
 ob 43 (.extract (.tmp 39) 0),
 ob 44 (.extract (.tmp 39) 1),
 ob 6 (.sv [(.slice .c0 []),(.slice .c0 []),(.int .i64 0),(.int .i64 0)]),
 ob 7 (.sv [(.int .i64 0),(.int .i64 0),(.int .i64 0),(.int .i64 0),(.int .i64 0),(.slice .c0 []),(.slice .c0 [])]),
 ox (.store 4 (.tmp 6) (.tmp 43)),
 ox (.store 7 (.tmp 7) (.tmp 44))] false [1,2,3,4,5,7]) ZX)
def ZZ:cD :=
 (.seq (.region [
 ob 34 (.kl 4 (.tmp 1)),
 ob 35 (.build [(.int .i64 0),(.int .i64 0),(.str []),(.str []),(.int .i64 0),(.int .i64 0),(.int .i64 0),(.slice .c0 [])] [(0,1,(.kj (.int .i64 2))),(2,1,(.kj (.str [47,97,47,102]))),(4,1,(.kj (.int .i64 1)))]),
 ob 36 (.call 15 [(.tmp 34),(.tmp 35)]),
 ob 33 (.mv (.tmp 36)),
 ob 37 (.extract (.tmp 33) 0),
 ob 38 (.extract (.tmp 33) 1),
 ob 5 (.sv [(.int .i64 0),(.int .i64 0),(.int .i64 0),(.int .i64 0),(.int .i64 0),(.slice .c0 []),(.slice .c0 [])]),
 ox (.store 4 (.tmp 1) (.tmp 37)),
 ox (.store 7 (.tmp 5) (.tmp 38))] false [1,2,3,4,5]) ZY)
def Z0:cD :=
 (.seq (.region [
 ob 29 (.kl 4 (.tmp 1)),
 ob 30 (.call 42 [(.tmp 29),(.kj (.str [47,97])),(.kj (.int .i64 5))]),
 ob 28 (.mv (.tmp 30)),
 ob 31 (.extract (.tmp 28) 0),
 ob 32 (.extract (.tmp 28) 1),
 ox (.store 4 (.tmp 1) (.tmp 31)),
 ob 4 (.mv (.tmp 32))] false [1,2,3,4]) ZZ)
def Uo:cD :=
 (.seq (.region [
 ob 23 (.kl 4 (.tmp 1)),
 ob 24 (.build [(.int .i64 0),(.int .i64 0),(.str []),(.str []),(.int .i64 0),(.int .i64 0),(.int .i64 0),(.slice .c0 [])] [(0,1,(.kj (.int .i64 2))),(2,1,(.kj (.str [47,98]))),(4,1,(.kj (.int .i64 2)))]),
 ob 25 (.call 15 [(.tmp 23),(.tmp 24)]),
 ob 22 (.mv (.tmp 25)),
 ob 26 (.extract (.tmp 22) 0),
 ob 27 (.extract (.tmp 22) 1),
 ob 3 (.sv [(.int .i64 0),(.int .i64 0),(.int .i64 0),(.int .i64 0),(.int .i64 0),(.slice .c0 []),(.slice .c0 [])]),
 ox (.store 4 (.tmp 1) (.tmp 26)),
 ox (.store 7 (.tmp 3) (.tmp 27))] false [1,2,3]) Z0)
def Uq:cD :=
 (.seq (.region [
 ob 17 (.call 34 [(.kj (.int .i64 1))]),
 ob 18 (.build [(.int .i64 0),(.int .i64 0),(.str []),(.str []),(.int .i64 0),(.int .i64 0),(.int .i64 0),(.slice .c0 [])] [(0,1,(.kj (.int .i64 2))),(2,1,(.kj (.str [47,97]))),(4,1,(.kj (.int .i64 2)))]),
 ob 19 (.call 15 [(.tmp 17),(.tmp 18)]),
 ob 16 (.mv (.tmp 19)),
 ob 20 (.extract (.tmp 16) 0),
 ob 21 (.extract (.tmp 16) 1),
 ob 1 (.sv [(.slice .c0 []),(.slice .c0 []),(.int .i64 0),(.int .i64 0)]),
 ob 2 (.sv [(.int .i64 0),(.int .i64 0),(.int .i64 0),(.int .i64 0),(.int .i64 0),(.slice .c0 []),(.slice .c0 [])]),
 ox (.store 4 (.tmp 1) (.tmp 20)),
 ox (.store 7 (.tmp 2) (.tmp 21))] false [1,2]) Uo)
def E11:=cn (ij ZQ.eq_1) (cn (ij ZR.eq_1) (cn (ij ZT.eq_1) (cn (ij ZU.eq_1) (cn (ij ZV.eq_1) (cn (ij ZW.eq_1) (cn (ij ZX.eq_1) (cn (ij ZY.eq_1) (cn (ij ZZ.eq_1) (cn (ij Z0.eq_1) (cn (ij Uo.eq_1) (ij Uq.eq_1)))))))))))
def aeV:zi:={ n:=187,own:=[],lv:=[(0,[]),(1,[1,2]),(2,[1,2,3]),(3,[1,2,3,4]),(4,[1,2,3,4,5]),(5,[1,2,3,4,5,7]),(6,[1,2,3,4,5,7,9]),(7,[1,2,3,4,5,7,9,10,11]),(8,[1,2,3,4,5,7,9,10,11,13]),(9,[1,2,3,4,5,7,9,10,11,13,14,15]),(10,[1,2,3,4,5,7,9,10,11,13,14,15,82]),(11,[0]),(12,[0])],lp:=[] }
def aa6:eX:=eX.mk 0 [.tmp 0]
 (.seq (.region [
 ob 0 (.mv (.kj (.bool false)))] false []) Uq)
def amU:pE Tryz.prog aeV f11=some aa6:=gd
def ko3:Ko [] f3:=fb
def b3:=ko3.1
def fn3:=eX.mk 3 [.tmp 6] (sub b3 0)
def ko4:Ko [] f4:=fb
def b4:=ko4.1
def fn4:=eX.mk 3 [.tmp 6] (sub b4 0)
def ko5:Ko [] f5:=fb
def b5:=ko5.1
def fn5:=eX.mk 4 [.tmp 8] (sub b5 0)
def ko6:Ko [] f6:=fb
def b6:=ko6.1
def fn6:=eX.mk 3 [.tmp 6] (sub b6 0)
set_option maxHeartbeats 4000000 in
def ko7:Ko [] f7:=⟨_,stg rfl (by cbv) (by (repeat' first|apply sgs|apply sgb|apply sgl|apply sgc); all_goals first|cbv|(apply sgr; cbv; cbv; (repeat (apply sgk; cbv)); exact sgn; cbv))⟩
def b7:=ko7.1
def fn7:=eX.mk 3 [.tmp 6] (sub b7 0)
def ko8:Ko [] f8:=fb
def b8:=ko8.1
def fn8:=eX.mk 3 [.tmp 6] (sub b8 0)
def tT:=by
 have h:=f9P b12 abO.1 (f9P b37 ace.1 (f9P b36 acd.1 (f9P b32 ab8.1 (gr b7 ko7.1))));simp only[fb,abO,ace,acd,ab8,ko7,zj,seval] at h;exact h
def E12:=tT.1
def E37:=tT.2.1
def E36:=tT.2.2.1
def Nb:=tT.2.2.2.1
def E7:=tT.2.2.2.2
end Go.Proofs.YtcbopkblmebjiaaGreatDoor
set_option maxRecDepth 100000
namespace Go.Proofs.YtcbopkblmebjiaaGreatDoor
open Go Go.Abs
def acG:Ko [7] f67:=fb
def b67:=acG.1
def N0:=eX.mk 1 [.tmp 2,.tmp 3] (sub b67 0)
def am2:wT [7] f67 N0:=fT
abbrev adm:=sub b67 27
def ac1:Ko [] f88:=fb
def b88:=ac1.1
def ahm:=eX.mk 1 [.tmp 2] (sub b88 0)
abbrev ado:=sub b88 17
def abW:Ko [] f20:=fb
def b20:=abW.1
def agN:=eX.mk 2 [.tmp 4] (sub b20 0)
def acF:Ko [] f66:=fb
def b66:=acF.1
def ahe:=eX.mk 2 [.tmp 4] (sub b66 0)
def ab0:Ko [] f24:=fb
def b24:=ab0.1
def agP:=eX.mk 2 [.tmp 4,.tmp 5] (sub b24 0)
def Rv:Ko [13] f108:=fb
def Vt:=Rv.1
def C0:=eX.mk 4 [.tmp 8,.tmp 9,.tmp 10] (sub Vt 0)
def aih:wT [13] f108 C0:=fT
abbrev Ws:=sub Vt 32
abbrev Wu:=sub Vt 24
def abY:Ko [] f22:=fb
def b22:=abY.1
def aa8:=eX.mk 2 [.tmp 4] (sub b22 0)
def RU:Ko [] f132:=fb
def aff:=RU.1
def QD:=eX.mk 2 [.tmp 4] (sub aff 0)
def pq:=by
 have h:=f9P b67 acG.1 (f9P b88 ac1.1 (f9P b20 abW.1 (f9P b66 acF.1 (f9P b24 ab0.1 (f9P Vt Rv.1 (f9P b22 abY.1 (gr aff RU.1)))))));simp only[fb,acG,ac1,abW,acF,ab0,Rv,abY,RU,zj,seval] at h;exact h
def Pr:=pq.1
def E88:=pq.2.1
def E20:=pq.2.2.1
def E66:=pq.2.2.2.1
def E24:=pq.2.2.2.2.1
def wK:=pq.2.2.2.2.2.1
def E22:=pq.2.2.2.2.2.2.1
def Py:=pq.2.2.2.2.2.2.2
def Rx:Ko [] f109:=fb
def ae5:=Rx.1
def LZ:=eX.mk 1 [.tmp 2,.tmp 3,.tmp 4] (sub ae5 0)
def Z7:=by
 have h:=gr ae5 Rx.1;simp only[fb,Rx,zj,seval] at h;exact h
end Go.Proofs.YtcbopkblmebjiaaGreatDoor
set_option maxRecDepth 100000
namespace Go.Proofs.YtcbopkblmebjiaaGreatDoor
open Go Go.Abs
def abV:Ko [] f19:=fb
def b19:=abV.1
def agM:=eX.mk 2 [.tmp 4] (sub b19 0)
def E19:=by
 have h:=gr b19 abV.1;simp only[fb,abV,zj,seval] at h;exact h
end Go.Proofs.YtcbopkblmebjiaaGreatDoor
set_option maxRecDepth 100000
namespace Go.Proofs.YtcbopkblmebjiaaGreatDoor
open Go Go.Abs
def acQ:Ko [] f77:=fb
def b77:=acQ.1
def ahi:=eX.mk 1 [.tmp 2] (sub b77 0)
def R1:Ko [] f140:=fb
def afl:=R1.1
def YO:=eX.mk 1 [.tmp 2] (sub afl 0)
def RQ:Ko [] f127:=fb
def afc:=RQ.1
def YG:=eX.mk 1 [.tmp 2] (sub afc 0)
def RR:Ko [5] f128:=fb
def aaD:=RR.1
def L1:=eX.mk 2 [.tmp 4] (sub aaD 0)
def ail:wT [5] f128 L1:=fT
abbrev Mp:=sub aaD 9
def acD:Ko [] f64:=fb
def b64:=acD.1
def abi:=eX.mk 2 [.tmp 4,.tmp 5] (sub b64 0)
def RS:Ko [] f129:=fb
def afd:=RS.1
def YH:=eX.mk 2 [.tmp 3] (sub afd 0)
def SZ:Ko [] f225:=fb
def af4:=SZ.1
def QQ:=eX.mk 2 [.tmp 4] (sub af4 0)
def Ta:Ko [] f251:=fb
def agh:=Ta.1
def Zv:=eX.mk 2 [.tmp 3] (sub agh 0)
def pr:=by
 have h:=f9P b77 acQ.1 (f9P afl R1.1 (f9P afc RQ.1 (f9P aaD RR.1 (f9P b64 acD.1 (f9P afd RS.1 (f9P af4 SZ.1 (gr agh Ta.1)))))));simp only[fb,acQ,R1,RQ,RR,acD,RS,SZ,Ta,zj,seval] at h;exact h
def E77:=pr.1
def ajE:=pr.2.1
def ajy:=pr.2.2.1
def Hb:=pr.2.2.2.1
def E64:=pr.2.2.2.2.1
def ajz:=pr.2.2.2.2.2.1
def aeE:=pr.2.2.2.2.2.2.1
def ajZ:=pr.2.2.2.2.2.2.2
def Sh:Ko [] f157:=fb
def afx:=Sh.1
def YV:=eX.mk 2 [.tmp 4,.tmp 5] (sub afx 0)
def SQ:Ko [] f210:=fb
def afX:=SQ.1
def Zg:=eX.mk 2 [.tmp 4] (sub afX 0)
def acN:Ko [1000145] f74:=fb
def b74:=acN.1
def Gv:=eX.mk 1 [.tmp 2] (sub b74 0)
def am3:wT [1000145] f74 Gv:=fT
def RY:Ko [] f137:=fb
def afi:=RY.1
def YL:=eX.mk 2 [.tmp 4] (sub afi 0)
def R0:Ko [] f139:=fb
def afk:=R0.1
def YN:=eX.mk 1 [.tmp 2] (sub afk 0)
def R2:Ko [] f141:=fb
def afm:=R2.1
def YP:=eX.mk 2 [.tmp 4] (sub afm 0)
def Si:Ko [1000145] f158:=fb
def afy:=Si.1
def L3:=eX.mk 3 [.tmp 6] (sub afy 0)
def air:wT [1000145] f158 L3:=fT
def ac4:Ko [1000158,1000160] f91:=fb
def b91:=ac4.1
def HZ:=eX.mk 3 [.tmp 6,.tmp 7] (sub b91 0)
def am6:wT [1000158,1000160] f91 HZ:=fT
def pt:=by
 have h:=f9P afx Sh.1 (f9P afX SQ.1 (f9P b74 acN.1 (f9P afi RY.1 (f9P afk R0.1 (f9P afm R2.1 (f9P afy Si.1 (gr b91 ac4.1)))))));simp only[fb,Sh,SQ,acN,RY,R0,R2,Si,ac4,zj,seval] at h;exact h
def ajI:=pt.1
def ajQ:=pt.2.1
def E74:=pt.2.2.1
def ajB:=pt.2.2.2.1
def ajD:=pt.2.2.2.2.1
def ajF:=pt.2.2.2.2.2.1
def ajJ:=pt.2.2.2.2.2.2.1
def E91:=pt.2.2.2.2.2.2.2
def Sj:Ko [] f159:=fb
def afz:=Sj.1
def YW:=eX.mk 2 [] (sub afz 0)
def ac6:Ko [1000158,1000163] f93:=fb
def b93:=ac6.1
def Ks:=eX.mk 2 [.tmp 4,.tmp 5] (sub b93 0)
def am7:wT [1000158,1000163] f93 Ks:=fT
def Sl:Ko [] f162:=fb
def afB:=Sl.1
def YY:=eX.mk 2 [] (sub afB 0)
def Sa:Ko [1000158] f150:=fb
def afr:=Sa.1
def C1:=eX.mk 3 [.tmp 6,.tmp 7] (sub afr 0)
def ain:wT [1000158] f150 C1:=fT
def SK:Ko [] f205:=fb
def afT:=SK.1
def Zc:=eX.mk 2 [] (sub afT 0)
def RT:Ko [] f130:=fb
def afe:=RT.1
def YI:=eX.mk 2 [.tmp 4] (sub afe 0)
def acL:Ko [] f72:=fb
def b72:=acL.1
def abj:=eX.mk 2 [.tmp 4] (sub b72 0)
def acM:Ko [] f73:=fb
def b73:=acM.1
def abk:=eX.mk 3 [.tmp 6] (sub b73 0)
def oq:=by
 have h:=f9P afz Sj.1 (f9P b93 ac6.1 (f9P afB Sl.1 (f9P afr Sa.1 (f9P afT SK.1 (f9P afe RT.1 (f9P b72 acL.1 (gr b73 acM.1)))))));simp only[fb,Sj,ac6,Sl,Sa,SK,RT,acL,acM,zj,seval] at h;exact h
def ajK:=oq.1
def E93:=oq.2.1
def ajL:=oq.2.2.1
def PB:=oq.2.2.2.1
def ajO:=oq.2.2.2.2.1
def Px:=oq.2.2.2.2.2.1
def E72:=oq.2.2.2.2.2.2.1
def E73:=oq.2.2.2.2.2.2.2
def R3:Ko [] f142:=fb
def aaE:=R3.1
def YQ:=eX.mk 2 [.tmp 4] (sub aaE 0)
abbrev WC:=sub aaE 7
def R4:Ko [] f143:=fb
def afn:=R4.1
def YR:=eX.mk 2 [.tmp 4] (sub afn 0)
def SF:Ko [] f200:=fb
def afP:=SF.1
def Za:=eX.mk 2 [.tmp 4] (sub afP 0)
def R5:Ko [] f144:=fb
def Vu:=R5.1
def QE:=eX.mk 2 [.tmp 4] (sub Vu 0)
abbrev WD:=sub Vu 33
abbrev WE:=sub Vu 15
def SP:Ko [] f209:=fb
def aaJ:=SP.1
def Zf:=eX.mk 3 [.tmp 6,.tmp 7] (sub aaJ 0)
abbrev WM:=sub aaJ 9
def sn:=by
 have h:=f9P aaE R3.1 (f9P afn R4.1 (f9P afP SF.1 (f9P Vu R5.1 (gr aaJ SP.1))));simp only[fb,R3,R4,SF,R5,SP,zj,seval] at h;exact h
def M8:=sn.1
def ajG:=sn.2.1
def U9:=sn.2.2.1
def D1:=sn.2.2.2.1
def He:=sn.2.2.2.2
end Go.Proofs.YtcbopkblmebjiaaGreatDoor
set_option maxRecDepth 100000
namespace Go.Proofs.YtcbopkblmebjiaaGreatDoor
open Go Go.Abs
def ac5:Ko [] f92:=fb
def b92:=ac5.1
def ahn:=eX.mk 1 [] (sub b92 0)
def aco:Ko [] f47:=fb
def b47:=aco.1
def ag3:=eX.mk 2 [] (sub b47 0)
def acq:Ko [] f49:=fb
def b49:=acq.1
def ag5:=eX.mk 2 [.tmp 4,.tmp 5] (sub b49 0)
def Rs:Ko [8000107] f105:=fb
def aau:=Rs.1
def Qy:=eX.mk 8 [] (sub aau 0)
def aif:wT [8000107] f105 Qy:=fT
abbrev Wr:=sub aau 6
def ab4:Ko [1002001011,11000004] f28:=fb
def b28:=ab4.1
def abb:=eX.mk 2 [.fI 4 4] (sub b28 0)
def amY:wT [1002001011,11000004] f28 abb:=fT
def abT:Ko [1506000003] f17:=fb
def b17:=abT.1
def aa7:=eX.mk 1 [.fI 2 3] (sub b17 0)
def amV:wT [1506000003] f17 aa7:=fT
def aca:Ko [] f34:=fb
def b34:=aca.1
def agY:=eX.mk 1 [.fI 2 4] (sub b34 0)
def ab7:Ko [] f31:=fb
def b31:=ab7.1
def NW:=eX.mk 1 [.tmp 2] (sub b31 0)
def pw:=by
 have h:=f9P b92 ac5.1 (f9P b47 aco.1 (f9P b49 acq.1 (f9P aau Rs.1 (f9P b28 ab4.1 (f9P b17 abT.1 (f9P b34 aca.1 (gr b31 ab7.1)))))));simp only[fb,ac5,aco,acq,Rs,ab4,abT,aca,ab7,zj,seval] at h;exact h
def E92:=pw.1
def E47:=pw.2.1
def E49:=pw.2.2.1
def M7:=pw.2.2.2.1
def Yb:=pw.2.2.2.2.1
def E17:=pw.2.2.2.2.2.1
def E34:=pw.2.2.2.2.2.2.1
def Pq:=pw.2.2.2.2.2.2.2
def ab6:Ko [] f30:=fb
def b30:=ab6.1
def agW:=eX.mk 2 [.tmp 4] (sub b30 0)
def acJ:Ko [] f70:=fb
def b70:=acJ.1
def ahg:=eX.mk 2 [.tmp 4] (sub b70 0)
def ac3:Ko [] f90:=fb
def b90:=ac3.1
def abp:=eX.mk 2 [.fI 4 6] (sub b90 0)
def Sn:Ko [] f169:=fb
def afD:=Sn.1
def YZ:=eX.mk 2 [.tmp 4,.tmp 5] (sub afD 0)
def St:Ko [] f173:=fb
def afH:=St.1
def Y2:=eX.mk 2 [] (sub afH 0)
def Sq:Ko [] f170:=fb
def afE:=Sq.1
def QH:=eX.mk 4 [] (sub afE 0)
def ac8:Ko [] f97:=fb
def b97:=ac8.1
def abr:=eX.mk 1 [] (sub b97 0)
def ac9:Ko [] f98:=fb
def b98:=ac9.1
def abt:=eX.mk 1 [] (sub b98 0)
def px:=by
 have h:=f9P b30 ab6.1 (f9P b70 acJ.1 (f9P b90 ac3.1 (f9P afD Sn.1 (f9P afH St.1 (f9P afE Sq.1 (f9P b97 ac8.1 (gr b98 ac9.1)))))));simp only[fb,ab6,acJ,ac3,Sn,St,Sq,ac8,ac9,zj,seval] at h;exact h
def E30:=px.1
def E70:=px.2.1
def E90:=px.2.2.1
def U8:=px.2.2.2.1
def Na:=px.2.2.2.2.1
def aeA:=px.2.2.2.2.2.1
def E97:=px.2.2.2.2.2.2.1
def E98:=px.2.2.2.2.2.2.2
def ada:Ko [11000005] f99:=fb
def b99:=ada.1
def QU:=eX.mk 1 [] (sub b99 0)
def am8:wT [11000005] f99 QU:=fT
def Rn:Ko [] f100:=fb
def aeZ:=Rn.1
def LY:=eX.mk 1 [] (sub aeZ 0)
def Ro:Ko [] f101:=fb
def ae0:=Ro.1
def HV:=eX.mk 1 [] (sub ae0 0)
def Rp:Ko [] f102:=fb
def ae1:=Rp.1
def HW:=eX.mk 1 [] (sub ae1 0)
def Rq:Ko [] f103:=fb
def ae2:=Rq.1
def EF:=eX.mk 1 [] (sub ae2 0)
def acn:Ko [] f46:=fb
def b46:=acn.1
def ag2:=eX.mk 0 [.tmp 0] (sub b46 0)
def acp:Ko [] f48:=fb
def b48:=acp.1
def ag4:=eX.mk 1 [.fI 2 3] (sub b48 0)
def acm:Ko [] f45:=fb
def b45:=acm.1
def Kq:=eX.mk 3 [] (sub b45 0)
def py:=by
 have h:=f9P b99 ada.1 (f9P aeZ Rn.1 (f9P ae0 Ro.1 (f9P ae1 Rp.1 (f9P ae2 Rq.1 (f9P b46 acn.1 (f9P b48 acp.1 (gr b45 acm.1)))))));simp only[fb,ada,Rn,Ro,Rp,Rq,acn,acp,acm,zj,seval] at h;exact h
def E99:=py.1
def Z6:=py.2.1
def U4:=py.2.2.1
def U5:=py.2.2.2.1
def Pv:=py.2.2.2.2.1
def E46:=py.2.2.2.2.2.1
def E48:=py.2.2.2.2.2.2.1
def E45:=py.2.2.2.2.2.2.2
def abQ:Ko [] f15:=fb
def b15:=abQ.1
def V1:=eX.mk 2 [.fI 4 4,.fI 5 7] (sub b15 0)
def abX:Ko [7] f21:=fb
def b21:=abX.1
def QN:=eX.mk 2 [.tmp 4] (sub b21 0)
def amW:wT [7] f21 QN:=fT
abbrev adf:=sub b21 21
def acC:Ko [] f62:=fb
def b62:=acC.1
def ahc:=eX.mk 3 [] (sub b62 0)
def acj:Ko [] f42:=fb
def b42:=acj.1
def abe:=eX.mk 3 [.fI 6 4,.tmp 7] (sub b42 0)
def ac2:Ko [] f89:=fb
def b89:=ac2.1
def N2:=eX.mk 4 [] (sub b89 0)
def ac7:Ko [] f94:=fb
def b94:=ac7.1
def abq:=eX.mk 3 [.fI 6 4,.tmp 7] (sub b94 0)
def ack:Ko [] f43:=fb
def b43:=ack.1
def ag1:=eX.mk 2 [.fI 4 4,.tmp 5] (sub b43 0)
def acV:Ko [] f82:=fb
def b82:=acV.1
def ahl:=eX.mk 3 [.fI 6 4,.tmp 7] (sub b82 0)
def ot:=by
 have h:=f9P b15 abQ.1 (f9P b21 abX.1 (f9P b62 acC.1 (f9P b42 acj.1 (f9P b89 ac2.1 (f9P b94 ac7.1 (f9P b43 ack.1 (gr b82 acV.1)))))));simp only[fb,abQ,abX,acC,acj,ac2,ac7,ack,acV,zj,seval] at h;exact h
def E15:=ot.1
def Vb:=ot.2.1
def E62:=ot.2.2.1
def E42:=ot.2.2.2.1
def E89:=ot.2.2.2.2.1
def E94:=ot.2.2.2.2.2.1
def E43:=ot.2.2.2.2.2.2.1
def E82:=ot.2.2.2.2.2.2.2
end Go.Proofs.YtcbopkblmebjiaaGreatDoor
set_option maxRecDepth 100000
namespace Go.Proofs.YtcbopkblmebjiaaGreatDoor
open Go Go.Abs
def acH:Ko [] f68:=fb
def b68:=acH.1
def QS:=eX.mk 2 [.tmp 4] (sub b68 0)
def ab5:Ko [] f29:=fb
def b29:=ab5.1
def agV:=eX.mk 1 [.tmp 2] (sub b29 0)
set_option maxHeartbeats 4000000 in
def acS:Ko [] f79:=⟨_,stg rfl (by cbv) (by (repeat' first|apply sgs|apply sgb|apply sgl|apply sgc); all_goals first|cbv|(apply sgr; cbv; cbv; (repeat (apply sgk; cbv)); exact sgn; cbv))⟩
def b79:=acS.1
def QT:=eX.mk 1 [.tmp 2] (sub b79 0)
def ab1:Ko [] f25:=fb
def b25:=ab1.1
def aba:=eX.mk 2 [.tmp 4,.tmp 5] (sub b25 0)
def SO:Ko [5] f208:=fb
def afW:=SO.1
def L5:=eX.mk 2 [.tmp 4] (sub afW 0)
def aiw:wT [5] f208 L5:=fT
def SL:Ko [] f206:=fb
def afU:=SL.1
def Zd:=eX.mk 2 [.tmp 4] (sub afU 0)
def Sb:Ko [11] f151:=fb
def afs:=Sb.1
def zH:=eX.mk 3 [.tmp 6,.tmp 7] (sub afs 0)
def aio:wT [11] f151 zH:=fT
def Sc:Ko [15] f152:=fb
def aft:=Sc.1
def C2:=eX.mk 2 [.tmp 4,.tmp 5] (sub aft 0)
def aip:wT [15] f152 C2:=fT
def pA:=by
 have h:=f9P b68 acH.1 (f9P b29 ab5.1 (f9P b79 acS.1 (f9P b25 ab1.1 (f9P afW SO.1 (f9P afU SL.1 (f9P afs Sb.1 (gr aft Sc.1)))))));simp only[fb,acH,ab5,acS,ab1,SO,SL,Sb,Sc,zj,seval] at h;exact h
def E68:=pA.1
def E29:=pA.2.1
def Nc:=pA.2.2.1
def E25:=pA.2.2.2.1
def JA:=pA.2.2.2.2.1
def Va:=pA.2.2.2.2.2.1
def D2:=pA.2.2.2.2.2.2.1
def Ju:=pA.2.2.2.2.2.2.2
def Sd:Ko [7000042] f153:=fb
def afu:=Sd.1
def BD:=eX.mk 3 [.tmp 6,.tmp 7] (sub afu 0)
def aiq:wT [7000042] f153 BD:=fT
def acB:Ko [] f61:=fb
def b61:=acB.1
def abh:=eX.mk 2 [.tmp 4] (sub b61 0)
def acf:Ko [] f38:=fb
def b38:=acf.1
def agZ:=eX.mk 2 [.tmp 4] (sub b38 0)
def ach:Ko [57] f40:=fb
def b40:=ach.1
def abd:=eX.mk 2 [.tmp 4] (sub b40 0)
def am0:wT [57] f40 abd:=fT
abbrev adk:=sub b40 26
abbrev adl:=sub b40 9
def R8:Ko [5000016] f148:=fb
def Vv:=R8.1
def QF:=eX.mk 2 [.tmp 4] (sub Vv 0)
def aim:wT [5000016] f148 QF:=fT
abbrev WG:=sub Vv 60
abbrev WH:=sub Vv 48
def acU:Ko [] f81:=fb
def b81:=acU.1
def ahk:=eX.mk 2 [.tmp 4] (sub b81 0)
def acP:Ko [8,1002001005] f76:=fb
def b76:=acP.1
def abl:=eX.mk 2 [.fI 4 4] (sub b76 0)
def am4:wT [8,1002001005] f76 abl:=fT
def abZ:Ko [1006000003] f23:=fb
def b23:=abZ.1
def aa9:=eX.mk 1 [.fI 2 3] (sub b23 0)
def amX:wT [1006000003] f23 aa9:=fT
abbrev adg:=sub b23 30
abbrev adh:=sub b23 18
abbrev adi:=sub b23 8
def pB:=by
 have h:=f9P afu Sd.1 (f9P b61 acB.1 (f9P b38 acf.1 (f9P b40 ach.1 (f9P Vv R8.1 (f9P b81 acU.1 (f9P b76 acP.1 (gr b23 abZ.1)))))));simp only[fb,Sd,acB,acf,ach,R8,acU,acP,abZ,zj,seval] at h;exact h
def M9:=pB.1
def E61:=pB.2.1
def E38:=pB.2.2.1
def JC:=pB.2.2.2.1
def ye:=pB.2.2.2.2.1
def Yc:=pB.2.2.2.2.2.1
def E76:=pB.2.2.2.2.2.2.1
def UY:=pB.2.2.2.2.2.2.2
def ab9:Ko [] f33:=fb
def b33:=ab9.1
def agX:=eX.mk 1 [.fI 2 4] (sub b33 0)
def acb:Ko [] f35:=fb
def b35:=acb.1
def NX:=eX.mk 1 [.tmp 2] (sub b35 0)
def abU:Ko [] f18:=fb
def b18:=abU.1
def NV:=eX.mk 2 [.tmp 4] (sub b18 0)
def acs:Ko [] f51:=fb
def b51:=acs.1
def abf:=eX.mk 2 [.tmp 4,.tmp 5,.tmp 6] (sub b51 0)
def acr:Ko [11] f50:=fb
def b50:=acr.1
def Kr:=eX.mk 2 [.fI 4 7] (sub b50 0)
def am1:wT [11] f50 Kr:=fT
def RD:Ko [] f113:=fb
def ae7:=RD.1
def Yy:=eX.mk 1 [.fI 2 3] (sub ae7 0)
def acv:Ko [] f53:=fb
def b53:=acv.1
def abg:=eX.mk 4 [.fI 8 3,.fI 9 7] (sub b53 0)
def abR:Ko [] f16:=fb
def b16:=abR.1
def yi:=eX.mk 2 [.fI 4 3,.fI 5 7] (sub b16 0)
def ou:=by
 have h:=f9P b33 ab9.1 (f9P b35 acb.1 (f9P b18 abU.1 (f9P b51 acs.1 (f9P b50 acr.1 (f9P ae7 RD.1 (f9P b53 acv.1 (gr b16 abR.1)))))));simp only[fb,ab9,acb,abU,acs,acr,RD,acv,abR,zj,seval] at h;exact h
def E33:=ou.1
def E35:=ou.2.1
def Ya:=ou.2.2.1
def E51:=ou.2.2.2.1
def E50:=ou.2.2.2.2.1
def Z8:=ou.2.2.2.2.2.1
def E53:=ou.2.2.2.2.2.2.1
def Jw:=ou.2.2.2.2.2.2.2
def Se:Ko [] f154:=fb
def afv:=Se.1
def QG:=eX.mk 1 [.tmp 2] (sub afv 0)
def SN:Ko [] f207:=fb
def afV:=SN.1
def Ze:=eX.mk 1 [.tmp 2] (sub afV 0)
def Sf:Ko [] f155:=fb
def afw:=Sf.1
def L2:=eX.mk 3 [.tmp 6] (sub afw 0)
def acZ:Ko [] f86:=fb
def b86:=acZ.1
def HY:=eX.mk 2 [.fI 4 4,.fI 5 7] (sub b86 0)
def ac0:Ko [5000011] f87:=fb
def b87:=ac0.1
def abo:=eX.mk 2 [.tmp 4] (sub b87 0)
def am5:wT [5000011] f87 abo:=fT
def acg:Ko [7] f39:=fb
def b39:=acg.1
def abc:=eX.mk 2 [.tmp 4] (sub b39 0)
def amZ:wT [7] f39 abc:=fT
def acW:Ko [] f83:=fb
def b83:=acW.1
def N1:=eX.mk 3 [.fI 6 4,.tmp 7] (sub b83 0)
def acX:Ko [] f84:=fb
def b84:=acX.1
def abm:=eX.mk 2 [.fI 4 4,.tmp 5] (sub b84 0)
def ov:=by
 have h:=f9P afv Se.1 (f9P afV SN.1 (f9P afw Sf.1 (f9P b86 acZ.1 (f9P b87 ac0.1 (f9P b39 acg.1 (f9P b83 acW.1 (gr b84 acX.1)))))));simp only[fb,Se,SN,Sf,acZ,ac0,acg,acW,acX,zj,seval] at h;exact h
def aez:=ov.1
def ajP:=ov.2.1
def Z9:=ov.2.2.1
def E86:=ov.2.2.2.1
def E87:=ov.2.2.2.2.1
def E39:=ov.2.2.2.2.2.1
def E83:=ov.2.2.2.2.2.2.1
def E84:=ov.2.2.2.2.2.2.2
def acY:Ko [] f85:=fb
def b85:=acY.1
def abn:=eX.mk 3 [.fI 6 4,.tmp 7] (sub b85 0)
def E85:=by
 have h:=gr b85 acY.1;simp only[fb,acY,zj,seval] at h;exact h
end Go.Proofs.YtcbopkblmebjiaaGreatDoor
namespace Go.Abs
section
open Go Go.RowKit
theorem eY{α:Type}:∀(l:List α)(i:Nat),nth l i=l[i]?
 | [],_=>by rfl
 |_::_,0=>by rfl
 |_::l,n+1=>by simp[nth,eY l n]
theorem fJ{α:Type}:∀(l:List α)(i:Nat)(x:α),jY l i x=l.set i x
 | [],_,_=>by rfl
 |_::_,0,_=>by rfl
 |_::l,n+1,x=>by simp[jY,fJ l n]
def gD(j:J)(id:Nat)(ob:Option Nat):J:=⟨fun i=>if i=id then ob else j i,j.X⟩
structure Quiet(w w':World):Prop where
 size:w.heap.size<=w'.heap.size
 os:w'.os=w.os
 tape:w'.tape=w.tape
 output:w'.output=w.output
theorem lt_of_block{w:World}{b:Nat}{o:Obj}(h:w.heap[b]?=some o):b<w.heap.size:=by
 grind
theorem aJ{α:Type}{l:List α}{i:Nat}{x:α}(h:l[i]?=some x):i<l.length:=kW
section
variable {j:J} {M:aO} {w w':World}
theorem qp{j':J}{M':aO}(hr:Rel j M w)(ext:Ext j M w j' M' w'){i sz ver:Nat}{xs:List ag}(h:M[i]?=some (.arr sz ver xs))(hj:j' i=j i)(hb:∀b,j i=some b->w'.heap[b]?=w.heap[b]?) :
  (xs=[]/\j' i=none)\/∃b vs t,j' i=some b/\w'.heap[b]?=some (.cells vs t (0,0))/\xs.length*sz<=vs.size/\(∀x,x∈xs->x.cells.length=sz) /\
  ∀(q:Nat)(x:ag)(k:Nat)(c:ag),xs[q]?=some x->x.cells[k]?=some c->∃v,vs[q*sz+k]?=some v/\fK w' (ow j' M' w') c v:=by
 rcases hr.arr i _ _ _ h with he|⟨b,vs,t,h1,h2,h3,h4,h5⟩
 ·grind
 refine .inr ⟨b,vs,t,hj.trans h1,(hb b h1).trans h2,h3,h4,fun q x k c hx hk=>?_⟩
 obtain⟨u,h6,h7⟩:=h5 q x k c hx hk;exact⟨u,h6,h7.mono ext.im⟩
theorem Rel.yF(hr:Rel j M w){i sz ver b:Nat}{xs:List ag}(h:M[i]?=some (.arr sz ver xs))(hj:j i=some b):∃b vs t,j i=some b/\w.heap[b]?=some (.cells vs t (0,0))/\xs.length*sz<=vs.size/\(∀x,x∈xs->x.cells.length=sz) /\
  ∀(q:Nat)(x:ag)(k:Nat)(c:ag),xs[q]?=some x->x.cells[k]?=some c->∃v,vs[q*sz+k]?=some v/\fK w (ow j M w) c v:=by
 rcases hr.arr i _ _ _ h with ⟨_,he⟩|hh
 ·grind
 omega
def xD{bx:dg}{i:Nat}(h:i<M.length):(M++[bx])[i]?=M[i]?:=kW
def kd{bx:dg}:(M++[bx])[M.length]?=some bx:=dk
theorem Ext.push{ob:Option Nat}{bx:dg}(hob:∀b,ob=some b->w.heap.size<=b)(q:Quiet w w')(hb:∀b,b<w.heap.size->w'.heap[b]?=w.heap[b]?) :
  Ext j M w (gD j M.length ob) (M++[bx]) w' where
 len:=dk
 size:=q.size
 os:=q.os
 tape:=q.tape
 output:=q.output
 X:=rfl
 fix:=fun i bx h _=>by
  have hi:=aJ h;exact⟨by simp[gD,gA hi],bx,by rw[xD hi]; omega,rfl⟩
 tick:=fun i sz n h=>by
  have hi:=aJ h;exact⟨n,ak _,by rw[xD hi]; omega,fun _=>⟨by simp[gD,gA hi],fun b vs t _ hv=>⟨vs,(hb b (lt_of_block hv)).trans hv,rfl⟩⟩⟩
 arr:=fun i sz v xs h=>by
  have hi:=aJ h;exact .inr ⟨v,xs,by rw[xD hi]; omega,ak _,fun _=>⟨by simp[gD,gA hi],rfl,fun b vs t _ hv=>⟨vs,(hb b (lt_of_block hv)).trans hv,rfl⟩⟩⟩
 tags:=fun b0 vs0 t0 fr0 h=>⟨vs0,fr0,(hb b0 (lt_of_block h)).trans h,rfl⟩
 im:=fun b off h=>by
  refine⟨⟨bz h.1 q.size,fun id hid hj=>?_,h.3⟩,World.cell?_of_block (hb b h.1)⟩
  by_cases he:id=M.length
  ·have:ob=some b:=by grind [gD]
   have:=hob b this;have:=h.1;omega
  ·have cA:id<M.length:=kW;rw[xD cA];exact h.2 id cA (by grind [gD])
 uL:=fun b cA h=>by
  grind [ob,gD]
theorem Rel.aiL(hr:Rel j M w){ob:Option Nat}{bx:dg}(hob:∀b,ob=some b->w.heap.size<=b/\b<w'.heap.size)(q:Quiet w w')(hb:∀b,b<w.heap.size->w'.heap[b]?=w.heap[b]?)
  (hbox:bx.fixed=true->∃b,ob=some b/\(Ext j M w (gD j M.length ob) (M++[bx]) w'->Holds (gD j M.length ob) (M++[bx]) w' b bx))
  (htick:∀sz n b,bx = .tick sz n->ob=some b->∃vs t,w'.heap[b]?=some (.cells vs t (0,0)))
  (harr:∀sz ver xs,bx = .arr sz ver xs->(xs=[]/\ob=none)\/∃b vs t,ob=some b/\w'.heap[b]?=some (.cells vs t (0,0))/\xs.length*sz<=vs.size/\(∀x,x∈xs->x.cells.length=sz) /\
   ∀j' M',Ext j M w j' M' w'->∀(q:Nat)(x:ag)(k:Nat)(c:ag),xs[q]?=some x->x.cells[k]?=some c->∃v,vs[q*sz+k]?=some v/\fK w' (ow j' M' w') c v:=by intro _ _ _ h; cases h):Rel (gD j M.length ob) (M++[bx]) w':=by
 have ext:Ext j M w (gD j M.length ob) (M++[bx]) w':=Ext.push (fun b h=>(hob b h).1) q hb
 have up:∀i,i<M.length->gD j M.length ob i=j i:=fun i hi=>by simp[gD,gA hi]
 have cas:∀i x,(M++[bx])[i]?=some x->(i<M.length/\M[i]?=some x)\/(i=M.length/\x=bx):=by
  grind
 refine⟨fun i i' b hi hi' h h'=>?_,fun i b hi h=>?_,fun i bx' h hf=>?_,fun i sz n b h hj=>?_,fun i sz ver xs h=>?_,fun i b hi h off hx=>?_,fun b off h=>bz (hr.Ah b off h) q.size⟩
 ·simp only[aR,aD,aF] at hi hi'
  by_cases e:i=M.length<;>by_cases e':i'=M.length
  ·omega
  ·have h1:ob=some b:=by simpa[gD,e] using h
   rw[up i' aM] at h';have:=hr.lt i' b aM h';have:=(hob b h1).1;omega
  ·have h1:ob=some b:=by simpa[gD,e'] using h'
   rw[up i aM] at h;have:=hr.lt i b aM h;have:=(hob b h1).1;omega
  ·rw[up i aM] at h;rw[up i' aM] at h';exact hr.inj i i' b aM aM h h'
 ·simp only[aR,aD,aF] at hi
  by_cases e:i=M.length
  ·exact(hob b (by simpa[gD,e] using h)).2
  ·rw[up i aM] at h;exact bz (hr.lt i b aM h) q.size
 ·rcases cas i _ h with ⟨hi,h⟩|⟨rfl,hx⟩
  ·obtain⟨b,h1,h2⟩:=hr.fix i bx' h hf;exact⟨b,by rw[up i hi]; exact h1,h2.mono ext (hb b (hr.lt i b hi h1))⟩
  ·subst hx;obtain⟨b,h1,h2⟩:=hbox hf;exact⟨b,by simp[gD,h1],h2 ext⟩
 ·rcases cas i _ h with ⟨hi,h⟩|⟨rfl,hx⟩
  ·rw[up i hi] at hj;obtain⟨vs,t,h1⟩:=hr.tick i sz n b h hj;exact⟨vs,t,(hb b (lt_of_block h1)).trans h1⟩
  ·exact htick sz n b hx.symm (by simpa[gD] using hj)
 ·rcases cas i _ h with ⟨hi,h⟩|⟨rfl,hx⟩
  ·exact qp hr ext h (up i hi) fun b h1=>hb b (hr.lt i b hi h1)
  grind [gD]
 ·by_cases e:i=M.length
  ·have h1:=(hob b (by simpa[gD,e] using h)).1
   have h2:=hr.Ah b off hx;omega
  ·exact hr.u9 i b (by simp at hi; omega) (by rw[up i (by simp at hi; omega)] at h; exact h) off hx
def Rel.push(hr:Rel j M w){ob:Option Nat}{bx:dg}(hob:∀b,ob=some b->w.heap.size<=b/\b<w'.heap.size)(q:Quiet w w')(hb:∀b,b<w.heap.size->w'.heap[b]?=w.heap[b]?)
  (hbox:bx.fixed=true->∃b,ob=some b/\∀j' M',Ext j M w j' M' w'->Holds j' M' w' b bx)
  (htick:∀sz n b,bx = .tick sz n->ob=some b->∃vs t,w'.heap[b]?=some (.cells vs t (0,0)))
  (harr:∀sz ver xs,bx = .arr sz ver xs->(xs=[]/\ob=none)\/∃b vs t,ob=some b/\w'.heap[b]?=some (.cells vs t (0,0))/\xs.length*sz<=vs.size/\(∀x,x∈xs->x.cells.length=sz) /\
   ∀j' M',Ext j M w j' M' w'->∀(q:Nat)(x:ag)(k:Nat)(c:ag),xs[q]?=some x->x.cells[k]?=some c->∃v,vs[q*sz+k]?=some v/\fK w' (ow j' M' w') c v:=by intro _ _ _ h; cases h):Rel (gD j M.length ob) (M++[bx]) w' :=
 hr.aiL hob q hb (fun hf=>(hbox hf).imp fun b h=>⟨h.1,fun hx=>h.2 _ _ hx⟩) htick harr
theorem dZ{id:Nat}{bx:dg}(h:id<M.length):(M.set id bx)[id]?=some bx:=kW
def cT{id i:Nat}{bx:dg}(h:id≠i):(M.set id bx)[i]?=M[i]?:=kW
theorem Ext.store{id b:Nat}{bx bx':dg}(hM:M[id]?=some bx)(hfx:bx.fixed=true)(htag:bx'.tag=bx.tag)(hj:j id=some b)(hr:Rel j M w)(q:Quiet w w')
  (hb:∀b',b'≠b->b'<w.heap.size->w'.heap[b']?=w.heap[b']?) (htg:∀(vs:Array Value)(t:TypeId)(fr:Nat×Nat),w.heap[b]?=some (.cells vs t fr)->∃vs' fr',w'.heap[b]?=some (.cells vs' t fr')/\vs'.size=vs.size):Ext j M w j (M.set id bx') w' where
 len:=dk
 size:=q.size
 os:=q.os
 tape:=q.tape
 output:=q.output
 X:=rfl
 fix:=fun i b0 h _=>⟨rfl,by
  grind⟩
 tick:=fun i sz n h=>by
  have e:id≠i:=by rintro rfl; rw[hM] at h; cases h; cases hfx
  refine⟨n,ak _,by rw[cT e]; omega,fun _=>⟨rfl,fun b' vs t hb' hv=>⟨vs,?_,rfl⟩⟩⟩
  refine(hb b' ?_ (lt_of_block hv)).trans hv;rintro rfl;exact e (hr.inj _ _ _ (aJ hM) (aJ h) hj hb')
 arr:=fun i sz v xs h=>by
  have e:id≠i:=by rintro rfl; rw[hM] at h; cases h; cases hfx
  refine .inr ⟨v,xs,by rw[cT e]; omega,ak _,fun _=>⟨rfl,rfl,fun b' vs t hb' hv=>⟨vs,?_,rfl⟩⟩⟩
  refine(hb b' ?_ (lt_of_block hv)).trans hv;rintro rfl;exact e (hr.inj _ _ _ (aJ hM) (aJ h) hj hb')
 tags:=fun b0 vs0 t0 fr0 h=>by
  grind
 im:=fun b0 off h=>by
  have hne:b0≠b:=by
   rintro rfl;obtain⟨sz,n,h1,_⟩:=h.2 id (aJ hM) hj;rw[hM] at h1; cases h1; cases hfx
  refine⟨⟨bz h.1 q.size,fun i hi hji=>?_,h.3⟩,World.cell?_of_block (w:=w) (hb b0 hne h.1)⟩
  have e:id≠i:=kW;rw[cT e];exact h.2 i (by simpa using hi) hji
 uL:=fun b0 cA h=>by
  grind
theorem Rel.store{id b:Nat}{bx bx':dg}(hM:M[id]?=some bx)(hfx:bx.fixed=true)(htag:bx'.tag=bx.tag)(hj:j id=some b)(hr:Rel j M w)(q:Quiet w w')
  (hb:∀b',b'≠b->b'<w.heap.size->w'.heap[b']?=w.heap[b']?) (htg:∀(vs:Array Value)(t:TypeId)(fr:Nat×Nat),w.heap[b]?=some (.cells vs t fr)->∃vs' fr',w'.heap[b]?=some (.cells vs' t fr')/\vs'.size=vs.size) (hh:∀j' M',Ext j M w j' M' w'->Holds j' M' w' b bx'):Rel j (M.set id bx') w':=by
 have ext  := Ext.store hM hfx htag hj hr q hb htg;refine⟨fun i i' b0 hi hi'=>hr.inj i i' b0 (by simpa using hi) (by simpa using hi'),fun i b0 hi h=>bz (hr.lt i b0 (by simpa using hi) h) q.size,fun i bx0 h hf=>?_,fun i sz n b0 h hji=>?_,fun i sz ver xs h=>?_,fun i b0 hi h=>hr.u9 i b0 (by simpa using hi) h,fun b0 off h=>bz (hr.Ah b0 off h) q.size⟩
 ·by_cases e:id=i
  ·grind
  ·rw[cT e] at h;obtain⟨b0,h1,h2⟩:=hr.fix i _ h hf;refine⟨b0,h1,h2.mono ext (hb b0 ?_ (hr.lt i b0 (aJ h) h1))⟩;rintro rfl;exact e (hr.inj _ _ _ (aJ hM) (aJ h) hj h1)
 ·have e:id≠i:=by
   rintro rfl;rw[dZ (aJ hM)] at h;injection h with h
   have:=Bn htag hfx;rw[h] at this; cases this
  rw[cT e] at h;obtain⟨vs,t0,h1⟩:=hr.tick i sz n b0 h hji;refine⟨vs,t0,(hb b0 ?_ (lt_of_block h1)).trans h1⟩;rintro rfl;exact e (hr.inj _ _ _ (aJ hM) (aJ h) hj hji)
 ·have e:id≠i:=by
   rintro rfl;rw[dZ (aJ hM)] at h;injection h with h
   have:=Bn htag hfx;rw[h] at this; cases this
  rw[cT e] at h;refine qp hr ext h rfl fun b0 h1=>hb b0 ?_ (hr.lt i b0 (aJ h) h1)
  rintro rfl;exact e (hr.inj _ _ _ (aJ hM) (aJ h) hj h1)
theorem Ext.G4{k b sz n n':Nat}{vs vs':Array Value}{t:TypeId}(hM:M[k]?=some (.tick sz n))(hj:j k=some b)(hr:Rel j M w)(q:Quiet w w')
  (hb:∀b',b'≠b->b'<w.heap.size->w'.heap[b']?=w.heap[b']?) (hw:w.heap[b]?=some (.cells vs t (0,0))) (hw':w'.heap[b]?=some (.cells vs' t (0,0))) (hvs:vs'.size=vs.size)
  (hq:∀p,p<n*sz->vs'[p]?=vs[p]?) (hn:n<=n'):Ext j M w j (M.set k (.tick sz n')) w' where
 len:=dk
 size:=q.size
 os:=q.os
 tape:=q.tape
 output:=q.output
 X:=rfl
 fix:=fun i b0 h hf=>⟨rfl,by
  have e:k≠i:=by rintro rfl; rw[hM] at h; cases h; cases hf
  grind⟩
 tick:=fun i sz0 n0 h=>by
  grind
 arr:=fun i sz v xs h=>by
  grind
 tags:=fun b0 vs0 t0 fr0 h=>by
  grind
 im:=fun b0 off h=>by
  refine⟨⟨bz h.1 q.size,fun i hi hji=>?_,h.3⟩,?_⟩
  ·by_cases e:k=i
   ·subst e;obtain⟨sz0,n0,h1,h2⟩:=h.2 k (aJ hM) hji;rw[hM] at h1;injection h1 with h1; injection h1 with e1 e2
    subst e1; subst e2;exact⟨sz,n',dZ (aJ hM),bz h2 (bd _ hn)⟩
   ·rw[cT e];exact h.2 i (by simpa using hi) hji
  ·by_cases e:b0=b
   ·subst e;obtain⟨sz0,n0,h1,h2⟩:=h.2 k (aJ hM) hj;rw[hM] at h1
    grind [World.cell?]
   ·exact World.cell?_of_block (w:=w) (hb b0 e h.1)
 uL:=fun b0 cA h=>by
  grind
theorem Rel.G4{k b sz n n':Nat}{vs vs':Array Value}{t:TypeId}(hM:M[k]?=some (.tick sz n))(hj:j k=some b)(hr:Rel j M w)(q:Quiet w w')
  (hb:∀b',b'≠b->b'<w.heap.size->w'.heap[b']?=w.heap[b']?) (hw:w.heap[b]?=some (.cells vs t (0,0))) (hw':w'.heap[b]?=some (.cells vs' t (0,0))) (hvs:vs'.size=vs.size)
  (hq:∀p,p<n*sz->vs'[p]?=vs[p]?) (hn:n<=n'):Rel j (M.set k (.tick sz n')) w':=by
 have ext:Ext j M w j (M.set k (.tick sz n')) w':=Ext.G4 hM hj hr q hb hw hw' hvs hq hn;refine⟨fun i i' b0 hi hi'=>hr.inj i i' b0 kW kW,fun i b0 hi h=>bz (hr.lt i b0 kW h) q.size,fun i bx0 h hf=>?_,fun i sz0 n0 b0 h hji=>?_,fun i sz ver xs h=>?_,fun i b0 hi h=>hr.u9 i b0 kW h,fun b0 off h=>bz (hr.Ah b0 off h) q.size⟩
 ·have e:k≠i:=by rintro rfl; rw[dZ (aJ hM)] at h; cases h; cases hf
  rw[cT e] at h;obtain⟨b0,h1,h2⟩:=hr.fix i bx0 h hf;refine⟨b0,h1,h2.mono ext (hb b0 ?_ (hr.lt i b0 (aJ h) h1))⟩;rintro rfl;exact e (hr.inj _ _ _ (aJ hM) (aJ h) hj h1)
 ·by_cases e:k=i
  ·grind
  ·rw[cT e] at h;obtain⟨vs0,t0,h1⟩:=hr.tick i sz0 n0 b0 h hji
   grind
 ·have e:k≠i:=kW;rw[cT e] at h;refine qp hr ext h rfl fun b0 h1=>hb b0 ?_ (hr.lt i b0 (aJ h) h1)
  rintro rfl;exact e (hr.inj _ _ _ (aJ hM) (aJ h) hj h1)
theorem Ext.Co{k b' sz n n':Nat}(hM:M[k]?=some (.tick sz n))(q:Quiet w w')(hb:∀b,b<w.heap.size->w'.heap[b]?=w.heap[b]?)(hf:w.heap.size<=b')(hn:n<n') :
  Ext j M w (gD j k (some b')) (M.set k (.tick sz n')) w' where
 len:=dk
 size:=q.size
 os:=q.os
 tape:=q.tape
 output:=q.output
 X:=rfl
 fix:=fun i b0 h hf=>by
  have e:k≠i:=by rintro rfl; rw[hM] at h; cases h; cases hf
  exact⟨by simp[gD,dM e],b0,by rw[cT e]; omega,rfl⟩
 tick:=fun i sz0 n0 h=>by
  by_cases e:k=i
  ·grind
  ·exact⟨n0,ak _,by rw[cT e]; omega,fun _=>⟨by simp[gD,dM e],fun b vs0 t0 _ hv=>⟨vs0,(hb b (lt_of_block hv)).trans hv,rfl⟩⟩⟩
 arr:=fun i sz v xs h=>by
  have e:k≠i:=kW;exact .inr ⟨v,xs,by rw[cT e]; omega,ak _,fun _=>⟨by simp[gD,dM e],rfl,fun b vs0 t0 _ hv=>⟨vs0,(hb b (lt_of_block hv)).trans hv,rfl⟩⟩⟩
 tags:=fun b0 vs0 t0 fr0 h=>⟨vs0,fr0,(hb b0 (lt_of_block h)).trans h,rfl⟩
 im:=fun b0 off h=>by
  refine⟨⟨bz h.1 q.size,fun i hi hji=>?_,h.3⟩,World.cell?_of_block (w:=w) (hb b0 h.1)⟩
  have e:k≠i:=by
   rintro rfl;have:b'=b0:=by grind [gD]
   have:=h.1;omega
  rw[cT e];exact h.2 i kW (by simp_all [gD,dM])
 uL:=fun b0 cA h=>by
  grind [gD]
def Rel.Co{k b' sz n n':Nat}{vs:Array Value}{t:TypeId}(hM:M[k]?=some (.tick sz n))(hr:Rel j M w)(q:Quiet w w')(hb:∀b,b<w.heap.size->w'.heap[b]?=w.heap[b]?)
  (hf:w.heap.size<=b') (hw':w'.heap[b']?=some (.cells vs t (0,0))) (hn:n<n'):Rel (gD j k (some b')) (M.set k (.tick sz n')) w':=by
 have ext:Ext j M w (gD j k (some b')) (M.set k (.tick sz n')) w':=Ext.Co hM q hb hf hn;refine⟨fun i i' b0 hi hi' h h'=>?_,fun i b0 hi h=>?_,fun i bx0 h hf=>?_,fun i sz0 n0 b0 h hji=>?_,fun i sz ver xs h=>?_,fun i b0 hi h off hx=>?_,fun b0 off h=>bz (hr.Ah b0 off h) q.size⟩
 ·simp only[eD] at hi hi'
  by_cases e:i=k<;>by_cases e':i'=k
  ·omega
  ·have h1:b'=b0:=by simpa[gD,e] using h
   have:=hr.lt i' b0 hi' (by simpa[gD,e'] using h')
   omega
  ·have h1:b'=b0:=by simpa[gD,e'] using h'
   have:=hr.lt i b0 hi (by simpa[gD,e] using h)
   omega
  ·exact hr.inj i i' b0 hi hi' (by simpa[gD,e] using h) (by simpa[gD,e'] using h')
 ·simp only[eD] at hi
  by_cases e:i=k
  ·have h1:b'=b0:=by simpa[gD,e] using h
   subst h1;exact lt_of_block hw'
  ·exact bz (hr.lt i b0 hi (by simpa[gD,e] using h)) q.size
 ·have e:k≠i:=by rintro rfl; rw[dZ (aJ hM)] at h; cases h; cases hf
  rw[cT e] at h;obtain⟨b0,h1,h2⟩:=hr.fix i bx0 h hf;exact⟨b0,by simpa[gD,dM e] using h1,h2.mono ext (hb b0 (hr.lt i b0 (aJ h) h1))⟩
 ·by_cases e:i=k
  ·have h1:b'=b0:=by simpa[gD,e] using hji
   subst h1;exact⟨vs,t,hw'⟩
  ·rw[cT (dM e)] at h;obtain⟨vs0,t0,h1⟩:=hr.tick i sz0 n0 b0 h (by simpa[gD,e] using hji)
   exact⟨vs0,t0,(hb b0 (lt_of_block h1)).trans h1⟩
 ·have e:k≠i:=by rintro rfl; rw[dZ (aJ hM)] at h; cases h
  rw[cT e] at h;exact qp hr ext h (by simp[gD,dM e]) fun b0 h1=>hb b0 (hr.lt i b0 (aJ h) h1)
 ·by_cases e:i=k
  ·have h1:b'=b0:=by simpa[gD,e] using h
   have h2:=hr.Ah b0 off hx;omega
  ·exact hr.u9 i b0 (by simpa using hi) (by simpa[gD,e] using h) off hx
end
section
variable {j:J} {M:aO} {w w':World}
def Eg(j:J)(M:aO)(w:World)(b sz:Nat)(xs:List ag):Prop:=∃vs t,w.heap[b]?=some (.cells vs t (0,0))/\xs.length*sz<=vs.size/\(∀x,x∈xs->x.cells.length=sz) /\
  ∀(q:Nat)(x:ag)(k:Nat)(c:ag),xs[q]?=some x->x.cells[k]?=some c->∃v,vs[q*sz+k]?=some v/\fK w (ow j M w) c v
def Ext.Ek{id b sz ver ver':Nat}{xs xs':List ag}(hM:M[id]?=some (.arr sz ver xs))(hj:j id=some b)(hr:Rel j M w)(q:Quiet w w')
  (hb:∀b',b'≠b->b'<w.heap.size->w'.heap[b']?=w.heap[b']?) (hw:∀vs t,w.heap[b]?=some (.cells vs t (0,0))->∃vs',w'.heap[b]?=some (.cells vs' t (0,0))/\vs'.size=vs.size)
  (hv:ver<=ver') (hl:ver'=ver->xs'.length=xs.length):Ext j M w j (M.set id (.arr sz ver' xs')) w' where
 len:=dk
 size:=q.size
 os:=q.os
 tape:=q.tape
 output:=q.output
 X:=rfl
 fix:=fun i b0 h hf=>⟨rfl,by
  have e:id≠i:=by rintro rfl; rw[hM] at h; cases h; cases hf
  exact⟨b0,by rw[cT e]; exact h,rfl⟩⟩
 tick:=fun i sz0 n0 h=>by
  have e:id≠i:=by rintro rfl; rw[hM] at h; cases h
  refine⟨n0,ak _,by rw[cT e]; exact h,fun _=>⟨rfl,fun b' vs0 t0 hb' hv=>⟨vs0,?_,rfl⟩⟩⟩
  refine(hb b' ?_ (lt_of_block hv)).trans hv;rintro rfl;exact e (hr.inj _ _ _ (aJ hM) (aJ h) hj hb')
 arr:=fun i sz0 v0 xs0 h=>by
  by_cases e:id=i
  ·subst e;rw[hM] at h;injection h with h; injection h with e1 e2 e3
   subst e1; subst e2; subst e3;refine .inr ⟨ver',xs',dZ (aJ hM),hv,fun he=>⟨rfl,hl he,fun b' vs t hb' hv=>?_⟩⟩
   rw[hj] at hb'; cases hb';exact hw vs t hv
  ·refine .inr ⟨v0,xs0,by rw[cT e]; exact h,ak _,fun _=>⟨rfl,rfl,fun b' vs t hb' hv=>⟨vs,?_,rfl⟩⟩⟩
   refine(hb b' ?_ (lt_of_block hv)).trans hv;rintro rfl;exact e (hr.inj _ _ _ (aJ hM) (aJ h) hj hb')
 tags:=fun b0 vs0 t0 fr0 h=>by
  by_cases e:b0=b
  ·subst e;obtain⟨b',vs,t,g1,g2,_⟩:=hr.yF hM hj;rw[hj] at g1; cases g1;rw[g2] at h; injection h with h; injection h with h1 h2 h3
   subst h1; subst h2;obtain⟨vs',k1,k2⟩:=hw vs t g2;exact⟨_,_,k1,k2⟩
  ·exact⟨vs0,fr0,(hb b0 e (lt_of_block h)).trans h,rfl⟩
 im:=fun b0 off h=>by
  have hne:b0≠b:=by
   rintro rfl;obtain⟨sz,n,h1,_⟩:=h.2 id (aJ hM) hj;rw[hM] at h1; cases h1
  refine⟨⟨bz h.1 q.size,fun i hi hji=>?_,h.3⟩,World.cell?_of_block (w:=w) (hb b0 hne h.1)⟩
  have e:id≠i:=by rintro rfl; rw[hj] at hji; injection hji with hji; exact hne hji.symm
  rw[cT e];exact h.2 i (by simpa using hi) hji
 uL:=fun b0 cA h=>by
  have hne:b0≠b:=by rintro rfl; exact h id (aJ hM) hj
  exact⟨hb b0 hne cA,fun i hi=>h i (by simpa using hi)⟩
def Rel.Ek{id b sz ver ver':Nat}{xs xs':List ag}(hM:M[id]?=some (.arr sz ver xs))(hj:j id=some b)(hr:Rel j M w)(q:Quiet w w')
  (hb:∀b',b'≠b->b'<w.heap.size->w'.heap[b']?=w.heap[b']?) (hw:∀vs t,w.heap[b]?=some (.cells vs t (0,0))->∃vs',w'.heap[b]?=some (.cells vs' t (0,0))/\vs'.size=vs.size)
  (hv:ver<=ver') (hl:ver'=ver->xs'.length=xs.length) (hh:∀j' M',Ext j M w j' M' w'->Eg j' M' w' b sz xs'):Rel j (M.set id (.arr sz ver' xs')) w':=by
 have ext:Ext j M w j (M.set id (.arr sz ver' xs')) w':=Ext.Ek hM hj hr q hb hw hv hl;refine⟨fun i i' b0 hi hi'=>hr.inj i i' b0 (by simpa using hi) (by simpa using hi'),fun i b0 hi h=>bz (hr.lt i b0 (by simpa using hi) h) q.size,fun i bx0 h hf=>?_,fun i sz0 n0 b0 h hji=>?_,fun i sz0 v0 xs0 h=>?_,fun i b0 hi h=>hr.u9 i b0 (by simpa using hi) h,fun b0 off h=>bz (hr.Ah b0 off h) q.size⟩
 ·have e:id≠i:=by rintro rfl; rw[dZ (aJ hM)] at h; cases h; cases hf
  rw[cT e] at h;obtain⟨b0,h1,h2⟩:=hr.fix i bx0 h hf;refine⟨b0,h1,h2.mono ext (hb b0 ?_ (hr.lt i b0 (aJ h) h1))⟩;rintro rfl;exact e (hr.inj _ _ _ (aJ hM) (aJ h) hj h1)
 ·have e:id≠i:=by rintro rfl; rw[dZ (aJ hM)] at h; cases h
  rw[cT e] at h;obtain⟨vs,t0,h1⟩:=hr.tick i sz0 n0 b0 h hji;refine⟨vs,t0,(hb b0 ?_ (lt_of_block h1)).trans h1⟩;rintro rfl;exact e (hr.inj _ _ _ (aJ hM) (aJ h) hj hji)
 ·by_cases e:id=i
  ·subst e;rw[dZ (aJ hM)] at h;injection h with h; injection h with e1 e2 e3
   subst e1; subst e2; subst e3;obtain⟨vs,t,g⟩:=hh _ _ ext;exact .inr ⟨b,vs,t,hj,g⟩
  ·rw[cT e] at h;refine qp hr ext h rfl fun b0 h1=>hb b0 ?_ (hr.lt i b0 (aJ h) h1)
   rintro rfl;exact e (hr.inj _ _ _ (aJ hM) (aJ h) hj h1)
def Ext.freeze{id sz ver:Nat}{xs:List ag}(hM:M[id]?=some (.arr sz ver xs)):Ext j M w j (M.set id (.tick sz xs.length)) w where
 len:=dk
 size:=ak _
 os:=rfl
 tape:=rfl
 output:=rfl
 X:=rfl
 fix:=fun i b0 h hf=>⟨rfl,by
  have e:id≠i:=by rintro rfl; rw[hM] at h; cases h; cases hf
  exact⟨b0,by rw[cT e]; exact h,rfl⟩⟩
 tick:=fun i sz0 n0 h=>by
  have e:id≠i:=by rintro rfl; rw[hM] at h; cases h
  exact⟨n0,ak _,by rw[cT e]; exact h,fun _=>⟨rfl,fun b' vs0 t0 hb' hv=>⟨vs0,hv,rfl⟩⟩⟩
 arr:=fun i sz0 v0 xs0 h=>by
  by_cases e:id=i
  ·subst e;rw[hM] at h;injection h with h; injection h with e1 e2 e3
   subst e1; subst e2; subst e3;exact .inl ⟨_,dZ (aJ hM)⟩
  ·exact .inr ⟨v0,xs0,by rw[cT e]; exact h,ak _,fun _=>⟨rfl,rfl,fun b' vs t hb' hv=>⟨vs,hv,rfl⟩⟩⟩
 tags:=fun b vs t fr h=>⟨vs,fr,h,rfl⟩
 im:=fun b0 off h=>by
  refine⟨⟨h.1,fun i hi hji=>?_,h.3⟩,rfl⟩
  have e:id≠i:=by
   rintro rfl;obtain⟨sz,n,h1,_⟩:=h.2 id (aJ hM) hji;rw[hM] at h1; cases h1
  rw[cT e];exact h.2 i (by simpa using hi) hji
 uL:=fun b0 cA h=>⟨rfl,fun i hi=>h i (by simpa using hi)⟩
def Rel.freeze{id sz ver:Nat}{xs:List ag}(hM:M[id]?=some (.arr sz ver xs))(hr:Rel j M w):Rel j (M.set id (.tick sz xs.length)) w:=by
 have ext:Ext j M w j (M.set id (.tick sz xs.length)) w:=Ext.freeze hM;refine⟨fun i i' b0 hi hi'=>hr.inj i i' b0 (by simpa using hi) (by simpa using hi'),fun i b0 hi h=>hr.lt i b0 (by simpa using hi) h,fun i bx0 h hf=>?_,fun i sz0 n0 b0 h hji=>?_,fun i sz0 v0 xs0 h=>?_,fun i b0 hi h=>hr.u9 i b0 (by simpa using hi) h,hr.Ah⟩
 ·have e:id≠i:=by rintro rfl; rw[dZ (aJ hM)] at h; cases h; cases hf
  rw[cT e] at h;obtain⟨b0,h1,h2⟩:=hr.fix i bx0 h hf;exact⟨b0,h1,h2.mono ext rfl⟩
 ·by_cases e:id=i
  ·subst e;obtain⟨b,vs,t,g1,g2,_⟩:=hr.yF hM hji;rw[hji] at g1; cases g1;exact⟨vs,t,g2⟩
  ·rw[cT e] at h;exact hr.tick i sz0 n0 b0 h hji
 ·have e:id≠i:=by rintro rfl; rw[dZ (aJ hM)] at h; cases h
  rw[cT e] at h;exact qp hr ext h rfl fun b0 h1=>rfl
end
def xH{w:World}{im saf':Nat->Nat->Prop}{b lo hi sz cap:Nat}{vs:Array Value}{t:TypeId}{xs:List ag}(hw:w.heap[b]?=some (.cells vs t (0,0)))(hwid:∀x,x∈xs->x.cells.length=sz)
  (hc:∀(q:Nat)(x:ag)(k:Nat)(c:ag),xs[q]?=some x->x.cells[k]?=some c->∃v,vs[q*sz+k]?=some v/\fK w im c v) (hm:∀b off,im b off->saf' b off) (hs:∀off,off<xs.length*sz->saf' b off)
  (h1:lo<=hi) (h2:hi<=xs.length) (h3:hi-lo<=cap):fK w saf' (.slice .sh ((xs.take hi).drop lo)) (.slice (some ⟨b,lo*sz,none⟩) (hi-lo) cap):=by
 have hget:∀(i:Nat)(x:ag),((xs.take hi).drop lo)[i]?=some x->xs[lo+i]?=some x/\lo+i<hi:=by
  intro i x h;rw[cZ] at h;have cA:lo+i<hi:=by have:=aJ h; simp at this; omega
  rw[bM cA] at h;exact⟨h,cA⟩
 have idx:∀i k,lo*sz+(i*sz+k)=(lo+i)*sz+k:=fun i k=>by rw[cg]; omega
 refine .slice _ _ _ _ b (lo*sz) sz (fun p=>(vs[lo*sz+p]?).getD undef) ic aM (fun _=>rfl) (fun x hx=>hwid x (cR (dQ hx))) (fun i x k c hx hk=>?_) fun i x k c hx hk=>?_
 ·obtain⟨g1,g2⟩:=hget i x hx;obtain⟨v,g3,g4⟩:=hc _ x k c g1 hk;have hk':k<sz:=by rw[<-hwid x (aU g1)]; exact aJ hk
  rw[idx];refine⟨by simp[World.cell?,hw,g3],hs _ ?_⟩
  calc (lo+i)*sz+k<(lo+i)*sz+sz:=aM
   _=(lo+i+1)*sz:=by rw[cg (lo+i) 1]; omega
   _<=xs.length*sz:=bd _ aM
 ·obtain⟨g1,g2⟩:=hget i x hx;obtain⟨v,g3,g4⟩:=hc _ x k c g1 hk;simp only[idx,g3,bQ];exact g4.mono fun b off h=>⟨hm b off h,rfl⟩
section
variable [jw]
def iH(j:J)(M:aO)(w:World)(x:ag×aO)(v:Value)(w':World):Prop:=∃j',Rel j' x.2 w'/\Ext j M w j' x.2 w'/\gn j' x.2 w' x.1 v
def Hj(j:J)(M:aO)(w:World)(x:ag×aO)(u:Value)(w':World):Prop:=x.1 = .oU u/\∃j',Rel j' x.2 w'/\Ext j M w j' x.2 w'
def vN(j:J)(M:aO)(w:World)(x:ag×aO)(e:Ending)(w':World):Prop :=
 (∃v,e = .returned v/\iH j M w x v w')\/∃u,e = .panicked [{ v:=u,recovered:=false }]/\Hj j M w x u w'
def vN.ret{j:J}{M:aO}{w:World}{x:ag×aO}{e:Ending}{w':World}(h:vN j M w x e w')(hx:x.1.jG=false):∃v,e = .returned v/\iH j M w x v w':=by
 rcases h with h|⟨u,_,h,_⟩
 ·omega
 ·rw[h] at hx; cases hx
def eZ(P:Program)(f:Nat)(args:List ag)(M:aO)(x:ag×aO):Prop :=
 ∀(j:J)(w:World)(vs:Array Value),Rel j M w->sS j M w->args.length=vs.size->(∀(i:Nat)(c:ag)(v:Value),args[i]?=some c->vs[i]?=some v->gn j M w c v) ->
  Calls P f vs w fun e w'=>vN j M w x e w'
def nK(P:Program)(f:Nat)(args:List ag)(M:aO)(x:ag×aO):Prop :=
 ∀(j:J)(w:World)(vs:Array Value),Rel j M w->sS j M w->args.length=vs.size->(∀(i:Nat)(c:ag)(v:Value),args[i]?=some c->vs[i]?=some v->gn j M w c v) ->
  Calls P f vs w fun e w'=>∃v j',e = .returned v/\Rel j' x.2 w'/\Ext j M w j' x.2 w'/\gn j' x.2 w' x.1 v
def nK.call{P:Program}{f:Nat}{args:List ag}{M:aO}{x:ag×aO}(h:nK P f args M x):eZ P f args M x:=fun j w vs h1 h2 h3 h4 =>
 (h j w _ h1 h2 h3 h4).mono fun e w' ⟨v,j',he,g1,g2,g3⟩ => .inl ⟨v,he,j',g1,g2,g3⟩
def pC(P:Program)(C:eO):Prop:=∀f a M x,C f a M=some x->k6 P f=true/\eZ P f a M x
section
variable {j:J} {M:aO} {w:World} {P:Program}
def iH.still{v:Value}{y:ag}(hr:Rel j M w)(h:gn j M w y v):iH j M w (y,M) v w:=⟨j,hr,Ext.refl j M w,h⟩
theorem Hp{v:Value}{x:ag}(h:JJ v=some x):gn j M w x v:=by
 unfold JJ at h
 split at h<;>first
  |(cases h; first|exact .plain (.bool _)|exact .plain (.int _ _)|exact .plain (.str _)|exact .plain (.raw _ rfl)|exact .c0 _)
  |grind
theorem Hn{im:Nat->Nat->Prop}:∀ {vs:List Value} {l:List ag},PL vs=some l->l.length=vs.length/\∀(i:Nat)(c:ag)(v:Value),l[i]?=some c->vs[i]?=some v->fK w im c v
 | [],l,h=>by
  grind [PL]
 |v::r,l,h=>by
  simp[PL] at h;rw[dv] at h;obtain⟨x,hx,h⟩:=h;rw[dv] at h;obtain⟨l',hl,h⟩:=h;cases h;obtain⟨h1,h2⟩:=Hn hl;refine⟨kW,fun i c u hc hu=>?_⟩
  cases i with
  |zero =>
   simp at hc hu; subst hc; subst hu;unfold Ye at hx
   split at hx<;>first
    |(cases hx; first|exact .bool _|exact .int _ _|exact .str _|exact .raw _ rfl)
    |grind
  |succ i=>exact h2 i c u kW kW
theorem qo:∀ {vs:List Value} {l:List ag},tn vs=some l->l.length=vs.length/\∀(i:Nat)(c:ag)(v:Value),l[i]?=some c->vs[i]?=some v->gn j M w c v
 | [],l,h=>by
  grind [tn]
 |v::r,l,h=>by
  simp[tn] at h;rw[dv] at h;obtain⟨x,hx,h⟩:=h;rw[dv] at h;obtain⟨l',hl,h⟩:=h;injection h with h; obtain⟨h1,h2⟩:=qo hl
  grind [Hp]
theorem Ho{v:Value}{x:ag}(h:PM v=some x):gn j M w x v:=by
 unfold PM at h;split at h
 ·rw[dv] at h;obtain⟨l,hl,h⟩:=h;cases h;obtain⟨h1,h2⟩:=qo hl;exact .agg aM fun i c v hc hv=>h2 i c v hc kW
 grind [Hp]
theorem cU{bq:Env}{a:Act}(he:cE j M w bq a){x:Operand}{y:gw}(h:ew x=some y):gn j M w (y.ev bq) (a.eval x):=by
 unfold ew at h;split at h
 ·cases h; exact he.at' _
 ·rw[dv] at h;obtain⟨z,hz,h⟩:=h;cases h;exact Ho hz
 ·cases h;exact .func (by rfl) fun i c v hc=>dk
 ·rename_i g;rw[dv] at h;obtain⟨vs,hg,h⟩:=h;rw[dv] at h;obtain⟨l,hl,h⟩:=h;cases h;obtain⟨h1,h2⟩:=Hn (w:=w) (im:=ow j M w) hl;refine .ju (vs:=fun k=>(vs[k]?).getD undef) fun k c hk=>?_
  have hk':=aJ hk;have hv:vs[k]?=some _:=ai aM;obtain⟨h3,h4⟩:=he.gl.g g _ k _ hg hv
  grind
theorem uv{bq:Env}{a:Act}(he:cE j M w bq a):∀ {xs:List Operand} {ys:List gw},vg xs=some ys ->
  ys.length=xs.length/\∀(i:Nat)(y:gw)(x:Operand),ys[i]?=some y->xs[i]?=some x->gn j M w (y.ev bq) (a.eval x)
 | [],ys,h=>by
  grind [vg]
 |x::r,ys,h=>by
  simp[vg] at h;rw[dv] at h;obtain⟨y,hy,h⟩:=h;rw[dv] at h;obtain⟨l,hl,h⟩:=h;injection h with h; obtain⟨h1,h2⟩:=uv he hl
  grind [cU]
def gn.js{b:Bool}{v:Value}(h:gn j M w (.bool b) v):v = .bool b:=by cases h with|plain h=>cases h; rfl
def gn.fS{k:IntKind}{n:Int}{v:Value}(h:gn j M w (.int k n) v):v = .int k n:=by cases h with|plain h=>cases h; rfl
def gn.kg{s:List UInt8}{v:Value}(h:gn j M w (.str s) v):v = .string (bs s):=by cases h with|plain h=>cases h; rfl
theorem gn.mM{cs:List ag}{v:Value}(h:gn j M w (.agg cs) v):∃vs,v = .agg vs/\cs.length=vs.size/\∀(i:Nat)(c:ag)(u:Value),cs[i]?=some c->vs[i]?=some u->gn j M w c u:=by
 cases h with
 |plain h=>cases h
 |agg hl h=>grind
theorem gn.tP{cs:List ag}{v:Value}(h:gn j M w (.tuple cs) v):∃vs,v = .tuple vs/\cs.length=vs.size/\∀(i:Nat)(c:ag)(u:Value),cs[i]?=some c->vs[i]?=some u->gn j M w c u:=by
 cases h with
 |plain h=>cases h
 |tuple hl h=>grind
theorem gn.rB{f:Nat}{cs:List ag}{v:Value}(h:gn j M w (.func f cs) v):∃vs,v = .func (.func f) #[] vs/\cs.length=vs.size/\∀(i:Nat)(c:ag)(u:Value),cs[i]?=some c->vs[i]?=some u->gn j M w c u:=by
 cases h with
 |plain h=>cases h
 |func hl h=>grind
theorem gn.pV{id off:Nat}{v:Value}(h:gn j M w (.ptr id off) v):∃b,id<M.length/\(∃cs,M[id]?=some (.cells cs))/\j id=some b/\v = .pointer (some ⟨b,off,none⟩):=by
 cases h with
 |plain h=>cases h
 |ptr h1 h2 h3=>grind
theorem gn.vy{id:Nat}{v:Value}(h:gn j M w (.gJ id) v):∃b,(∃ks vs,M[id]?=some (.map ks vs))/\j id=some b/\v = .map (some b):=by
 cases h with
 |plain h=>cases h
 |gJ h1 h2=>grind
theorem gn.Dc{id:Nat}{v:Value}(h:gn j M w (.jI id) v):∃b,(∃s p,M[id]?=some (.nW s p))/\j id=some b/\v = .pointer (some ⟨b,0,none⟩):=by
 cases h with
 |plain h=>cases h
 |jI h1 h2=>grind
theorem gn.GM{f:Nat}{fs:List ag}{v:Value}(h:gn j M w (.rP f fs) v):∃vs:Array Value,v = .func (.func f) vs #[]/\fs.length=vs.size/\∀(i:Nat)(c:ag)(v:Value),fs[i]?=some c->vs[i]?=some v->BZ w (ow j M w) c v:=by
 cases h with
 |plain h=>cases h
 |rP hl h=>grind
theorem gn.Ib{t id off:Nat}{v:Value}(h:gn j M w (.jX t id off) v):∃b:Nat,(∃cs,M[id]?=some (.cells cs))/\j id=some b/\v = .iface t (.pointer (some ⟨b,off,none⟩)):=by
 cases h with
 |plain h=>cases h
 |jX h1 h2=>grind
def gn.HU{ks vs:List ag}{v:Value}(h:gn j M w (.iB ks vs) v):∃(b:Nat) (es:Array MapEntry) (clock:Nat),v = .map (some b)/\w.heap[b]?=some (.map es clock)/\ks.length=es.size/\vs.length=es.size /\
  (∀(i:Nat)(k:ag)(e:MapEntry),ks[i]?=some k->es[i]?=some e->fK w (ow j M w) k e.key)/\∀(i:Nat)(v:ag)(e:MapEntry),vs[i]?=some v->es[i]?=some e->BZ w (ow j M w) v e.val:=by
 cases h with
 |plain h=>cases h
 |iB hb hf hx hw hk hv hks hvs=>exact⟨_,_,_,rfl,hw,hk,hv,hks,hvs⟩
def gn.mQ{id ver sz lo hi:Nat}{v:Value}(h:gn j M w (.cY id ver sz lo hi) v):((∃b off c,v = .slice (some ⟨b,off,none⟩) (hi-lo) c/\hi-lo<=c)\/hi-lo=0/\∃A,v = .slice A 0 0)/\id<M.length/\(∀bx,M[id]?=some bx->bx.loose=true) /\
  ∀sz' v' xs,M[id]?=some (.arr sz' v' xs)->ver<=v'/\(v'=ver->sz'=sz/\lo<=hi/\hi<=xs.length/\((xs=[]/\j id=none/\∃A,v = .slice A 0 0)\/∃b cap vs t,j id=some b/\v = .slice (some ⟨b,lo*sz,none⟩) (hi-lo) cap/\hi-lo<=cap/\w.heap[b]?=some (.cells vs t (0,0))/\(lo+cap)*sz<=vs.size)):=by
 cases h with
 |plain h=>cases h
 |cY h0 h1 h2 h3=>exact⟨h0,h1,h2,h3⟩
theorem gn.zo{id ver sz lo hi:Nat}{v:Value}(h:gn j M w (.cY id ver sz lo hi) v):∃A cap,v = .slice A (hi-lo) cap:=by
 rcases h.mQ.1 with ⟨b,off,c,e,_⟩|⟨e,A,e'⟩
 ·grind
 grind
def gn.Vr{id ver sz lo hi:Nat}{v:Value}(h:gn j M w (.cY id ver sz lo hi) v)(hne:lo<hi):∃b off c,v = .slice (some ⟨b,off,none⟩) (hi-lo) c/\hi-lo<=c :=
 h.mQ.1.resolve_right fun e=>aM
def gn.sF{id ver i off:Nat}{v:Value}(h:gn j M w (.iI id ver i off) v):(∃b o,v = .pointer (some ⟨b,o,none⟩))/\id<M.length/\(∀bx,M[id]?=some bx->bx.loose=true) /\
  ∀sz v' xs,M[id]?=some (.arr sz v' xs)->ver<=v'/\(v'=ver->i<xs.length/\∃b,j id=some b/\v = .pointer (some ⟨b,i*sz+off,none⟩)):=by
 cases h with
 |plain h=>cases h
 |iI h0 h1 h2 h3=>exact⟨h0,h1,h2,h3⟩
def gn.uw{cs:List ag}{v:Value}(h:gn j M w (.ju cs) v):∃(b off:Nat) (vs:Nat->Value),v = .pointer (some ⟨b,off,none⟩) /\
  ∀(k:Nat)(c:ag),cs[k]?=some c->w.cell? ⟨b,off+k,none⟩=some (vs k)/\ow j M w b (off+k)/\fK w (ow j M w) c (vs k):=by
 cases h with
 |plain h=>cases h
 | @ju _ b off vs h=>exact⟨b,off,vs,rfl,h⟩
def fK.nil(im:Nat->Nat->Prop)(A:Option Addr)(cap:Nat):fK w im (.slice .sh []) (.slice A 0 cap) :=
 .slice _ A 0 _ 0 0 0 (fun _=>undef) rfl (ct _) (fun h=>absurd rfl h) (fun x h=>kW) (fun i x k c h=>kW) (fun i x k c h=>kW)
def gn.eb{tk:Tk}{xs:List ag}{v:Value}(h:gn j M w (.slice tk xs) v):fK w (ow j M w) (.slice .sh xs) v:=by
 cases h with
 |plain h=>cases h with|slice=>exact .slice _ _ _ _ _ _ _ _ aM aM aM aM aM aM
 |c0 A=>simp[fK.nil]
 |own _ _ h _=>omega
def fK.eb{im:Nat->Nat->Prop}{xs:List ag}{v:Value}(h:fK w im (.slice .sh xs) v):∃(A:Option Addr) (cap b off sz:Nat) (vs:Nat->Value),v = .slice A xs.length cap/\xs.length<=cap/\(xs≠[]->A=some ⟨b,off,none⟩) /\
  (∀x,x∈xs->x.cells.length=sz)/\(∀(i:Nat)(x:ag)(k:Nat)(c:ag),xs[i]?=some x->x.cells[k]?=some c->w.cell? ⟨b,off+(i*sz+k),none⟩=some (vs (i*sz+k))/\im b (off+(i*sz+k))) /\
  (∀(i:Nat)(x:ag)(k:Nat)(c:ag),xs[i]?=some x->x.cells[k]?=some c->fK w im c (vs (i*sz+k))):=by
 cases h with
 |slice _ A len cap b off sz vs hl hc ha hz hs hr=>subst hl; exact⟨A,cap,b,off,sz,vs,rfl,hc,ha,hz,hs,hr⟩
end
def rl(P:Program)(o:Oper)(a:Act)(w:World)(v:Value)(w':World):Prop :=
 (execOp a.eval o).run P w = .ok (.value v) w'\/((execOp a.eval o).run P w = .ok .skip w'/\v=undef)
theorem bc{α β:Type}{x:Option α}{f:α->Option β}{y:β}(h:x.bind f=some y):∃a,x=some a/\f a=some y:=by
 cases x<;>grind
section
variable {P:Program} {C:eO} {o:Oper} {bq:Env} {M:aO} {j:J} {w:World} {a:Act} {x:ag×aO}
def dP{t:TypeId}{d:TypeDesc}(h:P.underlying t=some d):(underlying t).run P w = .ok d w:=by simp[underlying,h]
def pM{t:TypeId}{i:TypeInfo}(h:P.info? t=some i):(typeInfo t).run P w = .ok i w:=by simp[typeInfo,h]
theorem DT{t:TypeId}{n:Nat}(h:qg P t=some n):∃i,P.info? t=some i/\i.size=n:=by
 obtain⟨i,h1,h2⟩:=bc h
 grind
def jd{t:TypeId}{n:Nat}(h:qg P t=some n):(sizeOf t).run P w = .ok n w:=by
 obtain⟨i,h1,h2⟩:=DT h;simp_all [sizeOf,pM]
def lf{t:TypeId}{g:Bool}(h:B1 P t=some g):(isAgg t).run P w = .ok g w:=by
 obtain⟨d,h1,h2⟩:=bc h;injection h2 with h2
 subst h2;simp[isAgg,dP h1];cases d<;>rfl
def lz(b off n:Nat):(⟨b,off,none⟩:Addr).add n=⟨b,off+n,none⟩:=by
 simp[Addr.add]
def zR(hr:Rel j M w)(he:cE j M w bq a){y:Operand}{z:gw}(hop:o.op = .move y\/o.op = .assign y)(hz:ew y=some z)(h:ei C bq M (.mv z)=some x) :
  ∃v w',rl P o a w v w'/\iH j M w x v w':=by
 cases h;exact⟨a.eval y,w,.inl (by rcases hop with hop|hop<;>simp[execOp,hop]),.still hr (cU he hz)⟩
theorem Xz(hr:Rel j M w)(he:cE j M w bq a){c p q:Operand}{c' p' q':gw}(hop:o.op = .pick c p q)(hc:ew c=some c')(hp:ew p=some p')(hq:ew q=some q')
  (h:ei C bq M (.pick c' p' q')=some x):∃v w',rl P o a w v w'/\iH j M w x v w':=by
 simp[ei] at h;have h1:=cU he hc;split at h
 ·rename_i t ht;rw[ht] at h1;have h1:=h1.js;rcases k8 h with ⟨rfl,h⟩|⟨rfl,h⟩<;>(cases h)
  ·exact⟨a.eval p,w,.inl (by simp_all [execOp,asBool]),.still hr (cU he hp)⟩
  ·exact⟨a.eval q,w,.inl (by simp_all [execOp,asBool]),.still hr (cU he hq)⟩
 grind
theorem adM(hr:Rel j M w)(he:cE j M w bq a){y:Operand}{z:gw}(hop:o.op = .nilCheck y)(hz:ew y=some z)(h:ei C bq M (.chk z)=some x) :
  ∃v w',rl P o a w v w'/\iH j M w x v w':=by
 simp[ei] at h;have h1:=cU he hz;split at h
 ·rename_i id off e;cases h;rw[e] at h1;obtain⟨b,_,_,_,hv⟩:=h1.pV;exact⟨_,w,.inl (by simp_all [execOp]),.still hr (hv▸h1)⟩
 ·rename_i cs e;cases h;rw[e] at h1;obtain⟨b,off,vs,hv,_⟩:=h1.uw;exact⟨_,w,.inl (by simp_all [execOp]),.still hr (hv▸h1)⟩
 ·rename_i f caps e;cases h;rw[e] at h1;obtain⟨vs,hv,_⟩:=h1.rB;exact⟨_,w,.inl (by simp_all [execOp]),.still hr (hv▸h1)⟩
 ·rename_i id v0 i off e;cases h;rw[e] at h1;obtain⟨⟨b,q,hv⟩,_⟩:=h1.sF;exact⟨_,w,.inl (by simp_all [execOp]),.still hr (hv▸h1)⟩
 grind
theorem adO(hr:Rel j M w)(he:cE j M w bq a){y:Operand}{z:gw}{t:TypeId}(hop:o.op = .unOp .not t y)(hz:ew y=some z)(h:ei C bq M (.not z)=some x) :
  ∃v w',rl P o a w v w'/\iH j M w x v w':=by
 simp[ei] at h;have h1:=cU he hz;split at h
 ·rename_i b e;cases h;rw[e] at h1;exact⟨_,w,.inl (by simp[execOp,hop,h1.js]; rfl),.still hr (.plain (.bool _))⟩
 grind
theorem adN(hr:Rel j M w)(he:cE j M w bq a){y:Operand}{z:gw}{t:TypeId}(hop:o.op = .unOp .neg t y)(hz:ew y=some z)(h:ei C bq M (.neg z)=some x) :
  ∃v w',rl P o a w v w'/\iH j M w x v w':=by
 simp only[ei] at h;have h1:=cU he hz;split at h
 ·rename_i k n e;cases h;rw[e] at h1;exact⟨_,w,.inl (by simp only[execOp,hop,h1.fS]; rfl),.still hr (.plain (.int _ _))⟩
 grind
theorem Xq(hr:Rel j M w)(he:cE j M w bq a){y:Operand}{z:gw}{s d:TypeId}{k0 k:IntKind}(hop:o.op = .convert s d y)(hs:P.underlying s=some (.int k0))(hd:P.underlying d=some (.int k))
  (hz:ew y=some z) (h:ei C bq M (.conv k z)=some x):∃v w',rl P o a w v w'/\iH j M w x v w':=by
 simp[ei] at h;have h1:=cU he hz;split at h
 ·rename_i k1 n e;cases h;rw[e] at h1;refine⟨.int k _,w,.inl ?_,.still hr (.plain (.int _ _))⟩;simp[execOp,hop,convert,dP hs,dP hd,h1.fS,Conv.intToInt]
 grind
theorem XB(hr:Rel j M w)(he:cE j M w bq a){y:Operand}{z:gw}{s d:TypeId}(hop:o.op = .convert s d y)(hs:P.underlying s=some .string)(hd:P.underlying d=some .string)
  (hz:ew y=some z) (h:ei C bq M (.same z)=some x):∃v w',rl P o a w v w'/\iH j M w x v w':=by
 simp[ei] at h;have h1:=cU he hz;split at h
 ·rename_i l e;cases h;rw[e] at h1;refine⟨.string _,w,.inl ?_,.still hr (.plain (.str _))⟩;simp[execOp,hop,convert,dP hs,dP hd,h1.kg]
 grind
theorem aiC(hr:Rel j M w)(he:cE j M w bq a){f:Nat}{first caps:Array Operand}{zs:List gw}(hop:o.op = .makeFunc (.func f) first caps)(hf:first.isEmpty=true)(hz:vg caps.toList=some zs)
  (h:ei C bq M (.fn f zs)=some x):∃v w',rl P o a w v w'/\iH j M w x v w':=by
 cases h;obtain⟨h1,h2⟩:=uv he hz;have hf':first = #[]:=kW
 refine⟨.func _ _ (caps.map a.eval),w,.inl ?_,.still hr (.func kW fun i c v hc hv=>?_)⟩
 ·simp[execOp,hop,Instr.makeFunc,hf']
 grind
theorem K3(hr:Rel j M w)(he:cE j M w bq a){y:Operand}{z:gw}{i:Nat}(hop:o.op = .extract y i)(hz:ew y=some z)(h:ei C bq M (.extract z i)=some x) :
  ∃v w',rl P o a w v w'/\iH j M w x v w':=by
 simp[ei] at h;have h1:=cU he hz;split at h
 ·rename_i vs e;obtain⟨c,hc,h⟩:=bu h;cases h;rw[e] at h1;obtain⟨us,hv,hl,hu⟩:=h1.tP;rw[eY] at hc;have hi:=aJ hc;have hui:us[i]?=some _:=bf aM;exact⟨_,w,.inl (by simp[execOp,hop,Instr.extract,hv,hui]),.still hr (hu i c _ hc hui)⟩
 grind
theorem Xu(hr:Rel j M w)(he:cE j M w bq a){c:Call}{y:Operand}{z:gw}{t:TypeId}(hop:o.op = .call c)(hb:c.callee = .builtin .len)(ha:c.args.toList=[y])
  (ht:c.argTypes[0]?=some t) (hs:P.underlying t=some .string) (hz:ew y=some z) (h:ei C bq M (.Tr z)=some x):∃v w',rl P o a w v w'/\iH j M w x v w':=by
 simp only[ei] at h;have h1:=cU he hz;split at h
 ·rename_i l e;cases h;rw[e] at h1;have ha':c.args = #[y]:=by rw[<-ha]
  refine⟨.int .i64 _,w,.inl ?_,.still hr (.plain (.int _ _))⟩;have hsz:(bs l).size=l.length:=by rfl
  simp[execOp,hop,resolve,hb,invoke,builtin,Builtin.len_,ha',ht,dP hs,h1.kg,goInt,hsz]
 grind
theorem Xv(hr:Rel j M w)(he:cE j M w bq a){c:Call}{y:Operand}{z:gw}{t e:TypeId}(hop:o.op = .call c)(hb:c.callee = .builtin .len)(ha:c.args.toList=[y])
  (ht:c.argTypes[0]?=some t) (hs:P.underlying t=some (.slice e)) (hz:ew y=some z) (h:ei C bq M (.vu z)=some x):∃v w',rl P o a w v w'/\iH j M w x v w':=by
 simp only[ei] at h;have h1:=cU he hz;split at h
 ·rename_i tk l e;cases h;rw[e] at h1;have ha':c.args = #[y]:=by rw[<-ha]
  obtain⟨A,cap,b,off,sz,vs,hv,_⟩:=h1.eb.eb;refine⟨.int .i64 l.length,w,.inl ?_,.still hr (.plain (.int _ _))⟩;simp[execOp,hop,resolve,hb,invoke,builtin,Builtin.len_,ha',ht,dP hs,hv,goInt]
 ·rename_i id v0 sz lo hi e;cases h;rw[e] at h1;have ha':c.args = #[y]:=by rw[<-ha]
  obtain⟨A,cap,hv⟩:=h1.zo;refine⟨.int .i64 (hi-lo:Nat),w,.inl ?_,.still hr (.plain (.int _ _))⟩;simp[execOp,hop,resolve,hb,invoke,builtin,Builtin.len_,ha',ht,dP hs,hv,goInt]
 grind
theorem Fq(hr:Rel j M w)(he:cE j M w bq a){c:Call}{y y':Operand}{z z':gw}{mx:Bool}(hop:o.op = .call c)(hb:c.callee = .builtin (if mx then .max else .min))(ha:c.args.toList=[y,y'])
  (hz:ew y=some z) (hz':ew y'=some z') (h:ei C bq M (.A6 mx z z')=some x):∃v w',rl P o a w v w'/\iH j M w x v w':=by
 simp only[ei] at h;have h1:=cU he hz;have h2:=cU he hz';split at h
 ·rename_i k n k' n' e e';cases h;rw[e] at h1;rw[e'] at h2;have ha':c.args = #[y,y']:=by rw[<-ha]
  refine⟨_,w,.inl ?_,.still hr (.plain (.int _ _))⟩;cases mx
  ·simp[execOp,hop,resolve,hb,invoke,builtin,Builtin.min_,Builtin.min2,ha',h1.fS,h2.fS,List.foldlM]
  ·simp[execOp,hop,resolve,hb,invoke,builtin,Builtin.max_,Builtin.max2,ha',h1.fS,h2.fS]
 grind
theorem OI(hr:Rel j M w)(he:cE j M w bq a){y i:Operand}{z z':gw}{t:TypeId}(hop:o.op = .index t y i)(ht:P.underlying t=some .string)(hz:ew y=some z)(hz':ew i=some z')
  (h:ei C bq M (.AQ z z')=some x):∃v w',rl P o a w v w'/\iH j M w x v w':=by
 simp only[ei] at h;have h1:=cU he hz;have h2:=cU he hz';split at h
 ·rename_i l k n e e';obtain⟨hn,h⟩:=dw h;obtain⟨b,hb,h⟩:=bu h;cases h;rw[e] at h1;rw[e'] at h2;refine⟨.int .u8 b.toNat,w,.inl ?_,.still hr (.plain (.int _ _))⟩
  have hg:(bs l)[n.toNat]?=some b:=by
   have cA:=aJ hb;have:n.toNat<(bs l).size:=by simp_all [bs,ByteArray.size]
   rw[getElem?_pos (bs l) n.toNat this];congr 1
   have h3:l[n.toNat]=b:=by
    have:=ai cA
    grind
   exact h3
  simp[execOp,hop,Instr.index,asIntOf,dP ht,h1.kg,h2.fS,hn,hg]
 ·cases h
theorem OE(hr:Rel j M w)(he:cE j M w bq a){y:Operand}{z:gw}{s:TypeId}{fs:Array Field}{f:Field}{i:Nat}(hop:o.op = .field s y i)(hs:P.underlying s=some (.struct fs))(hf:fs[i]?=some f)
  (hg:B1 P f.type=some false) (hz:ew y=some z) (h:ei C bq M (.CW f.offset z)=some x):∃v w',rl P o a w v w'/\iH j M w x v w':=by
 simp[ei] at h;have h1:=cU he hz;split at h
 ·rename_i cs e;obtain⟨c,hc,h⟩:=bu h;cases h;rw[e] at h1;obtain⟨us,hv,hl,hu⟩:=h1.mM;rw[eY] at hc;have hi:=aJ hc;have hui:us[f.offset]?=some _:=bf aM;refine⟨_,w,.inl ?_,.still hr (hu _ c _ hc hui)⟩;simp[execOp,hop,Instr.field,dP hs,hf,asAgg,hv,part,lf hg,hui]
 grind
theorem OG(hr:Rel j M w)(he:cE j M w bq a){y:Operand}{z:gw}{s:TypeId}{fs:Array Field}{f:Field}{i n:Nat}(hop:o.op = .field s y i)(hs:P.underlying s=some (.struct fs))(hf:fs[i]?=some f)
  (hg:B1 P f.type=some true) (hn:qg P f.type=some n) (hz:ew y=some z) (h:ei C bq M (.CX f.offset n z)=some x):∃v w',rl P o a w v w'/\iH j M w x v w':=by
 simp only[ei] at h;have h1:=cU he hz;split at h
 ·rename_i cs e;split at h
  ·cases h;rw[e] at h1;obtain⟨us,hv,hl,hu⟩:=h1.mM;refine⟨.agg (us.extract f.offset (f.offset+n)),w,.inl ?_,.still hr (.agg kW fun p c u hc hu'=>?_)⟩
   ·simp[execOp,hop,Instr.field,dP hs,hf,asAgg,hv,part,lf hg,jd hn]
   grind
  ·cases h
 ·cases h
theorem T4(hr:Rel j M w)(he:cE j M w bq a){y:Operand}{z:gw}{s:TypeId}{fs:Array Field}{f:Field}{i:Nat}(hop:o.op = .fieldAddr s y i)(hs:P.underlying s=some (.struct fs))(hf:fs[i]?=some f)
  {n:Nat} (hn:qg P f.type=some n) (hpos:0<n) (hz:ew y=some z) (h:ei C bq M (.pX f.offset z)=some x):∃v w',rl P o a w v w'/\iH j M w x v w':=by
 simp only[ei] at h;have h1:=cU he hz
 have hrun:∀b off,a.eval y = .pointer (some ⟨b,off,none⟩)->(execOp a.eval o).run P w = .ok (.value (.pointer (some ⟨b,off+f.offset,none⟩))) w:=by
  intro b off hv;have hne:n≠0:=aM;simp[execOp,hop,Instr.fieldAt,dP hs,hf,Instr.sureAddr,hv,fieldPlace,jd hn,hne,lz]
 split at h
 ·rename_i id off e;cases h;rw[e] at h1;obtain⟨b,h2,h3,h4,hv⟩:=h1.pV;exact⟨_,w,.inl (hrun _ _ hv),.still hr (.ptr h2 h3 h4)⟩
 ·rename_i cs e;cases h;rw[e] at h1;obtain⟨b,off,vs,hv,hc⟩:=h1.uw;refine⟨_,w,.inl (hrun _ _ hv),.still hr (.ju (vs:=fun k=>vs (f.offset+k)) fun k c hk=>?_)⟩
  rw[cZ] at hk;have:=hc _ c hk;rw[Nat.add_assoc];omega
 ·rename_i id v0 i0 o0 e;cases h;rw[e] at h1;obtain⟨⟨b,q,hv⟩,h2,h3,h4⟩:=h1.sF;refine⟨_,w,.inl (hrun _ _ hv),.still hr (.iI ⟨_,_,rfl⟩ h2 h3 fun sz v' xs hM=>?_)⟩
  grind
 grind
end
theorem Vz(l:List UInt8):∀(n i:Nat)(acc:List UInt8),i+n=l.length->ByteArray.toList.loop (bs l) i acc=acc.reverse++l.drop i:=by
 intro n;induction n with
 |zero =>
  simp_all [bs,ByteArray.size,ByteArray.toList.loop]
 |succ n ih =>
  intro i acc h;have hs:(bs l).size=l.length:=by rfl
  rw[ByteArray.toList.loop,av aM]
  grind [bs,ByteArray.get!,List.reverse_cons,List.append_assoc,List.singleton_append,List.drop_eq_getElem_cons]
def vf(l:List UInt8):(bs l).toList=l:=by
 rw[ByteArray.toList,Vz l l.length 0 _ dk]; rfl
def LI(l:List UInt8):(bs l).size=l.length:=by rfl
def Jh:∀a b:List UInt8,Op.bytesLess a b=strLt a b
 | [],[]=>rfl
 | [],_::_=>rfl
 |_::_,[]=>rfl
 |a::x,b::y=>by simp[Op.bytesLess,strLt,Jh x y]
def yI(a:List UInt8)(l h:Nat):(bs a).extract l h=bs ((a.take h).drop l):=by
 apply ByteArray.ext;simp[bs,List.drop_take]
section
variable {P:Program} {C:eO} {o:Oper} {bq:Env} {M:aO} {j:J} {w:World} {a:Act} {x:ag×aO}
def N5(op:BinOp)(t:TypeId)(y z:Operand)(k k':IntKind)(m n:Int):(eqGuard op t y z (.int k m) (.int k' n)).run P w = .ok () w:=by
 simp[eqGuard]
def N6(op:BinOp)(t:TypeId)(y z:Operand)(m n:ByteArray):(eqGuard op t y z (.string m) (.string n)).run P w = .ok () w:=by
 simp[eqGuard]
def C8(op:BinOp)(t:TypeId)(y z:Operand)(m n:Bool):(eqGuard op t y z (.bool m) (.bool n)).run P w = .ok () w:=by
 simp[eqGuard]
theorem Vx{op:BinOp}{b:M6}(hb:Ns op=some b){t:TypeId}{k k':IntKind}{m n:Int}{r:ag}(h:qR b (.int k m) (.int k' n)=some r) :
  ∃v,(binOp op t (.int k m) (.int k' n)).run P w = .ok v w/\fK w (ow j M w) r v:=by
 cases op<;>simp only[Ns,reduceCtorEq,iR] at hb<;>subst hb<;>simp only[qR] at h
 case shl =>
  split at h
  ·rename_i hn;cases h;exact⟨_,by simp[binOp,Op.shift,nh.2 hn],.int _ _⟩
  ·cases h
 case shr =>
  split at h
  ·rename_i hn;cases h;exact⟨_,by simp[binOp,Op.shift,nh.2 hn],.int _ _⟩
  grind
 case quo =>
  split at h
  ·cases h
  ·rename_i hk;split at h
   ·cases h
   ·rename_i hn;cases h;have hk:k=k':=kW;subst hk;exact⟨_,by simp[binOp,Op.intDiv,hn],.int _ _⟩
 case rem =>
  split at h
  ·cases h
  ·rename_i hk;split at h
   ·cases h
   ·rename_i hn;cases h;have hk:k=k':=kW;subst hk;exact⟨_,by simp[binOp,Op.intDiv,hn],.int _ _⟩
 case and =>
  split at h
  ·cases h
  ·rename_i hk;cases h;have hk:k=k':=kW;subst hk;exact⟨_,by simp[binOp,Op.intBits]; rfl,.int _ _⟩
 case or =>
  split at h
  ·grind
  ·rename_i hk;cases h;have hk:k=k':=kW;subst hk;exact⟨_,by simp[binOp,Op.intBits]; rfl,.int _ _⟩
 case andNot =>
  split at h
  ·grind
  ·rename_i hk;cases h;have hk:k=k':=kW;subst hk;exact⟨.int k (abA k m n),by simp[binOp,Op.intBits,abA],.int _ _⟩
 all_goals
  split at h
  ·cases h
  ·rename_i hk;cases h;have hk:k=k':=by simpa using hk
   subst hk
   first
    |exact⟨_,by simp[binOp,Op.intArith],.int _ _⟩
    |exact⟨_,by simp[binOp,Op.intCmp],.bool _⟩
theorem Vy{op:BinOp}{b:M6}(hb:Ns op=some b){t:TypeId}{m n:List UInt8}{r:ag}(h:qR b (.str m) (.str n)=some r) :
  ∃v,(binOp op t (.string (bs m)) (.string (bs n))).run P w = .ok v w/\fK w (ow j M w) r v:=by
 cases op<;>simp only[Ns,reduceCtorEq,iR] at hb<;>subst hb<;>simp only[qR,reduceCtorEq] at h
 case add =>
  split at h
  ·grind
  ·cases h;refine⟨.string (bs m++bs n),?_,by exact .str _⟩
   simp_all [binOp,Op.stringOp,LI,aj]
 all_goals
  cases h;exact⟨_,by simp only[binOp,Op.stringOp,vf,Jh]; rfl,.bool _⟩
def TX(hr:Rel j M w)(he:cE j M w bq a){op:BinOp}{b:M6}{y y':Operand}{z z':gw}{t t':TypeId}(hop:o.op = .binOp op t y y' t')(hb:Ns op=some b)(hz:ew y=some z)(hz':ew y'=some z')
  (h:ei C bq M (.bin b z z')=some x):∃v w',rl P o a w v w'/\iH j M w x v w':=by
 simp only[ei] at h;have h1:=cU he hz;have h2:=cU he hz';obtain⟨r,hr',h⟩:=bu h;cases h;generalize hu:z.ev bq=u at *;generalize hu':z'.ev bq=u' at *;cases u<;>cases u'<;>try (simp[qR] at hr'; done)
 ·rename_i k m k' n;obtain⟨v,hv,hp⟩:=Vx (P:=P) (w:=w) (j:=j) (M:=M) (t:=t) hb hr';exact⟨v,w,.inl (by simp[execOp,hop,h1.fS,h2.fS,N5,hv]),.still hr (.plain hp)⟩
 ·rename_i m n;obtain⟨v,hv,hp⟩:=Vy (P:=P) (w:=w) (j:=j) (M:=M) (t:=t) hb hr';exact⟨v,w,.inl (by simp[execOp,hop,h1.kg,h2.kg,N6,hv]),.still hr (.plain hp)⟩
theorem T3(hr:Rel j M w)(he:cE j M w bq a){neg:Bool}{y y':Operand}{z z':gw}{t t':TypeId}(hop:o.op = .binOp (if neg then .neq else .eql) t y y' t')(ht:P.underlying t=some .bool)
  (hz:ew y=some z) (hz':ew y'=some z') (h:ei C bq M (.eqB neg z z')=some x):∃v w',rl P o a w v w'/\iH j M w x v w':=by
 simp only[ei] at h;have h1:=cU he hz;have h2:=cU he hz';split at h
 ·rename_i m n e e';cases h;rw[e] at h1;rw[e'] at h2
  have heq:(Op.equal t (.bool m) (.bool n)).run P w = .ok (m==n) w:=by
   unfold Op.equal;rw[show Op.maxDepth=9999+1 from rfl,Op.equalIn]
   simp[dP ht]
  cases neg
  ·exact⟨.bool (m==n),w,.inl (by simp[execOp,hop,h1.js,h2.js,C8,binOp,heq]),.still hr (.plain (.bool _))⟩
  ·exact⟨.bool (!(m==n)),w,.inl (by simp[execOp,hop,h1.js,h2.js,C8,binOp,heq]),.still hr (.plain (.bool _))⟩
 grind
theorem ra{bq:Env}{a:Act}(he:cE j M w bq a){y:Operand}{z:gw}(hz:ew y=some z){n:Nat}{i:Int}(h:ir bq n (some z)=some i){m:Nat}(h0:0<=i)(h1:i<=m)(code:BoundsCode) :
  (Instr.sliceBound (a.eval y) m code).run P w = .ok i.toNat w:=by
 unfold ir at h;have h2:=cU he hz;simp at h;split at h
 ·rename_i k i' e;cases h;rw[e] at h2;simp[Instr.sliceBound,h2.fS,asIntOf,h0,h1]
 grind
theorem qu{y:Option Operand}{z:Option gw}(h:yJ y=some z):(y=none/\z=none)\/∃y' z',y=some y'/\z=some z'/\ew y'=some z':=by
 cases y with
 |none=>grind [yJ]
 |some y =>
  obtain⟨z',h1,h2⟩:=bc h
  grind
def vS{bq:Env}{a:Act}(he:cE j M w bq a){lo hi:Option Operand}{lo' hi':Option gw}(hlo:yJ lo=some lo')(hhi:yJ hi=some hi'){len cap:Nat}{l h:Int}
  (h1:ir bq len hi'=some h) (h2:ir bq 0 lo'=some l) (hh0:0<=h) (hh:h<=len) (hl0:0<=l) (hl:l<=h) (hc:len<=cap) (isS:Bool) :
  (Instr.sliceBounds isS len cap (lo.map a.eval) (hi.map a.eval) none).run P w = .ok (l.toNat,h.toNat,cap) w:=by
 unfold Instr.sliceBounds;rcases qu hhi with ⟨rfl,rfl⟩|⟨y,z,rfl,rfl,hz⟩<;>rcases qu hlo with ⟨rfl,rfl⟩|⟨y',z',rfl,rfl,hz'⟩
 ·simp[ir] at h1 h2; subst h1; subst h2; rfl
 ·simp[ir] at h1; subst h1;have:=ra (P:=P) he hz' h2 hl0 aM .sliceB;simp_all
 ·simp[ir] at h2; subst h2;have:=ra (P:=P) he hz h1 hh0 (m:=cap) aM (if isS then .sliceAcap else .sliceAlen)
  simp_all
 ·have t1:=ra (P:=P) he hz h1 hh0 (m:=cap) aM (if isS then .sliceAcap else .sliceAlen)
  have t2:=ra (P:=P) he hz' h2 hl0 (m:=h.toNat) aM .sliceB;simp_all
theorem OJ(hr:Rel j M w)(he:cE j M w bq a){y:Operand}{lo hi:Option Operand}{z:gw}{lo' hi':Option gw}{t:TypeId}(hop:o.op = .slice t y lo hi none)(ht:P.underlying t=some .string)
  (hz:ew y=some z) (hlo:yJ lo=some lo') (hhi:yJ hi=some hi') (h:ei C bq M (.Bh z lo' hi')=some x):∃v w',rl P o a w v w'/\iH j M w x v w':=by
 simp[ei] at h;have h1:=cU he hz;split at h
 ·rename_i s e;obtain⟨hh,h2,h⟩:=bu h;obtain⟨l,h3,h⟩:=bu h;obtain⟨⟨c1,c2,c3,c4⟩,h⟩:=dw h;cases h;rw[e] at h1;have hb:=vS (P:=P) he hlo hhi h2 h3 c1 c2 c3 c4 (ak _) false;refine⟨.string _,w,.inl ?_,.still hr (.plain (.str _))⟩;simp[execOp,hop,Instr.sliceAt,dP ht,Instr.slice,h1.kg,LI,hb,yI]
 grind
theorem fK.part{im:Nat->Nat->Prop}{xs:List ag}{A:Option Addr}{cap m l h n:Nat}(hx:fK w im (.slice .sh xs) (.slice A xs.length cap))(hw:wid xs n)(hl:l<=h)(hh:h<=xs.length)(hm:h<=m) :
  fK w im (.slice .sh ((xs.take h).drop l)) (.slice (if m=l then A else A.map (·.add (l*n))) (h-l) (m-l)):=by
 obtain⟨A',cap',b,off,sz,vs,hv,hc,ha,hz,hs,hrp⟩:=hx.eb;injection hv with e1 e2 e3
 subst e1; subst e3;have fx:((xs.take h).drop l).length=h-l:=by simp_all
 refine .slice _ _ _ _ b (off+l*sz) sz (fun p=>vs (l*sz+p)) fx.symm aM (fun hne=>?_) (fun x hx=>hz x (cR (dQ hx))) (fun i x k c hi hk=>?_) (fun i x k c hi hk=>?_)
 ·have:0<h-l:=by
   rw[<-fx]; exact iY.2 hne
  rw[aj aM];have hne':xs≠[]:=kW;rw[ha hne']
  have:n=sz:=by
   obtain⟨x,r,rfl⟩:=fz hne';rw[<-hw x dk,hz x dk]
  simp[lz,this]
 ·grind
 grind
theorem Xr(hr:Rel j M w)(he:cE j M w bq a){y:Operand}{lo hi mx:Option Operand}{z hi':gw}{t e:TypeId}{n:Nat}(hop:o.op = .slice t y lo hi mx)(ht:P.underlying t=some (.slice e))
  (hn:qg P e=some n) (hz:ew y=some z) (hlo:yJ lo=some none) (hhi:yJ hi=some (some hi')) (hmx:yJ mx=some none)
  (h:ei C bq M (.NF n z hi')=some x):∃v w',rl P o a w v w'/\iH j M w x v w':=by
 simp only[ei] at h;have h1:=cU he hz;split at h
 ·rename_i id v0 sz' al ah k hh ez eh;obtain⟨⟨hsz,ha,c1,c2⟩,h⟩:=dw h;cases h;subst hsz; subst ha;rw[ez] at h1;obtain⟨hs0,g1,g2,g3⟩:=h1.mQ
  obtain⟨A,cap,hv,hc,hA⟩:∃A cap,a.eval y = .slice A (ah-0) cap/\ah-0<=cap/\(0<ah-0->∃b off,A=some ⟨b,off,none⟩):=by
   grind
  obtain⟨b,off,rfl⟩:=hA aM;rcases qu hmx with ⟨rfl,_⟩|⟨_,_,_,hx,_⟩
  case inr=>cases hx
  have h2:ir bq (ah-0) (some hi')=some hh:=by simp[ir,eh]
  have hb:=vS (P:=P) he hlo hhi (cap:=cap) h2 (l:=0) (by simp[ir]) c1 aM (cJ _) c1 hc true
  rw[cd] at hb
  have hrun:(execOp a.eval o).run P w = .ok (.value (.slice (some ⟨b,off,none⟩) hh.toNat cap)) w:=by
   simp[execOp,hop,Instr.sliceAt,dP ht,Instr.slice,hv,hb,jd hn,lz,show cap≠0 by omega]
  refine⟨_,w,.inl hrun,.still hr ?_⟩;refine .cY (.inl ⟨b,off,cap,dk,aM⟩) g1 g2 fun sz v' xs hM=>?_
  obtain⟨k1,k2⟩:=g3 sz v' xs hM;refine⟨k1,fun hev=>?_⟩
  obtain⟨l0,l1,l2,⟨rfl,_⟩|⟨b',cap',vs,t',l3,l4,l5,l6,l7⟩⟩:=k2 hev
  ·simp at l2; omega
  rw[hv] at l4;injection l4 with l4 l4' l4''
  injection l4 with l4; injection l4 with e1 e2 e3
  subst e1; subst e2; subst l4'';exact⟨l0,aM,aM,.inr ⟨b,cap,vs,t',l3,dk,aM,l6,l7⟩⟩
 ·cases h
theorem Fs(hr:Rel j M w)(he:cE j M w bq a){y:Operand}{lo hi mx:Option Operand}{z:gw}{lo' hi' mx':Option gw}{t e:TypeId}{n:Nat}(hop:o.op = .slice t y lo hi mx)(ht:P.underlying t=some (.slice e))
  (hn:qg P e=some n) (hz:ew y=some z) (hlo:yJ lo=some lo') (hhi:yJ hi=some hi') (hmx:yJ mx=some mx') (hmh:mx'.isNone=true\/hi'.isSome=true)
  (h:ei C bq M (.uz n z lo' hi' mx')=some x):∃v w',rl P o a w v w'/\iH j M w x v w':=by
 simp only[ei] at h;have h1:=cU he hz;split at h
 ·rename_i tk xs ez;obtain⟨hw,h⟩:=dw h;obtain⟨hh,h2,h⟩:=bu h;obtain⟨l,h3,h⟩:=bu h;rw[ez] at h1;have hp:=h1.eb;obtain⟨A,cap,b,off,sz,vs,hv,hc,_⟩:=hp.eb;rw[hv] at hp;rcases qu hmx with ⟨rfl,rfl⟩|⟨my,mz,rfl,rfl,hmz⟩
  ·simp only at h;obtain⟨⟨c1,c2,c3,c4⟩,h⟩:=dw h;cases h;have hb:=vS (P:=P) he hlo hhi (cap:=cap) h2 h3 c1 c2 c3 c4 hc true;refine⟨_,w,.inl ?_,.still hr (.plain (hp.part (m:=cap) (l:=l.toNat) (h:=hh.toNat) hw aM aM aM))⟩;simp[execOp,hop,Instr.sliceAt,dP ht,Instr.slice,hv,hb,jd hn]
  ·simp only at h;split at h
   ·rename_i mk m em;obtain⟨⟨c0,c0',c1,c2,c3,c4⟩,h⟩:=dw h;have hm:=cU he hmz;rw[em] at hm
    have hmr:(Instr.sliceBound (a.eval my) cap .slice3Acap).run P w = .ok m.toNat w:=by
     simp[Instr.sliceBound,hm.fS,asIntOf,c0,show m<=cap by omega]
    have hbs:(Instr.sliceBounds true xs.length cap (lo.map a.eval) (hi.map a.eval) (some (a.eval my))).run P w = .ok (l.toNat,hh.toNat,m.toNat) w:=by
     unfold Instr.sliceBounds;rcases qu hhi with ⟨rfl,rfl⟩|⟨hy,hz',rfl,rfl,hhz⟩
     ·simp at hmh
     ·have t1:=ra (P:=P) he hhz h2 c1 (m:=m.toNat) aM .slice3B;rcases qu hlo with ⟨rfl,rfl⟩|⟨y',z',rfl,rfl,hz'⟩
      ·simp[ir] at h3; subst h3;simp[hmr,t1]
      ·have t2:=ra (P:=P) he hz' h3 c3 (m:=hh.toNat) aM .slice3C;simp[hmr,t1,t2]
    have hrun:(execOp a.eval o).run P w = .ok (.value (.slice (if m.toNat=l.toNat then A else A.map (·.add (l.toNat*n))) (hh.toNat-l.toNat) (m.toNat-l.toNat))) w:=by
     simp[execOp,hop,Instr.sliceAt,dP ht,Instr.slice,hv,hbs,jd hn]
    rcases k8 h with ⟨hm0,h⟩|⟨hm0,h⟩<;>(cases h)
    ·have hm0:m=0:=by simpa using hm0
     subst hm0;have e1:hh=0:=aM;have e2:l=0:=aM;subst e1; subst e2;exact⟨_,w,.inl hrun,.still hr (.c0 _)⟩
    ·exact⟨_,w,.inl hrun,.still hr (.plain (hp.part (m:=m.toNat) hw aM aM aM))⟩
   ·cases h
 ·rename_i id v0 sz' al ah ez;obtain⟨hsz,h⟩:=dw h;subst hsz;obtain⟨hh,h2,h⟩:=bu h;obtain⟨l,h3,h⟩:=bu h;rw[ez] at h1;obtain⟨hs0,g1,g2,g3⟩:=h1.mQ
  obtain⟨A,cap,hv,hc,hA⟩:∃A cap,a.eval y = .slice A (ah-al) cap/\ah-al<=cap/\(0<ah-al->∃b off,A=some ⟨b,off,none⟩):=by
   grind
  have key:∀m:Nat,m<=cap->0<=l->l<hh->hh<=m->hh<=(ah-al:Nat)->gn j M w (.cY id v0 sz' (al+l.toNat) (al+hh.toNat)) (.slice (A.map (·.add (l.toNat*sz'))) (hh.toNat-l.toNat) (m-l.toNat)):=by
   intro m hmc hl0 hlh hhm hha;obtain⟨b,off,rfl⟩:=hA aM;simp only[cW,lz];have e0:al+hh.toNat-(al+l.toNat)=hh.toNat-l.toNat:=aM;have e6:hh.toNat-l.toNat<=m-l.toNat:=by clear g3 g2 h1 hv; omega
   have e7:al+l.toNat+(m-l.toNat)<=al+cap:=aM;have e8:al+l.toNat<=al+hh.toNat:=aM;have e9:al+hh.toNat<=ah:=by clear g3 g2 h1 hv; omega
   refine .cY (.inl ⟨b,off+l.toNat*sz',m-l.toNat,by rw[e0],by rw[e0]; exact e6⟩) g1 g2 fun sz v' xs hM=>?_
   obtain⟨k1,k2⟩:=g3 sz v' xs hM;refine⟨k1,fun hev=>?_⟩
   obtain⟨l0,l1,l2,⟨rfl,_⟩|⟨b',cap',vs,t',l3,l4,l5,l6,l7⟩⟩:=k2 hev
   ·simp at l2; omega
   rw[hv] at l4;injection l4 with l4 l4' l4''
   injection l4 with l4; injection l4 with e1 e2 e3
   subst e1; subst e2; subst l4'';exact⟨l0,e8,bg e9 l2,.inr ⟨b,m-l.toNat,vs,t',l3,by rw[e0,cg],by rw[e0]; exact e6,l6,bg (bd _ e7) l7⟩⟩
  rcases qu hmx with ⟨rfl,rfl⟩|⟨my,mz,rfl,rfl,hmz⟩
  ·simp only at h;obtain⟨⟨c1,c2,c3,c4⟩,h⟩:=dw h;have hb:=vS (P:=P) he hlo hhi (cap:=cap) h2 h3 c1 c2 c3 c4 hc true
   have hrun:(execOp a.eval o).run P w = .ok (.value (.slice (if cap=l.toNat then A else A.map (·.add (l.toNat*sz'))) (hh.toNat-l.toNat) (cap-l.toNat))) w:=by
    simp[execOp,hop,Instr.sliceAt,dP ht,Instr.slice,hv,hb,jd hn]
   rcases k8 h with ⟨hm0,h⟩|⟨hm0,h⟩<;>(cases h)
   ·have:l=hh:=by simpa using hm0
    subst this;refine⟨_,w,.inl hrun,.still hr (.plain ?_)⟩;rw[Nat.sub_self];exact fK.nil _ _ _
   ·have:l≠hh:=by simpa using hm0
    rw[aj aM] at hrun;exact⟨_,w,.inl hrun,.still hr (key cap (ak _) c3 aM aM c2)⟩
  ·simp only at h;split at h
   ·rename_i mk m em;obtain⟨⟨c0,c0',c1,c2,c3,c4⟩,h⟩:=dw h;have hm:=cU he hmz;rw[em] at hm
    have hmr:(Instr.sliceBound (a.eval my) cap .slice3Acap).run P w = .ok m.toNat w:=by
     simp[Instr.sliceBound,hm.fS,asIntOf,c0,show m<=cap by omega]
    have hbs:(Instr.sliceBounds true (ah-al) cap (lo.map a.eval) (hi.map a.eval) (some (a.eval my))).run P w = .ok (l.toNat,hh.toNat,m.toNat) w:=by
     unfold Instr.sliceBounds;rcases qu hhi with ⟨rfl,rfl⟩|⟨hy,hz',rfl,rfl,hhz⟩
     ·simp at hmh
     ·have t1:=ra (P:=P) he hhz h2 c1 (m:=m.toNat) aM .slice3B;rcases qu hlo with ⟨rfl,rfl⟩|⟨y',z',rfl,rfl,hz'⟩
      ·simp[ir] at h3; subst h3;simp[hmr,t1]
      ·have t2:=ra (P:=P) he hz' h3 c3 (m:=hh.toNat) aM .slice3C;simp[hmr,t1,t2]
    have hrun:(execOp a.eval o).run P w = .ok (.value (.slice (if m.toNat=l.toNat then A else A.map (·.add (l.toNat*sz'))) (hh.toNat-l.toNat) (m.toNat-l.toNat))) w:=by
     simp[execOp,hop,Instr.sliceAt,dP ht,Instr.slice,hv,hbs,jd hn]
    rcases k8 h with ⟨hm0,h⟩|⟨hm0,h⟩
    ·cases h;have hm0:m=0:=by simpa using hm0
     subst hm0;have e1:hh=0:=aM;have e2:l=0:=aM;subst e1; subst e2;exact⟨_,w,.inl hrun,.still hr (.c0 _)⟩
    ·rcases k8 h with ⟨hm1,h⟩|⟨hm1,h⟩<;>(cases h)
     ·have:l=hh:=by simpa using hm1
      subst this;refine⟨_,w,.inl hrun,.still hr (.plain ?_)⟩;rw[Nat.sub_self];exact fK.nil _ _ _
     ·have:l≠hh:=by simpa using hm1
      rw[aj aM] at hrun;exact⟨_,w,.inl hrun,.still hr (key m.toNat aM c3 aM aM aM)⟩
   ·cases h
 ·cases h
theorem T5(hr:Rel j M w)(he:cE j M w bq a){y i:Operand}{z z':gw}{t e:TypeId}{n:Nat}(hop:o.op = .indexAddr t y i)(ht:P.underlying t=some (.slice e))(hn:qg P e=some n)
  (hz:ew y=some z) (hz':ew i=some z') (h:ei C bq M (.rD n z z')=some x):∃v w',rl P o a w v w'/\iH j M w x v w':=by
 simp only[ei] at h;have h1:=cU he hz;have h2:=cU he hz';split at h
 ·rename_i tk xs k m ez ez';obtain⟨h0,h⟩:=dw h;obtain⟨el,hel,h⟩:=bu h;split at h
  ·rename_i hwd;cases h;rw[ez] at h1;rw[ez'] at h2;obtain⟨A,cap,b,off,sz,vs,hv,hc,ha,hsz,hs,hrp⟩:=h1.eb.eb;have cA:=aJ hel;have hne:xs≠[]:=by rintro rfl; simp at cA
   have hA:=ha hne;have hsz':sz=n:=by rw[<-hwd]; exact(hsz el (aU hel)).symm
   subst hsz';subst hA;refine⟨.pointer (some ⟨b,off+m.toNat*sz,none⟩),w,.inl ?_,.still hr (.ju (vs:=fun q=>vs (m.toNat*sz+q)) fun q c hq=>?_)⟩
   ·have hm:m<xs.length:=aM;simp[execOp,hop,Instr.indexAt,dP ht,hv,h2.fS,asIntOf,h0,hm,jd hn,lz]
   grind
  ·cases h
 ·rename_i id v0 sz' lo hi k m ez ez';obtain⟨⟨h0,hm,hsz⟩,h⟩:=dw h;cases h;subst hsz;rw[ez] at h1;rw[ez'] at h2;have hlt0:lo+m.toNat<hi:=aM;obtain⟨b,off,cap,hv,hcap⟩:=h1.Vr aM;obtain⟨_,g1,g2,g3⟩:=h1.mQ;refine⟨.pointer (some ⟨b,off+m.toNat*sz',none⟩),w,.inl ?_,.still hr (.iI ⟨_,_,rfl⟩ g1 g2 fun sz v' xs hM=>?_)⟩
  ·simp[execOp,hop,Instr.indexAt,dP ht,hv,h2.fS,asIntOf,h0,hm,jd hn,lz]
  ·obtain⟨k1,k2⟩:=g3 sz v' xs hM;refine⟨k1,fun he=>?_⟩
   obtain⟨rfl,l1,l2,⟨rfl,_⟩|⟨b',cap',vs,t',l3,l4,l5,l6,l7⟩⟩:=k2 he
   ·exact absurd (bz hlt0 l2) dk
   rw[hv] at l4
   grind [Nat.lt_of_lt_of_le,Nat.add_mul]
 ·cases h
def GK(b off:Nat)(u:Nat->Value):∀(n i:Nat)(acc:Array Value),(∀k,k<n->w.cell? ⟨b,off+(i+k),none⟩=some (u (i+k))) ->
  (loadCellsFrom ⟨b,off,none⟩ i n acc).run P w = .ok (acc++((List.range n).map fun k=>u (i+k)).toArray) w:=by
 intro n;induction n with
 |zero=>simp[loadCellsFrom]
 |succ n ih =>
  intro i acc h;have h0:=h 0 dk;simp_all [loadCellsFrom,lz,List.range_succ_eq_map,Function.comp_def,Nat.add_comm,Nat.add_left_comm]
theorem o3(b off n:Nat)(u:Nat->Value)(h:∀k,k<n->w.cell? ⟨b,off+k,none⟩=some (u k)) :
  (loadCells ⟨b,off,none⟩ n).run P w = .ok (((List.range n).map u).toArray) w:=by
 have:=GK (P:=P) (w:=w) b off u n 0 #[] kW
 grind [loadCells]
theorem wZ{id b:Nat}{cs:List ag}(hr:Rel j M w)(hM:M[id]?=some (.cells cs))(hj:j id=some b):∃vs t,w.heap[b]?=some (.cells vs t (0,0))/\cs.length=vs.size /\
  (∀(q:Nat)(c:ag)(v:Value),cs[q]?=some c->vs[q]?=some v->gn j M w c v)/\∀q,w.cell? ⟨b,q,none⟩=vs[q]?:=by
 obtain⟨b',vs,t,h1,h2,h3,h4⟩:=hr.box _ _ hM
 grind [World.cell?]
theorem Hx(hr:Rel j M w){id ver i off sz:Nat}{xs:List ag}{v:Value}{el:ag}(hM:M[id]?=some (.arr sz ver xs))(h:gn j M w (.iI id ver i off) v)(hel:xs[i]?=some el) :
  ∃b,v = .pointer (some ⟨b,i*sz+off,none⟩)/\∀(k:Nat)(c:ag),el.cells[off+k]?=some c->∃u,w.cell? ⟨b,i*sz+off+k,none⟩=some u/\fK w (ow j M w) c u:=by
 obtain⟨_,_,_,g⟩:=h.sF;obtain⟨g1,b,g2,g3⟩:=(g _ _ _ hM).2 rfl;obtain⟨b',vs,t,k1,k2,k3,k4,k5⟩:=hr.yF hM g2
 grind [World.cell?]
theorem T8(hr:Rel j M w)(he:cE j M w bq a){y:Operand}{z:gw}{t:TypeId}(hop:o.op = .load t y)(hg:B1 P t=some false)(hz:ew y=some z)(h:ei C bq M (.mY z)=some x) :
  ∃v w',rl P o a w v w'/\iH j M w x v w':=by
 simp only[ei] at h;have h1:=cU he hz;split at h
 ·rename_i id off e;rw[e] at h1;obtain⟨b,_,_,hj,hv⟩:=h1.pV;rw[eY] at h;split at h
  ·rename_i cs hM;obtain⟨c,hc,h⟩:=bu h;cases h;rw[eY] at hc;obtain⟨vs,t0,hw,hl,hcs,hcell⟩:=wZ hr hM hj;have cA:=aJ hc;have hu:vs[off]?=some (vs[off]'(by omega)):=bf aM
   refine⟨_,w,.inl ?_,.still hr (hcs _ c _ hc hu)⟩;simp[execOp,hop,Instr.loadAt,Instr.sureAddr,hv,loadVar,lf hg,hcell,hu]
  grind
 ·rename_i cs e;rw[e] at h1;obtain⟨b,off,vs,hv,hc⟩:=h1.uw;obtain⟨c,hc0,h⟩:=bu h;cases h;rw[eY] at hc0;obtain⟨h2,_,h3⟩:=hc 0 c hc0;refine⟨_,w,.inl ?_,.still hr (.plain h3)⟩;simp_all [execOp,Instr.loadAt,Instr.sureAddr,loadVar,lf]
 ·rename_i id ver i off e;rw[e] at h1;rw[eY] at h;split at h
  ·rename_i sz v0 xs hM;split at h
   ·rename_i hv0;subst hv0;obtain⟨el,hel,h⟩:=bu h;obtain⟨c,hc,h⟩:=bu h;cases h;rw[eY] at hc;obtain⟨b,hv,hcell⟩:=Hx hr hM h1 hel;obtain⟨u,l1,l2⟩:=hcell 0 c aM;refine⟨u,w,.inl ?_,.still hr (.plain l2)⟩;simp_all [execOp,Instr.loadAt,Instr.sureAddr,loadVar,lf]
   grind
  ·cases h
 grind
theorem T9(hr:Rel j M w)(he:cE j M w bq a){y:Operand}{z:gw}{t:TypeId}{n:Nat}(hop:o.op = .load t y)(hg:B1 P t=some true)(hn:qg P t=some n)(hz:ew y=some z)
  (h:ei C bq M (.kl n z)=some x):∃v w',rl P o a w v w'/\iH j M w x v w':=by
 simp only[ei] at h;have h1:=cU he hz;split at h
 ·rename_i id off e;rw[e] at h1;obtain⟨b,_,_,hj,hv⟩:=h1.pV;rw[eY] at h;split at h
  ·rename_i cs hM;split at h
   ·rename_i hle;cases h;obtain⟨vs,t0,hw,hl,hcs,hcell⟩:=wZ hr hM hj
    have hrun:=o3 (P:=P) (w:=w) b off n (fun k=>(vs[off+k]?).getD undef) fun k hk=>by
     rw[hcell,bf aM]; simp
    refine⟨_,w,.inl (by simp[execOp,hop,Instr.loadAt,Instr.sureAddr,hv,loadVar,lf hg,jd hn,hrun]; rfl),.still hr (.agg kW fun p c u hc hu=>?_)⟩
    grind
   ·cases h
  ·cases h
 ·rename_i cs e;split at h
  ·rename_i hle;cases h;rw[e] at h1;obtain⟨b,off,vs,hv,hc⟩:=h1.uw;have hrun:=o3 (P:=P) (w:=w) b off n vs fun k hk=>(hc k _ (ai aM)).1
   refine⟨_,w,.inl (by simp[execOp,hop,Instr.loadAt,Instr.sureAddr,hv,loadVar,lf hg,jd hn,hrun]; rfl),.still hr (.agg ic fun p c u hc' hu=>?_)⟩
   have hp:p<n:=by have:=aJ hc'; simp_all
   rw[bM hp] at hc';have hu':u=vs p:=by simp_all
   subst hu';exact .plain (hc p c hc').2.2
  ·cases h
 ·rename_i id ver i off e;rw[e] at h1;rw[eY] at h;split at h
  ·rename_i sz v0 xs hM;split at h
   ·rename_i hv0;subst hv0;obtain⟨el,hel,h⟩:=bu h;split at h
    ·rename_i hle;cases h;obtain⟨b,hv,hcell⟩:=Hx hr hM h1 hel
     have hrun:=o3 (P:=P) (w:=w) b (i*sz+off) n (fun k=>(w.cell? ⟨b,i*sz+off+k,none⟩).getD undef) fun k hk=>by
      obtain⟨u,l1,_⟩:=hcell k _ (ai aM);rw[l1]; rfl
     refine⟨_,w,.inl (by simp[execOp,hop,Instr.loadAt,Instr.sureAddr,hv,loadVar,lf hg,jd hn,hrun]; rfl),.still hr (.agg ic fun p c u hc' hu=>?_)⟩
     have hp:p<n:=by have:=aJ hc'; simp at this; omega
     rw[bM hp,cZ] at hc';obtain⟨u',l1,l2⟩:=hcell p c hc';have hu':u=(w.cell? ⟨b,i*sz+off+p,none⟩).getD undef:=by simp_all
     rw[l1] at hu';subst hu';exact .plain l2
    ·cases h
   ·cases h
  ·cases h
 ·cases h
end
section
variable {P:Program} {C:eO} {o:Oper} {bq:Env} {M:aO} {j:J} {w:World} {a:Act} {x:ag×aO}
def tJ{y:ag}{v:Value}{cs:List ag}(h:gn j M w y v)(hc:y.cells?=some cs):RC j M w cs v.cells:=by
 cases y<;>simp only[ag.cells?,iR,reduceCtorEq] at hc
 case agg cs' =>
  subst hc;obtain⟨vs,rfl,h1,h2⟩:=h.mM;exact⟨h1,h2⟩
 case raw u =>
  cases h with
  |plain h =>
   cases h with
   |raw _ h1 =>
    cases v<;>simp at hc<;>subst hc <;>
     exact⟨rfl,fun i c v hc hv=>by
      cases i with
      |zero=>simp[Value.cells] at hc hv; subst hc; subst hv; exact .plain (.raw _ h1)
      |succ i=>simp at hc⟩
 all_goals
  subst hc
  have hv:v.cells = #[v]:=by
   first
    |(have:=h.js; subst this; rfl)
    |(have:=h.fS; subst this; rfl)
    |(have:=h.kg; subst this; rfl)
    |(obtain⟨A,cap,b,off,sz,vs,e,_⟩:=h.eb.eb; subst e; rfl)
    |(obtain⟨b,_,_,_,e⟩:=h.pV; subst e; rfl)
    |(obtain⟨b,off,vs,e,_⟩:=h.uw; subst e; rfl)
    |(obtain⟨vs,e,_⟩:=h.rB; subst e; rfl)
    |(obtain⟨b,_,_,e⟩:=h.vy; subst e; rfl)
    |(obtain⟨b,_,_,e⟩:=h.Dc; subst e; rfl)
    |(obtain⟨b,es,cl,e,_⟩:=h.HU; subst e; rfl)
    |(obtain⟨_,_,e⟩:=h.zo; subst e; rfl)
    |(obtain⟨⟨_,_,e⟩,_⟩:=h.sF; subst e; rfl)
    |(obtain⟨_,e,_⟩:=h.GM; subst e; rfl)
    |(obtain⟨_,_,_,e⟩:=h.Ib; subst e; rfl)
  rw[hv]
  exact⟨rfl,fun i c u hc hu=>by
   cases i with
   |zero=>simp at hc hu; subst hc; subst hu; exact h
   |succ i=>simp at hc⟩
theorem CM{c:ag}{v:Value}(h:gn j M w c v)(hc:c.j9=true):v.oneCell'=true:=by
 cases c<;>simp only[ag.j9,af] at hc
 case bool=>have:=h.js; subst this; rfl
 case int=>have:=h.fS; subst this; rfl
 case str=>have:=h.kg; subst this; rfl
 case slice=>obtain⟨A,cap,b,off,sz,vs,e,_⟩:=h.eb.eb; subst e; rfl
 case ptr=>obtain⟨b,_,_,_,e⟩:=h.pV; subst e; rfl
 case ju=>obtain⟨b,off,vs,e,_⟩:=h.uw; subst e; rfl
 case func=>obtain⟨vs,e,_⟩:=h.rB; subst e; rfl
 case gJ=>obtain⟨b,_,_,e⟩:=h.vy; subst e; rfl
 case jI=>obtain⟨b,_,_,e⟩:=h.Dc; subst e; rfl
 case iB=>obtain⟨b,es,cl,e,_⟩:=h.HU; subst e; rfl
 case cY=>obtain⟨_,_,e⟩:=h.zo; subst e; rfl
 case iI=>obtain⟨⟨_,_,e⟩,_⟩:=h.sF; subst e; rfl
 case rP=>obtain⟨_,e,_⟩:=h.GM; subst e; rfl
 case jX=>obtain⟨_,_,_,e⟩:=h.Ib; subst e; rfl
 case raw u =>
  cases h with
  |plain h=>cases h<;>grind
theorem GP(hr:Rel j M w){cs:List ag}{vs:Array Value}(hc:RC j M w cs vs)(t:TypeId) :
  iH j M w (.ptr M.length 0,M++[.cells cs]) (.pointer (some ⟨w.heap.size,0,none⟩)) { w with heap:=w.heap.push (.cells vs t (0,0)) }:=by
 have q:Quiet w { w with heap:=w.heap.push (.cells vs t (0,0)) }:=⟨dk,rfl,rfl,rfl⟩
 have hb:∀b,b<w.heap.size->({ w with heap:=w.heap.push (.cells vs t (0,0)) }:World).heap[b]?=w.heap[b]?:=fun b hb=>by
  grind
 have hn:({ w with heap:=w.heap.push (.cells vs t (0,0)) }:World).heap[w.heap.size]?=some (.cells vs t (0,0)):=dk
 refine⟨gD j _ (some w.heap.size),hr.push (fun b h=>?_) q hb (fun _=>?_) (fun sz n b h=>kW),Ext.push (fun b h=>?_) q hb,.ptr dk ⟨cs,dk⟩ (by simp[gD])⟩
 ·grind
 ·exact⟨_,rfl,fun j' M' hx=>⟨vs,t,hn,hc.1,fun i c v h1 h2=>(hc.2 i c v h1 h2).mono hx⟩⟩
 grind
def adL(hr:Rel j M w)(he:cE j M w bq a){y:Operand}{z:gw}{t:TypeId}(hop:o.op = .box t y)(hz:ew y=some z)(h:ei C bq M (.box z)=some x) :
  ∃v w',rl P o a w v w'/\iH j M w x v w':=by
 obtain⟨cs,hc,h⟩:=bu h;cases h;exact⟨_,_,.inl (by simp_all [execOp,Instr.box,newVar,newRow]),GP hr (tJ (cU he hz) hc) t⟩
def MD(hr:Rel j M w){t:TypeId}{i:TypeInfo}{zv:Value}{l:List ag}(hop:o.op = .alloc t)(hi:P.info? t=some i)(hzv:i.zero=some zv)(hl:tn zv.cells.toList=some l)
  (h:ei C bq M (.sv l)=some x):∃v w',rl P o a w v w'/\iH j M w x v w':=by
 cases h;obtain⟨h1,h2⟩:=qo hl;refine⟨_,_,.inl (by simp[execOp,hop,Instr.alloc,zeroValue,pM hi,hzv]; rfl),GP hr ⟨aM,fun i c v hc hv=>h2 i c v hc kW⟩ t⟩
def Ud(hr:Rel j M w)(he:cE j M w bq a){y:Operand}{z:gw}{n:Nat}(hop:o.op = .assign y)(hz:ew y=some z)(h:ei C bq M (.own n z)=some x) :
  ∃v w',rl P o a w v w'/\iH j M w x v w':=by
 simp only[ei] at h;split at h
 ·rename_i ez;cases h;have h1:=cU he hz;rw[ez] at h1;have q:Quiet w w:=⟨ak _,rfl,rfl,rfl⟩
  obtain⟨A,hA⟩:∃A,a.eval y = .slice A 0 0:=by
   generalize a.eval y=v at h1;cases h1 with
   |plain h=>cases h
   |c0 A=>simp
  refine⟨a.eval y,w,.inl (by simp_all [execOp]),gD j M.length none,?_⟩
  rw[hA];unfold vz wi;split
  ·refine⟨hr.push (ob:=none) (fun b h=>by cases h) q (fun _ _=>rfl) (fun h=>by cases h) (fun sz n b h h'=>by cases h') (fun sz ver xs h=>by injection h with e1 e2 e3; exact .inl ⟨e3.symm,rfl⟩),Ext.push (fun b h=>by cases h) q (fun _ _=>rfl),?_⟩
   refine .cY (.inr ⟨rfl,A,rfl⟩) dk (fun bx hbx=>by rw[kd] at hbx; cases hbx; rfl) fun sz' v' zs hx=>?_
   rw[kd] at hx; injection hx with hx; injection hx with e1 e2 e3
   subst e1; subst e2; subst e3;exact⟨ak _,fun _=>⟨rfl,ak _,ak _,.inl ⟨rfl,by simp[gD],A,rfl⟩⟩⟩
  ·refine⟨hr.push (fun b h=>kW) q (fun _ _=>rfl) (fun h=>by cases h) (fun sz n b h h'=>kW),Ext.push (fun b h=>kW) q (fun _ _=>rfl),?_⟩
   exact .own (sz:=n) dk dk (fK.nil _ _ _) fun _ => .inl ⟨by simp[gD],rfl,A,rfl⟩
 ·exact zR (C:=C) hr he (.inr hop) hz h
def pf(w:World)(b:Nat):Nat->List Value->World
 |_,[]=>w
 |off,v::r=>pf (w.setCell ⟨b,off,none⟩ v) b (off+1) r
def lU{b:Nat}{t:TypeId}:∀(l:List Value)(w:World)(off:Nat)(vs:Array Value),w.heap[b]?=some (.cells vs t (0,0))->off+l.length<=vs.size ->
  (pf w b off l).heap.size=w.heap.size/\(pf w b off l).os=w.os/\(pf w b off l).tape=w.tape/\(pf w b off l).output=w.output /\
  (∀b',b'≠b->(pf w b off l).heap[b']?=w.heap[b']?) /\
  ∃vs',(pf w b off l).heap[b]?=some (.cells vs' t (0,0))/\vs'.size=vs.size/\(∀p,p<off\/off+l.length<=p->vs'[p]?=vs[p]?)/\∀p,p<l.length->vs'[off+p]?=l[p]?:=by
 intro l;induction l with
 |nil=>intro w off vs h _; exact⟨rfl,rfl,rfl,rfl,fun _ _=>rfl,vs,h,rfl,fun _ _=>rfl,fun p hp=>by simp at hp⟩
 |cons v r ih =>
  intro w off vs h hle;simp only[aD] at hle
  have hs:(w.setCell ⟨b,off,none⟩ v).heap[b]?=some (.cells (vs.setIfInBounds off v) t (0,0)):=by
   simp[World.setCell,ft,h]
  obtain⟨h1,h2,h3,h4,h5,vs',h6,h7,h8,h9⟩:=ih (w.setCell ⟨b,off,none⟩ v) (off+1) (vs.setIfInBounds off v) hs ic;refine⟨by simp only[pf]; rw[h1]; simp[World.setCell],by simp only[pf]; rw[h2]; rfl,by simp only[pf]; rw[h3]; rfl,by simp only[pf]; rw[h4]; rfl,fun b' hb'=>?_,vs',h6,by rw[h7]; simp,fun p hp=>?_,fun p hp=>?_⟩
  ·simp only[pf];rw[h5 b' hb'];simp[World.setCell,ft,dM hb']
  ·simp only[aD] at hp;rw[h8 p aM,fi aM]
  ·cases p with
   |zero =>
    have:vs'[off]?=(vs.setIfInBounds off v)[off]?:=h8 off aM;rw[dq,this];simp[gX];omega
   |succ p =>
    have:=h9 p (by simpa using hp)
    rw[show off+(p+1)=off+1+p by omega,this]
    simp
def nq{b:Nat}{t:TypeId}:∀(l:List Value)(w:World)(off i:Nat)(vs:Array Value),w.heap[b]?=some (.cells vs t (0,0))->off+i+l.length<=vs.size->(∀v,v∈l->v.oneCell'=true) ->
  (storeCells ⟨b,off,none⟩ l i).run P w = .ok () (pf w b (off+i) l):=by
 intro l;induction l with
 |nil=>simp[storeCells,pf]
 |cons v r ih =>
  intro w off i vs h hle hv;simp only[aD] at hle
  have hs:(w.setCell ⟨b,off+i,none⟩ v).heap[b]?=some (.cells (vs.setIfInBounds (off+i) v) t (0,0)):=by
   simp[World.setCell,ft,h]
  have hc:w.cell? ⟨b,off+i,none⟩=some (vs[off+i]'(by omega)):=by
   simp[World.cell?,h]
  have hf:w.frozen? ⟨b,off+i,none⟩=false:=by simp[World.frozen?,h]
  have hi:=ih _ off (i+1) _ hs ic (fun u hu=>hv u (aP _ hu))
  simp[storeCells,lz,run_store P w _ v .plain (hv v _),hc,hf,aC,Result.andThen_ok,hi];rfl
theorem rk{cs new:List ag}{off:Nat}(h:off+new.length<=cs.length)(p:Nat) :
  (mq cs off new)[p]?=if off<=p/\p<off+new.length then new[p-off]? else cs[p]?:=by
 grind [mq]
theorem uQ{cs new:List ag}{off:Nat}(h:off+new.length<=cs.length):(mq cs off new).length=cs.length:=by
 grind [mq]
theorem z7{c:ag}{v:Value}(h:gn j M w c v)(hp:c.shut.plainCell=true):fK w (ow j M w) c.shut v:=by
 cases c<;>simp[ag.shut,ag.plainCell] at hp ⊢
 case bool=>have:=h.js; subst this; exact .bool _
 case int=>have:=h.fS; subst this; exact .int _ _
 case str=>have:=h.kg; subst this; exact .str _
 case slice=>exact h.eb
 case raw=>cases h<;>grind
theorem BQ{c:ag}(h:c.shut.plainCell=true):c.j9=true:=by
 cases c<;>simp[ag.shut,ag.plainCell] at h<;>try rfl
 rename_i v;cases v<;>first|rfl|grind
def GY{c:ag}(h:c.plainCell=true):c.cells=[c]:=by
 cases c<;>first|rfl|cases h
theorem DH{e:ag}{off:Nat}{new:List ag}(h:off+new.length<=e.cells.length)(hp:new.all ag.plainCell=true):(putCells e off new).cells=mq e.cells off new:=by
 by_cases hag:∃cs,e = .agg cs
 ·obtain⟨cs,rfl⟩:=hag;cases new<;>rfl
 ·have h1:e.cells=[e]:=by cases e<;>first|rfl|grind
  rw[h1] at h ⊢
  match new,h,hp with
  | [],h,_ =>
   have:putCells e off []=e:=by cases e<;>first|rfl|grind
   rw[this,h1]
   match off,h with
   |0,_=>rfl
   |1,_=>rfl
  | [c],h,hp =>
   have:putCells e off [c]=c:=by cases e<;>first|rfl|grind
   have h0:off=0:=kW;subst h0;rw[this,GY kW];rfl
  |_::_::_,h,_=>grind
theorem DA(hr:Rel j M w)(he:cE j M w bq a){y y':Operand}{z z':gw}{t:TypeId}{n:Nat}(hop:o.op = .store t y y')(hn:qg P t=some n)(hz:ew y=some z)(hz':ew y'=some z')
  (h:ei C bq M (.store n z z')=some x):∃v w',rl P o a w v w'/\iH j M w x v w':=by
 simp only[ei] at h;have h1:=cU he hz;have h2:=cU he hz';split at h
 ·rename_i id off e;rw[e] at h1;obtain⟨b,_,_,hj,hv⟩:=h1.pV;rw[eY] at h;split at h
  ·rename_i cs hM;obtain⟨new,iC,h⟩:=bu h;split at h
   ·rename_i hcond;obtain⟨c1,c2,c3⟩:=hcond;cases h;obtain⟨vs,t0,hw,hl,hcs,hcell⟩:=wZ hr hM hj;obtain⟨n1,n2⟩:=tJ h2 iC
    have hone:∀v,v∈(a.eval y').cells.toList->v.oneCell'=true:=by
     intro v hv;obtain⟨p,hp,rfl⟩:=jU hv;have hp':p<(a.eval y').cells.size:=by simpa using hp
     have hpl:p<new.length:=aM;have hr':=n2 p _ _ (ai hpl) (bf hp');have:=CM hr' (bF.1 c3 _ (jf hpl));simpa using this
    have hrun:=nq (P:=P) (a.eval y').cells.toList w off 0 vs hw ic hone;obtain⟨s1,s2,s3,s4,s5,vs',s6,s7,s8,s9⟩:=lU (a.eval y').cells.toList w off vs hw ic;have q:Quiet w (pf w b off (a.eval y').cells.toList):=⟨aM,s2,s3,s4⟩;have hle:off+new.length<=cs.length:=aM;rw[fJ];refine⟨undef,pf w b off (a.eval y').cells.toList,.inr ⟨?_,rfl⟩,j,Rel.store hM rfl rfl hj hr q (fun b' hb' _=>s5 b' hb') (fun vs0 t1 fr h=>by rw[hw] at h; grind) (fun j' M' hx=>⟨vs',t0,s6,by rw[uQ hle]; omega,fun p c v hc hv'=>gn.mono hx ?_⟩),Ext.store hM rfl rfl hj hr q (fun b' hb' _=>s5 b' hb') (fun vs0 t1 fr h=>by rw[hw] at h; grind),.any _⟩
    ·simp_all [dq,execOp,Instr.storeAt,Instr.sureAddr,storeVar,jd]
    ·rw[rk hle] at hc;split at hc
     ·rename_i hp;have h9:=s9 (p-off) ic;rw[show off+(p-off)=p by omega,hv'] at h9
      exact n2 (p-off) c v hc (by simpa using h9.symm)
     grind
   ·cases h
  ·cases h
 ·rename_i id ver i off e;rw[e] at h1;rw[eY] at h;split at h
  ·rename_i sz v0 xs hM;obtain⟨new,iC,h⟩:=bu h;obtain⟨el,hel,h⟩:=bu h;split at h
   ·rename_i hcond;obtain⟨hv0,c1,c2,c3⟩:=hcond;subst hv0;cases h;obtain⟨_,hid,_,hv⟩:=h1.sF;obtain⟨hi,b,hj,hv⟩:=(hv sz v0 xs hM).2 rfl;obtain⟨b',vs,t0,k1,hw,k3,k4,k5⟩:=hr.yF hM hj;rw[hj] at k1; cases k1;have hsz:el.cells.length=sz:=k4 el (aU hel)
    have hbd:i*sz+sz<=vs.size:=by
     refine bg ?_ k3
     calc i*sz+sz=(i+1)*sz:=by rw[cg]; omega
      _<=xs.length*sz:=bd _ hi
    obtain⟨n1,n2⟩:=tJ h2 iC
    have hpl:∀(p:Nat)(c:ag),new[p]?=some c->c.shut.plainCell=true:=fun p c hc=>by
     rw[List.all_map,bF] at c3;exact c3 c (aU hc)
    have hone:∀v,v∈(a.eval y').cells.toList->v.oneCell'=true:=by
     intro v hv;obtain⟨p,hp,rfl⟩:=jU hv;have hp':p<(a.eval y').cells.size:=by simpa using hp
     have hpl':p<new.length:=aM;have hr':=n2 p _ _ (ai hpl') (bf hp');have:=CM hr' (BQ (hpl p _ (ai hpl')));simpa using this
    have hrun:=nq (P:=P) (a.eval y').cells.toList w (i*sz+off) 0 vs hw ic hone;obtain⟨s1,s2,s3,s4,s5,vs',s6,s7,s8,s9⟩:=lU (a.eval y').cells.toList w (i*sz+off) vs hw ic;have q:Quiet w (pf w b (i*sz+off) (a.eval y').cells.toList):=⟨aM,s2,s3,s4⟩;have hle:off+(new.map ag.shut).length<=el.cells.length:=ic;have hput:=DH hle c3
    have hw':∀vs0 t1,w.heap[b]?=some (.cells vs0 t1 (0,0))->∃vs1,(pf w b (i*sz+off) (a.eval y').cells.toList).heap[b]?=some (.cells vs1 t1 (0,0))/\vs1.size=vs0.size:=fun vs0 t1 h=>by
     rw[hw] at h; grind
    rw[fJ,fJ];refine⟨undef,pf w b (i*sz+off) (a.eval y').cells.toList,.inr ⟨?_,rfl⟩,j,Rel.Ek hM hj hr q (fun b' hb' _=>s5 b' hb') hw' (ak _) (fun _=>dk) (fun j' M' hx=>⟨vs',t0,s6,ic,fun x hx'=>?_,fun p x k c hp hk=>?_⟩),Ext.Ek hM hj hr q (fun b' hb' _=>s5 b' hb') hw' (ak _) (fun _=>dk),.any _⟩
    ·simp only[dq] at hrun;simp[execOp,hop,Instr.storeAt,Instr.sureAddr,hv,storeVar,jd hn,show(a.eval y').cells.size=n by omega,hrun]
    ·rcases lq hx' with hx'|rfl
     ·exact k4 x hx'
     ·rw[hput,uQ hle,hsz]
    ·have fx:(a.eval y').cells.toList.length=n:=ic
     by_cases hpi:i=p
     ·subst hpi;rw[eF hi] at hp;cases hp;rw[hput,rk hle] at hk;split at hk
      ·rename_i hin;simp only[az] at hin;rw[bb,aW] at hk;obtain⟨c0,hc0,rfl⟩:=hk;have h9:=s9 (k-off) aM;rw[show i*sz+off+(k-off)=i*sz+k by omega] at h9
       have cA:k-off<(a.eval y').cells.size:=aM;have hu:(a.eval y').cells[k-off]?=some (a.eval y').cells[k-off]:=bf cA;exact⟨_,by rw[h9]; simp,(z7 (n2 _ c0 _ hc0 hu) (hpl _ c0 hc0)).mono hx.im⟩
      ·rename_i hin;simp only[az] at hin;obtain⟨u,u1,u2⟩:=k5 i el k c hel hk;exact⟨u,by rw[s8 _ aM]; exact u1,u2.mono hx.im⟩
     ·rw[fF hpi] at hp;obtain⟨u,u1,u2⟩:=k5 p x k c hp hk;have hk':k<sz:=by rw[<-k4 x (aU hp)]; exact aJ hk
      refine⟨u,(s8 _ ?_).trans u1,u2.mono hx.im⟩;rcases bK p i with cA|hge
      ·left;have:=bd sz (show p+1<=i from cA)
       rw[cg] at this;omega
      ·right;have:=bd sz (show i+1<=p by omega)
       rw[cg] at this;omega
   ·cases h
  ·cases h
 ·cases h
end
def Uz(off:Nat):∀(l:List Value)(k:Nat)(cells:Array Value),
  ((l.zipIdx k).foldl (fun(cs:Array Value) (x:Value×Nat)=>cs.setIfInBounds (off+x.2) x.1) cells).size=cells.size /\
  ∀p,((l.zipIdx k).foldl (fun(cs:Array Value) (x:Value×Nat)=>cs.setIfInBounds (off+x.2) x.1) cells)[p]? =
   if off+k<=p/\p<off+k+l.length/\p<cells.size then l[p-(off+k)]? else cells[p]?:=by
 intro l;induction l with
 |nil=>intro k cells; exact⟨rfl,fun p=>ic⟩
 |cons v r ih =>
  intro k cells;rw[List.zipIdx_cons,bB];obtain⟨h1,h2⟩:=ih (k+1) (cells.setIfInBounds (off+k) v);refine⟨by rw[h1]; simp,fun p=>?_⟩
  rw[h2];simp only[Array.size_setIfInBounds,aD]
  by_cases c1:off+(k+1)<=p/\p<off+(k+1)+r.length/\p<cells.size
  ·rw[av c1,av aM,show p-(off+k)=(p-(off+(k+1)))+1 by omega]
   simp
  ·rw[aj c1]
   by_cases c2:p=off+k/\p<cells.size
   ·obtain⟨rfl,cA⟩:=c2;rw[av aM];simp[gX,cA]
   ·rw[aj aM]
    by_cases c3:p=off+k
    ·have:¬p<cells.size:=fun h=>c2 ⟨c3,h⟩
     rw[ik ic,ik aM]
    ·rw[fi aM]
def putRow(cells:Array Value)(off:Nat)(vs:Array Value):Array Value:=vs.zipIdx.foldl (fun cs (c,k)=>cs.setIfInBounds (off+k) c) cells
def BO(cells:Array Value)(off:Nat)(vs:Array Value):(putRow cells off vs).size=cells.size /\
  ∀p,(putRow cells off vs)[p]?=if off<=p/\p<off+vs.size/\p<cells.size then vs[p-off]? else cells[p]?:=by
 have h:=Uz off vs.toList 0 cells
 have e:putRow cells off vs=(vs.toList.zipIdx 0).foldl (fun(cs:Array Value) (x:Value×Nat)=>cs.setIfInBounds (off+x.2) x.1) cells:=by
  unfold putRow;rw[<-Array.foldl_toList];simp
 rw[e];exact⟨h.1,fun p=>by rw[h.2 p]; simp⟩
section
variable {P:Program} {C:eO} {o:Oper} {bq:Env} {M:aO} {j:J} {w:World} {a:Act} {x:ag×aO}
def RC.write{cs new:List ag}{cells vs:Array Value}{off:Nat}(h:RC j M w cs cells)(hn:RC j M w new vs)(hle:off+new.length<=cs.length):RC j M w (mq cs off new) (putRow cells off vs):=by
 obtain⟨p1,p2⟩:=BO cells off vs;have h1:=h.1;have h2:=hn.1;refine⟨by rw[uQ hle,p1]; exact h1,fun i c v hc hv=>?_⟩
 rw[rk hle] at hc;rw[p2] at hv
 have hi:i<cells.size:=by
  rcases bK i cells.size with hi|hi
  ·exact hi
  ·rw[aj aM,ik hi] at hv; cases hv
 split at hc
 ·rename_i hp;rw[av aM] at hv;exact hn.2 _ c v hc hv
 ·rename_i hp;rw[aj aM] at hv;exact h.2 _ c v hc hv
def TI{α β:Type}{g:α->Sem β}{f:α->β}:∀(l:List α),(∀x,x∈l->(g x).run P w = .ok (f x) w)->(l.mapM g).run P w = .ok (l.map f) w:=by
 intro l;induction l with
 |nil=>intro _; simp
 |cons y r ih =>
  intro h;simp[List.mapM_cons,h y dk,ih fun x hx=>h x (by simp[hx])]
def HQ{fs:Array Field}(he:cE j M w bq a)(hfs:∀f,f∈fs.toList->(P.info? f.type).isSome=true):∀ {parts:List (Nat×Operand)} {ps:List (Nat×Nat×gw)} {cs cs':List ag} {cells:Array Value},
  Ay P fs parts=some ps->lO bq cs ps=some cs'->RC j M w cs cells ->
  ∃cells',Instr.fill (fun i=>(fs.map fun f=>(f.offset,P.cellsOf f.type))[i]?) cells (parts.map fun p=>(p.1,a.eval p.2))=some cells'/\RC j M w cs' cells':=by
 intro parts;induction parts with
 |nil =>
  intro ps cs cs' cells h1 h2 h3;simp[Ay] at h1; subst h1;simp[lO] at h2; subst h2;exact⟨cells,rfl,h3⟩
 |cons p r ih =>
  intro ps cs cs' cells h1 h2 h3;obtain⟨i,y⟩:=p;simp only[Ay] at h1;obtain⟨f,hf,h1⟩:=bc h1;obtain⟨n,hn,h1⟩:=bc h1;obtain⟨z,hz,h1⟩:=bc h1;obtain⟨l,hl,h1⟩:=bc h1;cases h1;simp only[lO] at h2;obtain⟨new,iC,h2⟩:=bu h2;split at h2
  ·rename_i hc;obtain⟨c1,c2⟩:=hc;have hrc:=tJ (cU he hz) iC;obtain⟨inf,hinf,hsz⟩:=DT hn;have hco:P.cellsOf f.type=n:=by simp[Program.cellsOf,hinf,hsz]
   obtain⟨cells',e1,e2⟩:=ih hl h2 (h3.write (off:=f.offset) hrc aM);refine⟨cells',?_,e2⟩;have hs1:=hrc.1;have hs2:=h3.1;have hpl:(fs.map fun f=>(f.offset,P.cellsOf f.type))[i]?=some (f.offset,n):=by simp[hf,hco]
   simp only[a8,Instr.fill,hpl];rw[aj ic];exact e1
  ·cases h2
def TZ(hr:Rel j M w)(he:cE j M w bq a){t:TypeId}{parts:Array (Nat×Operand)}{fs:Array Field}{i:TypeInfo}{zv:Value}{l:List ag}{ps:List (Nat×Nat×gw)}(hop:o.op = .build t parts)
  (ht:P.underlying t=some (.struct fs)) (hi:P.info? t=some i) (hzv:i.zero=some zv) (hl:tn zv.cells.toList=some l) (hps:Ay P fs parts.toList=some ps) (hfs:fs.all (fun f=>(P.info? f.type).isSome)=true)
  (h:ei C bq M (.build l ps)=some x):∃v w',rl P o a w v w'/\iH j M w x v w':=by
 simp only[ei] at h;obtain⟨cs,hcs,h⟩:=bu h;cases h;obtain⟨h1,h2⟩:=qo (j:=j) (M:=M) (w:=w) hl
 have hfs':∀f,f∈fs.toList->(P.info? f.type).isSome=true:=fun f hf=>by
  have:=Array.all_eq_true'.1 hfs f (by simpa using hf)
  simpa using this
 obtain⟨cells',e1,e2⟩:=HQ (P:=P) he hfs' hps hcs (cells:=zv.cells) ⟨by simpa using h1,fun i c v hc hv=>h2 i c v hc (by simpa using hv)⟩
 have hmap:(fs.mapM fun f=>do pure (f.offset,<-sizeOf f.type):Sem _).run P w = .ok (fs.map fun f=>(f.offset,P.cellsOf f.type)) w:=by
  rw[lj]
  have hm:=TI (P:=P) (w:=w) (g:=fun f:Field=>(do pure (f.offset,<-sizeOf f.type):Sem _)) (f:=fun f:Field=>(f.offset,P.cellsOf f.type)) fs.toList fun f hf=>by
   obtain⟨inf,hinf⟩:=gU.1 (hfs' f hf);simp[sizeOf,pM hinf,Program.cellsOf,hinf]
  rw[Sem.run_map,hm,<-Array.toList_map];simp only[Result.andThen_ok,Array.toArray_toList]
 refine⟨.agg cells',w,.inl ?_,.still hr (.agg e2.1 e2.2)⟩;have e1':Instr.fill (fun i=>(fs.map fun f=>(f.offset,P.cellsOf f.type))[i]?) zv.cells (parts.map fun p=>(p.1,a.eval p.2)).toList=some cells':=by simpa using e1
 simp only[execOp,hop,Instr.build,zeroValue,Sem.run_bind,pM hi,Result.andThen_ok,hzv,Sem.run_pure,dP ht,hmap];simp only[e1',Sem.run_pure,Result.andThen_ok]
def BP{y:ag}{v:Value}(h:gn j M w y v)(hp:y.gj.plain=true):y.gj.cells.length=v.cells.size /\
  ∀(k:Nat)(c:ag)(u:Value),y.gj.cells[k]?=some c->v.cells[k]?=some u->fK w (ow j M w) c u:=by
 by_cases hag:∃cs,y = .agg cs
 ·obtain⟨cs,rfl⟩:=hag;obtain⟨vs,rfl,h1,h2⟩:=h.mM;simp only[ag.gj,ag.plain,ag.cells,Value.cells] at hp ⊢;refine⟨by simpa using h1,fun k c u hc hu=>?_⟩
  rw[bb,aW] at hc;obtain⟨c0,hc0,rfl⟩:=hc;refine z7 (h2 k c0 u hc0 hu) ?_;have:=bF.1 hp c0.shut (cm.2 ⟨c0,aU hc0,rfl⟩);exact this
 ·have hs:y.gj=y.shut:=by cases y<;>first|rfl|exact absurd ⟨_,rfl⟩ hag
  have hpl:y.shut.plainCell=true:=by
   rw[hs] at hp;cases y<;>first|exact hp|exact absurd ⟨_,rfl⟩ hag
  have hr:=z7 h hpl;have hc1:y.shut.cells=[y.shut]:=by cases y<;>first|rfl|exact absurd ⟨_,rfl⟩ hag
  have hv1:v.cells = #[v]:=by
   cases y<;>simp only[ag.shut,ag.plainCell,af] at hpl
   case bool=>have:=h.js; subst this; rfl
   case int=>have:=h.fS; subst this; rfl
   case str=>have:=h.kg; subst this; rfl
   case slice=>obtain⟨A,cap,b,off,sz,vs,e,_⟩:=h.eb.eb; subst e; rfl
   case raw=>cases h with|plain h=>cases h; cases v<;>simp_all [Value.cells]
  rw[hs,hc1,hv1];refine⟨rfl,fun k c u hc hu=>?_⟩
  cases k with
  |zero=>simp at hc hu; subst hc; subst hu; exact hr
  |succ k=>simp at hc
def Qt{sz:Nat}:∀(l:List Value)(k:Nat)(cells:Array Value),(∀v,v∈l->v.cells.size=sz)->(k+l.length)*sz<=cells.size ->
  ∃cells',Instr.fill (fun i=>some (i*sz,sz)) cells ((l.zipIdx k).map fun x=>(x.2,x.1))=some cells'/\cells'.size=cells.size/\(∀p,p<k*sz->cells'[p]?=cells[p]?) /\
   ∀i v q,l[i]?=some v->q<sz->cells'[(k+i)*sz+q]?=v.cells[q]?:=by
 intro l;induction l with
 |nil=>intro k cells _ _; exact⟨cells,rfl,rfl,fun _ _=>rfl,fun i v q h=>by simp at h⟩
 |cons v r ih =>
  intro k cells hv hle;have hv0:=hv v dk;have hk1:(k+1)*sz=k*sz+sz:=mF k sz
  have hle':k*sz+sz<=cells.size:=by
   have:(k+1)*sz<=(k+(r.length+1))*sz:=bd _ aM;simp only[aD] at hle;omega
  obtain⟨p1,p2⟩:=BO cells (k*sz) v.cells;obtain⟨cells',e1,e2,e3,e4⟩:=ih (k+1) (putRow cells (k*sz) v.cells) (fun u hu=>hv u (by simp[hu])) (by rw[p1]; simp only[aD] at hle; rw[show k+1+r.length=k+(r.length+1) by omega]; exact hle)
  refine⟨cells',?_,by rw[e2,p1],fun p hp=>?_,fun i u q hi hq=>?_⟩
  ·rw[List.zipIdx_cons,a8];simp only[Instr.fill];rw[aj ic];exact e1
  ·rw[e3 p aM,p2,aj aM]
  ·cases i with
   |zero =>
    simp at hi; subst hi;rw[dq,e3 _ aM,p2,av aM];congr 1;omega
   |succ i =>
    have:=e4 i u q (by simpa using hi) hq
    rw[show k+1+i=k+(i+1) by omega] at this
    exact this
def Es:∀ {l:List (Nat×Operand)} {k:Nat} {zs:List gw},Gk k l=some zs->∃ys:List Operand,l=(ys.zipIdx k).map (fun x=>(x.2,x.1))/\vg ys=some zs
 | [],k,zs,h=>by simp[Gk] at h; subst h; exact⟨[],rfl,rfl⟩
 |(i,y)::r,k,zs,h=>by
  simp only[Gk] at h;split at h
  ·rename_i hi;obtain⟨z,hz,h⟩:=bc h;obtain⟨l,hl,h⟩:=bc h;cases h;obtain⟨ys,e1,e2⟩:=Es hl;exact⟨y::ys,by rw[List.zipIdx_cons,a8,hi,e1],by simp[vg,hz,e2]⟩
  ·cases h
def Fa:∀ {zs:List gw} {sz:Nat} {l:List ag},tc bq sz zs=some l->l.length=zs.length /\
  ∀(i:Nat)(y:ag)(z:gw),l[i]?=some y->zs[i]?=some z->y=(z.ev bq).gj/\y.plain=true/\y.cells.length=sz
 | [],sz,l,h=>by simp[tc] at h; subst h; exact⟨rfl,fun i y z h=>by simp at h⟩
 |z::r,sz,l,h=>by
  simp only[tc] at h;split at h
  ·rename_i hc;obtain⟨l',hl,h⟩:=bu h;cases h;obtain⟨h1,h2⟩:=Fa hl;refine⟨by simp[h1],fun i y z' hy hz=>?_⟩
   cases i with
   |zero=>simp at hy hz; subst hy; subst hz; exact⟨rfl,hc.1,hc.2⟩
   |succ i=>exact h2 i y z' (by simpa using hy) (by simpa using hz)
  ·cases h
def o7(o:Obj):Quiet w { w with heap:=w.heap.push o }/\(∀b,b<w.heap.size->({ w with heap:=w.heap.push o }:World).heap[b]?=w.heap[b]?)/\({ w with heap:=w.heap.push o }:World).heap[w.heap.size]?=some o :=
 ⟨⟨dk,rfl,rfl,rfl⟩,fun b hb=>by
  show(w.heap.push _)[b]?=_
  rw[fR,aj aM],dk⟩
def AW(he:cE j M w bq a){t e:TypeId}{len:Nat}{parts:Array (Nat×Operand)}{i:TypeInfo}{zs:List gw}{l:List ag}(hop:o.op = .buildSlice t len parts)(ht:P.underlying t=some (.slice e))
  (hi:P.info? e=some i) (hzs:Gk 0 parts.toList=some zs) (fx:zs.length=len) (hroom:len*i.size<=2 ^ 24) (hzero:(i.zero.map fun z=>z.cells.size)=some i.size)
  (hl:tc bq i.size zs=some l):l.length=len/\wid l i.size/\∃cells':Array Value,cells'.size=len*i.size /\
   (execOp a.eval o).run P w = .ok (.value (.slice (some ⟨w.heap.size,0,none⟩) len len)) { w with heap:=w.heap.push (.cells cells' e (0,0)) } /\
   ∀(n:Nat)(y:ag)(k:Nat)(c:ag),l[n]?=some y->y.cells[k]?=some c->∃u,cells'[n*i.size+k]?=some u/\fK w (ow j M w) c u:=by
 obtain⟨ys,hys,hyz⟩:=Es hzs;obtain⟨l1,l2⟩:=Fa hl;obtain⟨y1,y2⟩:=uv he hyz
 obtain⟨zv,hzv,hzs'⟩:∃zv,i.zero=some zv/\zv.cells.size=i.size:=by
  cases hz:i.zero with
  |none=>rw[hz] at hzero; cases hzero
  |some zv=>rw[hz] at hzero; exact⟨zv,rfl,by simpa using hzero⟩
 have hvs:∀v,v∈ys.map a.eval->v.cells.size=i.size:=by
  intro v hv;obtain⟨y,hy,rfl⟩:=cm.1 hv;obtain⟨p,hp,rfl⟩:=jU hy;have hpz:p<zs.length:=aM;have hpl:p<l.length:=aM;have hrep:=y2 p _ _ (ai hpz) (ai hp);obtain⟨e1,e2,e3⟩:=l2 p _ _ (ai hpl) (ai hpz);have:=(BP hrep (by rw[<-e1]; exact e2)).1
  rw[<-e1] at this;omega
 let zero:Array Value:=if len*i.size=0 then #[] else zv.cells
 let cells0:Array Value:=(Array.range (len*i.size)).map (zero[· % zero.size]!)
 obtain⟨cells',f1,f2,f3,f4⟩:=Qt (sz:=i.size) (ys.map a.eval) 0 cells0 hvs (by simp[cells0,<-fx,y1])
 have hfill:Instr.fill (fun k=>some (k*i.size,i.size)) cells0 (parts.map fun p=>(p.1,a.eval p.2)).toList=some cells':=by
  have:(parts.map fun p=>(p.1,a.eval p.2)).toList=((ys.map a.eval).zipIdx 0).map fun x=>(x.2,x.1):=by
   rw[Array.toList_map,hys,fY,List.zipIdx_map,fY];rfl
  rw[this]; exact f1
 have hrun:(execOp a.eval o).run P w = .ok (.value (.slice (some ⟨w.heap.size,0,none⟩) len len)) { w with heap:=w.heap.push (.cells cells' e (0,0)) }:=by
  simp only[execOp,hop,Instr.buildSlice,Sem.run_bind,dP ht,Result.andThen_ok,jd (show qg P e=some i.size by simp[qg,hi]),aj (show ¬len*i.size>2 ^ 24 by omega),Sem.run_pure]
  simp only[cells0] at hfill
  by_cases hc:len*i.size=0
  ·have hz:zero = #[]:=av hc;rw[hz] at hfill;rw[av hc];simp only[Sem.run_bind,Sem.run_pure,Result.andThen_ok,hfill];simp[newRow]
  ·have hz:zero=zv.cells:=aj hc;rw[hz] at hfill;rw[aj hc];simp only[zeroValue,Sem.run_bind,pM hi,Result.andThen_ok,hzv,Sem.run_pure,hfill];simp[newRow]
 have hel:∀(n:Nat)(y:ag)(k:Nat)(c:ag),l[n]?=some y->y.cells[k]?=some c->∃u,cells'[n*i.size+k]?=some u/\fK w (ow j M w) c u:=by
  intro n y k c hn hk;have hnl:=aJ hn;have hz:=ai (show n<zs.length by omega)
  have hy:=ai (show n<ys.length by omega)
  obtain⟨e1,e2,e3⟩:=l2 n y _ hn hz;have hrep:=y2 n _ _ hz hy;obtain⟨s1,s2⟩:=BP hrep (by rw[<-e1]; exact e2)
  rw[<-e1] at s1 s2;have hkl:=aJ hk;have hu:=bf (show k<(a.eval ys[n]).cells.size by omega)
  have f:=f4 n (a.eval ys[n]) k (by simp[hy]) aM
  rw[aN] at f;exact⟨_,f.trans hu,s2 k c _ hk hu⟩
 refine⟨aM,fun y hy=>?_,cells',by first|(simp[f2,cells0])|(simp[f3,cells0]),hrun,hel⟩
 obtain⟨p,hp,rfl⟩:=jU hy;exact(l2 p _ _ (ai hp) (ai aM)).2.2
def MF(hr:Rel j M w)(he:cE j M w bq a){t e:TypeId}{len:Nat}{parts:Array (Nat×Operand)}{i:TypeInfo}{zs:List gw}(hop:o.op = .buildSlice t len parts)(ht:P.underlying t=some (.slice e))
  (hi:P.info? e=some i) (hzs:Gk 0 parts.toList=some zs) (fx:zs.length=len) (hroom:len*i.size<=2 ^ 24) (hzero:(i.zero.map fun z=>z.cells.size)=some i.size)
  (h:ei C bq M (.lits i.size zs)=some x):∃v w',rl P o a w v w'/\iH j M w x v w':=by
 simp only[ei] at h;obtain⟨l,hl,h⟩:=bu h;obtain⟨hll,hwd,cells',_,hrun,hel⟩:=AW (w:=w) he hop ht hi hzs fx hroom hzero hl;obtain⟨q,hb,iC⟩:=o7 (w:=w) (.cells cells' e (0,0));refine⟨_,_,.inl hrun,?_⟩;have ext:Ext j M w j M { w with heap:=w.heap.push (.cells cells' e (0,0)) }:=Ext.grow q.size rfl rfl rfl hb
 have rel:Rel j M { w with heap:=w.heap.push (.cells cells' e (0,0)) }:=hr.grow q.size rfl rfl rfl hb
 have key:fK { w with heap:=w.heap.push (.cells cells' e (0,0)) } (ow j M { w with heap:=w.heap.push (.cells cells' e (0,0)) }) (.slice .sh l) (.slice (some ⟨w.heap.size,0,none⟩) len len):=by
  refine .slice l _ _ _ w.heap.size 0 i.size (fun p=>(cells'[p]?).getD undef) hll.symm (ak _) (fun _=>rfl) hwd (fun n y k c hn hk=>?_) (fun n y k c hn hk=>?_)
  ·obtain⟨u,hu,_⟩:=hel n y k c hn hk;refine⟨?_,dk,fun id hid hj=>?_,fun hx=>absurd (hr.Ah _ _ hx) (ja _)⟩
   ·simp only[World.cell?,iC,aN,hu];rfl
   ·have:=hr.lt id _ hid hj;omega
  ·obtain⟨u,hu,hru⟩:=hel n y k c hn hk;rw[hu];exact hru.mono ext.im
 injection h with h
 subst h;cases l with
 |nil =>
  have:len=0:=by simpa using hll.symm
  subst this;exact⟨j,rel,ext,.c0 _⟩
 |cons y r=>exact⟨j,rel,ext,.plain key⟩
def T7(hr:Rel j M w)(he:cE j M w bq a){t e:TypeId}{len:Nat}{parts:Array (Nat×Operand)}{i:TypeInfo}{zs:List gw}(hop:o.op = .buildSlice t len parts)(ht:P.underlying t=some (.slice e))
  (hi:P.info? e=some i) (hzs:Gk 0 parts.toList=some zs) (fx:zs.length=len) (hroom:len*i.size<=2 ^ 24) (hzero:(i.zero.map fun z=>z.cells.size)=some i.size)
  (h:ei C bq M (.E9 i.size zs)=some x):∃v w',rl P o a w v w'/\iH j M w x v w':=by
 simp only[ei] at h;obtain⟨l,hl,h⟩:=bu h;cases h;obtain⟨hll,hwd,cells',hcs,hrun,hel⟩:=AW (w:=w) he hop ht hi hzs fx hroom hzero hl;obtain⟨q,hb,iC⟩:=o7 (w:=w) (.cells cells' e (0,0));have hob:∀b,some w.heap.size=some b->w.heap.size<=b/\b<({ w with heap:=w.heap.push (.cells cells' e (0,0)) }:World).heap.size:=fun b h=>by cases h; simp
 have ext:Ext j M w (gD j M.length (some w.heap.size)) (M++[.tick i.size l.length]) { w with heap:=w.heap.push (.cells cells' e (0,0)) }:=Ext.push (fun b hb=>(hob b hb).1) q hb
 refine⟨_,_,.inl hrun,gD j M.length (some w.heap.size),hr.push hob q hb (fun h=>by cases h) (fun sz n b _ hb=>by cases hb; exact⟨cells',e,iC⟩),ext,?_⟩
 refine .own (sz:=i.size) (n:=l.length) dk (ak _) ?_ fun _ => .inr ⟨w.heap.size,len,cells',e,by simp[gD],by rw[hll],iC,aM,aM⟩
 refine .slice l _ _ _ w.heap.size 0 i.size (fun p=>(cells'[p]?).getD undef) hll.symm (ak _) (fun _=>rfl) hwd (fun n y k c hn hk=>?_) (fun n y k c hn hk=>?_)
 ·obtain⟨u,hu,_⟩:=hel n y k c hn hk;have hk':k<i.size:=by rw[<-hwd y (aU hn)]; exact aJ hk
  refine⟨?_,dk,fun id hid hj=>?_,fun hx=>absurd (hr.Ah _ _ (by rw[<-ext.X]; exact hx)) (ja _)⟩
  ·simp only[World.cell?,iC,aN,hu];rfl
  ·have hid':id=M.length:=by
    rcases bK id M.length with h|h
    ·rw[show gD j M.length (some w.heap.size) id=j id by simp[gD,gA h]] at hj
     exact absurd (hr.lt id _ h hj) (ja _)
    ·simp at hid; omega
   subst hid';refine⟨i.size,l.length,dk,?_⟩;have:=bd i.size (show n+1<=l.length from aJ hn)
   rw[cg] at this;omega
 ·obtain⟨u,hu,hru⟩:=hel n y k c hn hk;rw[hu];exact hru.mono ext.im
end
def gn.CK{j:J}{M:aO}{w:World}{xs:List ag}{v:Value}(h:gn j M w (.slice .c0 xs) v):∃A,v = .slice A 0 0:=by
 cases h with
 |plain h=>cases h
 |c0 A=>simp
theorem gn.XC{j:J}{M:aO}{w:World}{k:Nat}{xs:List ag}{v:Value}(h:gn j M w (.slice (.own k) xs) v) :
  ∃sz n,M[k]?=some (.tick sz n)/\xs.length<=n/\fK w (ow j M w) (.slice .sh xs) v/\(xs.length=n->Hk j w k sz n v):=by
 cases h with
 |plain h=>cases h
 |own hk hn h ht=>grind
theorem EO(n:Nat):∀(r c:Nat),c<=2*n+1000->Builtin.growBy n r c<=2*n+1000
 |0,c,h=>h
 |r+1,c,h=>by
  unfold Builtin.growBy;split
  ·omega
  ·exact EO n r _ aM
theorem Dv{n c:Nat}(h:c<n):Builtin.nextslicecap n c<=2*n+1000:=by
 grind [Builtin.nextslicecap,EO]
def fK.one{w:World}{im:Nat->Nat->Prop}{c:ag}{v:Value}(h:fK w im c v):v.oneCell'=true:=by
 cases h<;>first|rfl|omega
section
variable {P:Program} {C:eO} {o:Oper} {bq:Env} {M:aO} {j:J} {w:World} {a:Act} {x:ag×aO}
theorem EE{im:Nat->Nat->Prop}{xs:List ag}{v:Value}{size:Nat}(hx:fK w im (.slice .sh xs) v)(hw:wid xs size)(hpos:0<size) :
  ∃u:Nat->Value,(∀w':World,w'.heap=w.heap->(Builtin.firstCells size xs.length v).run P w' = .ok (((List.range (xs.length*size)).map u).toArray) w') /\
   (∀(i:Nat)(y:ag)(k:Nat)(c:ag),xs[i]?=some y->y.cells[k]?=some c->fK w im c (u (i*size+k))) /\
   ∀b,(∃n cap,v = .slice (some ⟨b,0,none⟩) n cap)->∀p,p<xs.length*size->w.cell? ⟨b,p,none⟩=some (u p):=by
 obtain⟨A,cap,b,off,sz,vs,hv,hc,ha,hz,hs,hr⟩:=hx.eb
 by_cases hne:xs=[]
 ·subst hne;rw[hv];cases A<;>simp_all [Builtin.firstCells,loadCells,loadCellsFrom]
 ·have hsz:sz=size:=by
   obtain⟨y,r,rfl⟩:=fz hne;rw[<-hz y dk,hw y dk]
  subst hsz;have hA:=ha hne;subst hA
  have hcell:∀p,p<xs.length*sz->w.cell? ⟨b,off+p,none⟩=some (vs p):=by
   intro p hp;have hd:p / sz<xs.length:=(kJ hpos).2 hp;have hm:p % sz<sz:=lM _ hpos;have hy:=ai hd;have hcl:=hw _ (jf hd);have:=(hs (p / sz) _ (p % sz) _ hy (ai aM)).1;rw[Nat.div_add_mod'] at this;omega
  refine⟨vs,fun w' hw'=>?_,hr,fun b' hb' p hp=>?_⟩
  ·rw[hv]
   have hc':∀p,p<xs.length*sz->w'.cell? ⟨b,off+p,none⟩=some (vs p):=fun p hp=>by
    grind [World.cell?]
   exact o3 (P:=P) b off (xs.length*sz) vs hc'
  grind
theorem fK.join{w':World}{saf':Nat->Nat->Prop}{xs ys:List ag}{size:Nat}(hwx:wid xs size)(hwy:wid ys size)(hpos:0<size){ux uy:Nat->Value}
  (hx:∀(i:Nat)(y:ag)(k:Nat)(c:ag),xs[i]?=some y->y.cells[k]?=some c->fK w' saf' c (ux (i*size+k)))
  (hy:∀(i:Nat)(y:ag)(k:Nat)(c:ag),ys[i]?=some y->y.cells[k]?=some c->fK w' saf' c (uy (i*size+k)))
  {b:Nat} {arr:Array Value} {t:TypeId} (harr:w'.heap[b]?=some (.cells arr t (0,0))) (h1:∀p,p<xs.length*size->arr[p]?=some (ux p)) (h2:∀p,p<ys.length*size->arr[xs.length*size+p]?=some (uy p))
  (hs:∀p,p<(xs.length+ys.length)*size->saf' b p) {cap:Nat} (hc:xs.length+ys.length<=cap):fK w' saf' (.slice .sh (xs++ys)) (.slice (some ⟨b,0,none⟩) (xs.length+ys.length) cap):=by
 have cA:∀(i k n:Nat),i<n->k<size->i*size+k<n*size:=by
  intro i k n hi hk;have:(i+1)*size<=n*size:=bd _ hi;rw[mF] at this;omega
 have cas:∀(i:Nat)(y:ag),(xs++ys)[i]?=some y->(i<xs.length/\xs[i]?=some y)\/(∃i',i=xs.length+i'/\ys[i']?=some y):=by
  grind
 refine .slice _ _ _ _ b 0 size (fun p=>if p<xs.length*size then ux p else uy (p-xs.length*size)) dk hc (fun _=>rfl) (fun y hy'=>?_) (fun i y k c hi hk=>?_) (fun i y k c hi hk=>?_)
 ·rcases bC.1 hy' with h|h
  ·exact hwx y h
  ·exact hwy y h
 ·have hkl:=aJ hk;rw[aN];rcases cas i y hi with ⟨hil,hxi⟩|⟨i',rfl,hyi⟩
  ·have hk':k<size:=by rw[<-hwx y (aU hxi)]; omega
   have hp:=cA i k _ hil hk';refine⟨?_,hs _ (cA i k _ aM hk')⟩;rw[av hp,<-h1 _ hp];simp[World.cell?,harr]
  ·have hk':k<size:=by rw[<-hwy y (aU hyi)]; exact hkl
   have hil:=aJ hyi;have hp:=cA i' k _ hil hk';refine⟨?_,hs _ (cA _ k _ aM hk')⟩;have he:(xs.length+i')*size+k=xs.length*size+(i'*size+k):=by rw[cg]; omega
   rw[he,aj dk,iM,<-h2 _ hp];simp[World.cell?,harr]
 ·have hkl:=aJ hk;rcases cas i y hi with ⟨hil,hxi⟩|⟨i',rfl,hyi⟩
  ·have hk':k<size:=by rw[<-hwx y (aU hxi)]; exact hkl
   rw[av (cA i k _ hil hk')];exact hx i y k c hxi hk
  ·have he:(xs.length+i')*size+k=xs.length*size+(i'*size+k):=by rw[cg]; omega
   rw[he,aj dk,iM]
   grind
theorem qS{t t' e:TypeId}{d':TypeDesc}{v':Value}{i:TypeInfo}{zv:Value}(hs:P.underlying t=some (.slice e))(hs':P.underlying t'=some d')(hd':∀k,d' ≠ .int k)(hi:P.info? e=some i)(hz:i.zero=some zv)(hb0:0<i.bytes)(hb1:i.bytes<=2 ^ 20)
  (ty:TypeId) {bZ:Option Addr} {n cap m:Nat} {uL new:Array Value} (fx:∀w':World,(Builtin.lenOf v').run P w' = .ok m w')
  (hold:∀w':World,w'.heap=w.heap->(Builtin.firstCells i.size n (.slice bZ n cap)).run P w' = .ok uL w') (iC:∀w':World,w'.heap=w.heap->(Builtin.firstCells i.size m v').run P w' = .ok new w')
  (hroom:(n+m)*i.bytes<=2 ^ 44) :
  (n+m<=cap->∀w',(match bZ with|some ad=>(storeCells (ad.add (n*i.size)) new.toList).run P w = .ok () w'|none=>w'=w)->(Builtin.append_ #[t,t'] ty #[.slice bZ n cap,v']).run P w = .ok (.slice bZ (n+m) cap) w') /\
  (cap<n+m->∃newCap rest,n+m<=newCap/\rest.size=(newCap-(n+m))*zv.cells.size /\
   (Builtin.append_ #[t,t'] ty #[.slice bZ n cap,v']).run P w = .ok (.slice (some ⟨w.heap.size,0,none⟩) (n+m) newCap) { w with heap:=w.heap.push (.cells (uL++new++rest) e (0,0)),drawn:=w.drawn+1 }):=by
 have hsz:(sizeOf e).run P w = .ok i.size w:=jd (by grind [qg])
 refine⟨fun hle w' hst=>?_,fun cA=>?_⟩
 ·have h1:=iC w rfl;unfold Builtin.append_;simp only[List.getElem?_toArray,eu,dX,Sem.run_bind,dP hs,dP hs',Result.andThen_ok,hsz,Sem.run_pure];simp only[af,aC,fx,Result.andThen_ok,dG,aE,av hle,h1,Sem.run_bind];cases bZ with
  |none=>simp_all
  |some ad=>simp_all
 ·have hcapb:¬Builtin.nextslicecap (n+m) cap*i.bytes>2 ^ 48:=by
   have h1:=Dv cA;have h2:Builtin.nextslicecap (n+m) cap*i.bytes<=(2*(n+m)+1000)*i.bytes:=bd _ h1
   grind
  let q:Question := .appendCap (n+m) cap e
  refine⟨q.cut (w.tape w.drawn q),Builtin.zeroCells zv.cells (q.cut (w.tape w.drawn q)-(n+m)),by grind [Question.cut],by simp[Builtin.zeroCells],?_⟩
  have h1:=hold w.drew rfl;have h2:=iC w.drew rfl;have hne:i.bytes≠0:=aM;have hqf:q.forced=false:=rfl;unfold Builtin.append_;simp only[List.getElem?_toArray,eu,dX,Sem.run_bind,dP hs,dP hs',Result.andThen_ok,hsz,Sem.run_pure];simp only[af,aC,fx,Result.andThen_ok,dG,aE,aj (Nat.not_le.2 cA),Sem.run_bind];simp[pM hi,hne,hcapb,h1,h2,zeroValue,hz,newRow,q,Question.forced];rfl
theorem Hv(hr:Rel j M w){c:Call}{y y':Operand}{t t' e:TypeId}{d':TypeDesc}{i:TypeInfo}{zv:Value}(hop:o.op = .call c)(hb:c.callee = .builtin .append)(ha:c.args.toList=[y,y'])
  (hat:c.argTypes = #[t,t']) (hs:P.underlying t=some (.slice e)) (hs':P.underlying t'=some d') (hd':∀k,d' ≠ .int k) (hi:P.info? e=some i) (hz:i.zero=some zv) (hzs:zv.cells.size=i.size) (hpos:0<i.size) (hb0:0<i.bytes) (hb1:i.bytes<=2 ^ 20)
  {tk:Tk} {xs ys:List ag} (r1:gn j M w (.slice tk xs) (a.eval y)) (fx:∀w':World,(Builtin.lenOf (a.eval y')).run P w' = .ok ys.length w') {uy:Nat->Value}
  (fy1:∀w':World,w'.heap=w.heap->(Builtin.firstCells i.size ys.length (a.eval y')).run P w' = .ok (((List.range (ys.length*i.size)).map uy).toArray) w')
  (fy2:∀(q:Nat)(y:ag)(k:Nat)(c:ag),ys[q]?=some y->y.cells[k]?=some c->fK w (ow j M w) c (uy (q*i.size+k)))
  (h:cH (dY (xs.length+ys.length) i.bytes/\wid xs i.size/\wid ys i.size) (
    match tk with
    | .c0=>match xs with|[]=>some (.slice (.own M.length) ys,M++[.tick i.size ys.length])|_=>none
    | .own k=>match nth M k with
     |some (.tick sz' n)=>cH (sz'=i.size/\n=xs.length) (some (.slice (.own k) (xs++ys),jY M k (.tick i.size (xs.length+ys.length))))
     |_=>none
    | .sh=>none)=some x):∃v w' j',rl P o a w v w'/\Rel j' x.2 w'/\Ext j M w j' x.2 w'/\gn j' x.2 w' x.1 v/\(ys=[]->v=a.eval y/\∀k,tk = .own k->j'=j)/\∀k b',tk = .own k->j' k=some b'->j k=some b'\/∃vs,w'.heap[b']?=some (.cells vs e (0,0)):=by
 obtain⟨⟨hroom,hwx,hwy⟩,h9⟩:=dw h;clear h;have h:=h9;clear h9;have p1:=r1.eb;obtain⟨ux,fx1,fx2,fx3⟩:=EE (P:=P) p1 hwx hpos;obtain⟨bZ,cap,_,_,_,_,hv,hcap,_⟩:=p1.eb;have ha':c.args = #[y,y']:=by rw[<-ha]
 have hexec:∀r,(Builtin.append_ #[t,t'] o.type #[a.eval y,a.eval y']).run P w=r->(execOp a.eval o).run P w=r.andThen fun v w' => .ok (.value v) w':=by
  intro r hr';simp[execOp,hop,resolve,hb,invoke,builtin,ha',hat,hr']
 rw[hv] at fx1;obtain⟨A1,A2⟩:=qS (P:=P) (w:=w) hs hs' hd' hi hz hb0 hb1 o.type (bZ:=bZ) (n:=xs.length) (cap:=cap) (m:=ys.length) fx fx1 fy1 hroom;rw[<-hv] at A1 A2
 -- nothing is appended
 have nil:ys=[]->∃v,(execOp a.eval o).run P w = .ok (.value v) w/\v=a.eval y:=by
  intro hy;subst hy;refine⟨_,?_,rfl⟩
  have:=A1 (by simp; exact hcap) w (by
   cases bZ with
   |none=>rfl
   |some ad=>simp[storeCells])
  rw[hexec _ this];simp[hv]
 -- a new block
 have fresh:cap<xs.length+ys.length->∃newCap arr w',xs.length+ys.length<=newCap/\(execOp a.eval o).run P w = .ok (.value (.slice (some ⟨w.heap.size,0,none⟩) (xs.length+ys.length) newCap)) w' /\
   Quiet w w'/\(∀b,b<w.heap.size->w'.heap[b]?=w.heap[b]?)/\w'.heap[w.heap.size]?=some (.cells arr e (0,0))/\newCap*i.size<=arr.size /\
   (∀p,p<xs.length*i.size->arr[p]?=some (ux p))/\∀p,p<ys.length*i.size->arr[xs.length*i.size+p]?=some (uy p):=by
  intro cA;obtain⟨newCap,rest,h1,h2,h3⟩:=A2 cA;obtain⟨q,hbk,iC⟩:=o7 (w:=w) (.cells (((List.range (xs.length*i.size)).map ux).toArray++((List.range (ys.length*i.size)).map uy).toArray++rest) e (0,0));refine⟨newCap,_,{ w with heap:=w.heap.push (.cells (((List.range (xs.length*i.size)).map ux).toArray++((List.range (ys.length*i.size)).map uy).toArray++rest) e (0,0)),drawn:=w.drawn+1 },h1,(hexec _ h3).trans rfl,⟨q.size,rfl,rfl,rfl⟩,hbk,iC,?_,fun p hp=>?_,fun p hp=>?_⟩
  ·simp only[fU,dI,az,jB,h2,hzs];rw[<-cg,<-cg];exact bd _ aM
  ·rw[Array.append_assoc,cy (by simpa using hp)]
   simp[hp]
  ·rw[Array.append_assoc,Array.getElem?_append_right dk,cy ic];simp[hp]
 split at h
 ·-- c0
  split at h
  ·cases h;simp only[aF,aN] at *
   have hc0:cap=0:=by
    obtain⟨A',hA'⟩:=r1.CK;rw[hv] at hA';injection hA'
   by_cases hy:ys=[]
   ·subst hy;obtain⟨v,h1,h2⟩:=nil rfl;have q:Quiet w w:=⟨ak _,rfl,rfl,rfl⟩;refine⟨v,w,gD j M.length none,.inl h1,hr.push (ob:=none) (fun b h=>by cases h) q (fun _ _=>rfl) (fun h=>by cases h) (fun sz n b h h'=>by cases h'),Ext.push (fun b h=>by cases h) q (fun _ _=>rfl),?_,fun _=>⟨h2,fun _ h=>by cases h⟩,fun _ _ h=>by cases h⟩
    rw[h2,hv,hc0];exact .own (sz:=i.size) (n:=0) dk dk (fK.nil _ _ _) fun _ => .inl ⟨by simp[gD],rfl,bZ,rfl⟩
   ·have hyl:0<ys.length:=iY.2 hy;obtain⟨newCap,arr,w',g1,g2,g3,g4,g5,g6,g7,g8⟩:=fresh aM
    have hob:∀b,some w.heap.size=some b->w.heap.size<=b/\b<w'.heap.size:=fun b hb=>by
     cases hb; exact⟨ak _,lt_of_block g5⟩
    have ext:Ext j M w (gD j M.length (some w.heap.size)) (M++[.tick i.size ys.length]) w':=Ext.push (fun b hb=>(hob b hb).1) g3 g4
    refine⟨_,w',gD j M.length (some w.heap.size),.inl g2,hr.push hob g3 g4 (fun h=>by cases h) (fun sz n b _ hb=>kW),ext,?_,fun h=>absurd h hy,fun _ _ h=>by cases h⟩
    have hsaf:∀p,p<(0+ys.length)*i.size->ow (gD j M.length (some w.heap.size)) (M++[.tick i.size ys.length]) w' w.heap.size p:=by
     intro p hp;refine⟨lt_of_block g5,fun id hid hj=>?_,fun hx=>absurd (hr.Ah _ _ hx) (ja _)⟩
     by_cases hid':id=M.length
     ·subst hid'; exact⟨i.size,ys.length,dk,by simpa using hp⟩
     ·have:=hr.lt id w.heap.size (by simp at hid; omega) (by simpa[gD,hid'] using hj)
      omega
    have hj:=fK.join (xs:=[]) (ys:=ys) (w':=w') hwx hwy hpos (ux:=ux) (uy:=uy) (fun i y k c h=>by simp at h) (fun i y k c h1 h2=>(fy2 i y k c h1 h2).mono ext.im) g5 (fun p hp=>by simp at hp) (fun p hp=>by simpa using g8 p hp) hsaf (cap:=newCap) (by simpa using g1)
    simp only[bw,aF,aN] at hj;exact .own (sz:=i.size) (n:=ys.length) dk (ak _) hj fun _ => .inr ⟨w.heap.size,newCap,arr,e,by simp[gD],rfl,g5,g6,g1⟩
  ·cases h
 ·-- own
  rename_i k;rw[eY] at h;split at h
  ·rename_i sz' n' hMk;obtain⟨⟨e1,e2⟩,hx⟩:=dw h;subst e1;subst e2;injection hx with hx
   subst hx;rw[fJ];obtain⟨sz0,n0,hk,hn,hrp,ht⟩:=r1.XC
   ·rw[hMk] at hk;injection hk with hk; injection hk with e1 e2
    subst e1; subst e2
    by_cases hy:ys=[]
    ·subst hy;obtain⟨v,h1,h2⟩:=nil rfl
     have hset:M.set k (.tick i.size (xs.length+([]:List ag).length))=M:=by
      apply dA
      grind
     rw[h2] at h1;rw[hset,cu];exact⟨a.eval y,w,j,.inl h1,hr,Ext.refl j M w,r1,fun _=>⟨rfl,fun _ _=>rfl⟩,fun _ _ _ h => .inl h⟩
    ·have hyl:0<ys.length:=iY.2 hy
     have moved:cap<xs.length+ys.length->∃v w' j',rl P o a w v w'/\Rel j' (M.set k (.tick i.size (xs.length+ys.length))) w'/\Ext j M w j' (M.set k (.tick i.size (xs.length+ys.length))) w'/\gn j' (M.set k (.tick i.size (xs.length+ys.length))) w' (.slice (.own k) (xs++ys)) v/\(ys=[]->v=a.eval y/\∀k',Tk.own k = .own k'->j'=j)/\∀k' b',Tk.own k = .own k'->j' k'=some b'->j k'=some b'\/∃vs,w'.heap[b']?=some (.cells vs e (0,0)):=by
      intro cA;obtain⟨newCap,arr,w',g1,g2,g3,g4,g5,g6,g7,g8⟩:=fresh cA;have ext:Ext j M w (gD j k (some w.heap.size)) (M.set k (.tick i.size (xs.length+ys.length))) w':=Ext.Co hMk g3 g4 (ak _) aM;refine⟨_,w',gD j k (some w.heap.size),.inl g2,Rel.Co hMk hr g3 g4 (ak _) g5 aM,ext,?_,fun h=>absurd h hy,fun k' b' hk' hb' => .inr ⟨arr,(by grind [gD])⟩⟩
      have hsaf:∀p,p<(xs.length+ys.length)*i.size->ow (gD j k (some w.heap.size)) (M.set k (.tick i.size (xs.length+ys.length))) w' w.heap.size p:=by
       intro p hp;refine⟨lt_of_block g5,fun id hid hj=>?_,fun hx=>absurd (hr.Ah _ _ hx) (ja _)⟩
       by_cases hid':id=k
       ·subst hid'; exact⟨i.size,_,dZ (aJ hMk),hp⟩
       ·have:=hr.lt id w.heap.size (by simpa using hid) (by simpa[gD,hid'] using hj)
        omega
      have hj:=fK.join (w':=w') hwx hwy hpos (ux:=ux) (uy:=uy) (fun i y k c h1 h2=>(fx2 i y k c h1 h2).mono ext.im) (fun i y k c h1 h2=>(fy2 i y k c h1 h2).mono ext.im) g5 g7 g8 hsaf (cap:=newCap) g1
      exact .own (sz:=i.size) (n:=xs.length+ys.length) (dZ (aJ hMk)) dk hj fun _ => .inr ⟨w.heap.size,newCap,arr,e,by simp[gD],rfl,g5,g6,g1⟩
     rcases ht rfl with ⟨_,hn0,A',hA'⟩|⟨b,cap0,vs,t0,hj,hv0,hw0,hsz0,hcap0⟩
     ·rw[hv] at hA';injection hA' with _ _ e3
      exact moved aM
     ·have hvv:=hv.symm.trans hv0;injection hvv with e1 e2 e3
      subst e1; subst e3
      by_cases hfit:xs.length+ys.length<=cap
      ·have iC:(((List.range (ys.length*i.size)).map uy).toArray).toList.length=ys.length*i.size:=dk
       have hle:xs.length*i.size+ys.length*i.size<=vs.size:=by
        rw[<-cg];exact bg (bd _ hfit) hsz0
       have hone:∀v,v∈(((List.range (ys.length*i.size)).map uy).toArray).toList->v.oneCell'=true:=by
        intro v hv;simp only[cm,gH] at hv;obtain⟨p,hp,rfl⟩:=hv;have hd:p / i.size<ys.length:=(kJ hpos).2 hp;have hm:p % i.size<i.size:=lM _ hpos;have hcl:=hwy _ (jf hd);have:=fy2 (p / i.size) _ (p % i.size) _ (ai hd) (ai aM);rw[Nat.div_add_mod'] at this;exact this.one
       have hst:=nq (P:=P) (((List.range (ys.length*i.size)).map uy).toArray).toList w (xs.length*i.size) 0 vs hw0 (by rw[iC]; omega) hone
       rw[dq] at hst;obtain⟨s1,s2,s3,s4,s5,vs',s6,s7,s8,s9⟩:=lU (((List.range (ys.length*i.size)).map uy).toArray).toList w (xs.length*i.size) vs hw0 (by rw[iC]; omega)
       have hrun:=A1 hfit _ (by
        show(storeCells ((⟨b,0,none⟩:Addr).add (xs.length*i.size)) _).run P w=_
        rw[lz,aN];exact hst)
       have q:Quiet w (pf w b (xs.length*i.size) (((List.range (ys.length*i.size)).map uy).toArray).toList):=⟨aM,s2,s3,s4⟩;have hkeep:∀p,p<xs.length*i.size->vs'[p]?=vs[p]?:=fun p hp=>s8 p (.inl hp)
       have ext:Ext j M w j (M.set k (.tick i.size (xs.length+ys.length))) (pf w b (xs.length*i.size) (((List.range (ys.length*i.size)).map uy).toArray).toList) :=
        Ext.G4 hMk hj hr q (fun b' hb' _=>s5 b' hb') hw0 s6 s7 hkeep aM
       refine⟨_,_,j,.inl ((hexec _ hrun).trans rfl),Rel.G4 hMk hj hr q (fun b' hb' _=>s5 b' hb') hw0 s6 s7 hkeep aM,ext,?_,fun h=>absurd h hy,fun _ _ _ h => .inl h⟩
       have hsaf:∀p,p<(xs.length+ys.length)*i.size->ow j (M.set k (.tick i.size (xs.length+ys.length))) (pf w b (xs.length*i.size) (((List.range (ys.length*i.size)).map uy).toArray).toList) b p:=by
        intro p hp;refine⟨lt_of_block s6,fun id hid hj'=>?_,hr.u9 k b (aJ hMk) hj p⟩
        have:id=k:=hr.inj id k b (by simpa using hid) (aJ hMk) hj' hj
        subst this;exact⟨i.size,_,dZ (aJ hMk),hp⟩
       have hjn:=fK.join hwx hwy hpos (ux:=ux) (uy:=uy) (fun i y k c h1 h2=>(fx2 i y k c h1 h2).mono ext.im) (fun i y k c h1 h2=>(fy2 i y k c h1 h2).mono ext.im) s6 (fun p hp=>by
        rw[hkeep p hp];have:=fx3 b ⟨_,_,hv⟩ p hp;simpa[World.cell?,hw0] using this) (fun p hp=>by
        rw[s9 p (by rw[iC]; exact hp)]
        simp[hp]) hsaf (cap:=cap) hfit
       exact .own (sz:=i.size) (n:=xs.length+ys.length) (dZ (aJ hMk)) dk hjn fun _ => .inr ⟨b,cap,vs',t0,hj,rfl,s6,aM,hfit⟩
      ·exact moved aM
  ·cases h
 ·cases h
theorem K1(hr:Rel j M w)(he:cE j M w bq a){c:Call}{y y':Operand}{z z':gw}{t t' e e':TypeId}{i:TypeInfo}{zv:Value}(hop:o.op = .call c)(hb:c.callee = .builtin .append)(ha:c.args.toList=[y,y'])
  (hat:c.argTypes = #[t,t']) (hs:P.underlying t=some (.slice e)) (hs':P.underlying t'=some (.slice e')) (hi:P.info? e=some i) (hz:i.zero=some zv) (hzs:zv.cells.size=i.size) (hpos:0<i.size) (hb0:0<i.bytes) (hb1:i.bytes<=2 ^ 20)
  (hzy:ew y=some z) (hzy':ew y'=some z') (h:ei C bq M (.append i.size i.bytes z z')=some x) (hna:∀id ver sz lo hi,z.ev bq ≠ .cY id ver sz lo hi):∃v w',rl P o a w v w'/\iH j M w x v w':=by
 simp[ei] at h;have r1:=cU he hzy;have r2:=cU he hzy';split at h
 ·rename_i tk xs tk' ys ez ez';obtain⟨⟨_,hwx,hwy⟩,_⟩:=dw h;rw[ez] at r1;rw[ez'] at r2;have p2:=r2.eb;obtain⟨uy,fy1,fy2,_⟩:=EE p2 hwy hpos;obtain⟨A,cap',_,_,_,_,hv',_⟩:=p2.eb;obtain⟨v,w',j',q1,q2,q3,q4,_⟩:=Hv hr hop hb ha hat hs hs' (fun k h=>by cases h) hi hz hzs hpos hb0 hb1 r1 (fun w'=>by rw[hv']; rfl) fy1 fy2 h
  exact⟨v,w',q1,j',q2,q3,q4⟩
 ·grind
 grind
end
section
variable {P:Program} {C:eO} {o:Oper} {bq:Env} {M:aO} {j:J} {w:World} {a:Act} {x:ag×aO}
def Kn {f:Field} {k:FK} (h:Qw P f=some k):f.name ≠ "_" /\ B1 P f.type=some false/\(match k with | .b=>P.underlying f.type=some .bool | .i=>∃q,P.underlying f.type=some (.int q) | .s=>P.underlying f.type=some .string):=by
 unfold Qw at h;split at h
 ·cases h
 ·rename_i hn;refine⟨hn,?_⟩
  split at h<;>first
   |(cases h; rename_i hu; exact⟨by simp[B1,hu],by first|exact hu|exact⟨_,hu⟩⟩)
   |cases h
def Ki{d:Nat}{f:Field}{k:FK}(hf:Qw P f=some k){y z:ag}{u v:Value}(hu:gn j M w y u)(hv:gn j M w z v){e:Bool}(h:iq k y z=some e) :
  (Op.equalIn (d+1) f.type u v).run P w = .ok e w:=by
 have hk:=(Kn hf).2.2;unfold iq at h;split at h
 ·rename_i k1 a k2 b;obtain⟨q,hq⟩:=hk;split at h
  ·rename_i he;subst he;cases h;rw[hu.fS,hv.fS];exact run_equalIn_int w d f.type _ _ a b hq
  ·cases h
 ·rename_i a b;cases h;rw[hu.kg,hv.kg,run_equalIn_string w d f.type _ _ hk,vf,vf]
 ·rename_i a b;cases h;rw[hu.js,hv.js];exact run_equalIn_bool' w d f.type a b hk
 ·cases h
def zG{d:Nat}{cs ds:List ag}{us vs:Array Value}(hc:RC j M w cs us)(hd:RC j M w ds vs):∀ {l:List Field} {k:Nat} {ks:List FK} {e:Bool},BC P k l=some ks->lK ks (cs.drop k) (ds.drop k)=some e ->
  (Op.eqFields (d+1) us vs l).run P w = .ok e w
 | [],k,ks,e,h1,h2=>by
  simp[BC] at h1; subst h1;unfold lK at h2;split at h2<;>simp_all [Op.eqFields]
 |f::r,k,ks,e,h1,h2=>by
  simp only[BC] at h1;split at h1
  ·rename_i hoff;obtain⟨q,hq,h1⟩:=bc h1;obtain⟨qs,hqs,h1⟩:=bc h1;cases h1
   have hk1:k<cs.length:=by
    rcases bK k cs.length with h|h
    ·exact h
    ·rw[jc h] at h2; simp[lK] at h2
   have hk2:k<ds.length:=by
    rcases bK k ds.length with h|h
    ·exact h
    ·rw[jc h] at h2;rw[cN hk1] at h2;simp[lK] at h2
   rw[cN hk1,cN hk2] at h2;simp only[lK] at h2;obtain⟨e1,he1,h2⟩:=bu h2;obtain⟨e2,he2,h2⟩:=bu h2;cases h2;have hlu:k<us.size:=by have:=hc.1; omega
   have hlv:k<vs.size:=by have:=hd.1; omega
   have hu:=bf hlu;have hv:=bf hlv;have ih:=zG (d:=d) hc hd hqs he2;obtain⟨hn,hag,_⟩:=Kn hq;have p1:(part f.type us f.offset).run P w = .ok us[k] w:=by simp[part,lf hag,hoff,hu]
   have p2:(part f.type vs f.offset).run P w = .ok vs[k] w:=by simp[part,lf hag,hoff,hv]
   have p3:=Ki (d:=d) hq (hc.2 k _ _ (ai hk1) hu) (hd.2 k _ _ (ai hk2) hv) he1;simp only[Op.eqFields,av hn,Sem.run_bind,p1,p2,p3,Result.andThen_ok];cases e1
   ·simp
   ·simpa using ih
  ·cases h1
def LX:∀ {l:List Field} {k:Nat} {ks:List FK},BC P k l=some ks->∀f,f∈l->∃q,Qw P f=some q
 | [],_,_,_,f,hf=>by simp at hf
 |g::r,k,ks,h,f,hf=>by
  simp only[BC] at h;split at h
  ·obtain⟨q,hq,h⟩:=bc h;obtain⟨qs,hqs,h⟩:=bc h;rcases ba.1 hf with rfl|hf
   ·exact⟨q,hq⟩
   ·exact LX hqs f hf
  ·cases h
def T1(hr:Rel j M w)(he:cE j M w bq a){neg:Bool}{y y':Operand}{z z':gw}{t t':TypeId}{fs:Array Field}{ks:List FK}(hop:o.op = .binOp (if neg then .neq else .eql) t y y' t')(ht:P.underlying t=some (.struct fs))
  (hst:P.stoodInHeld t=false) (hks:BC P 0 fs.toList=some ks) (hz:ew y=some z) (hz':ew y'=some z') (h:ei C bq M (.VP ks neg z z')=some x):∃v w',rl P o a w v w'/\iH j M w x v w':=by
 simp only[ei] at h;have h1:=cU he hz;have h2:=cU he hz';split at h
 ·rename_i cs ds ez ez';obtain⟨e,hee,h⟩:=bu h;cases h;rw[ez] at h1;rw[ez'] at h2;obtain⟨us,hus,hul,huc⟩:=h1.mM;obtain⟨vs,hvs,hvl,hvc⟩:=h2.mM;have hfs:P.fieldsOf t=fs:=by simp[Program.fieldsOf,ht]
  have heq:(Op.equal t (.agg us) (.agg vs)).run P w = .ok e w:=by
   unfold Op.equal;rw[show Op.maxDepth=9999+1 from rfl,run_equalIn_struct w 9999 t us vs (by rw[hfs]; exact ht) hst,hfs]
   exact zG (d:=9998) ⟨hul,huc⟩ ⟨hvl,hvc⟩ hks (by simpa using hee)
  have hgt:P.eqGuardType P.depth t=false:=by
   unfold Program.depth;rw[show 2*(P.types.size+Made.depth)+2=(2*(P.types.size+Made.depth)+1)+1 from rfl,Program.eqGuardType,ht]
   simp only;rw[Array.any_eq_false];intro i hi;obtain⟨q,hq⟩:=LX hks fs[i] dk;have:=(Kn hq).2.2;simp only[Program.eqGuardType];cases q<;>simp only at this
   ·obtain⟨_,hu⟩:=this; simp[hu]
   ·simp[this]
   ·simp[this]
  have hguard:∀op,(eqGuard op t y y' (.agg us) (.agg vs)).run P w = .ok () w:=by
   intro op;unfold eqGuard;cases op<;>simp[hgt]
  cases neg
  ·exact⟨.bool e,w,.inl (by simp[execOp,hop,hus,hvs,hguard,binOp,heq]),.still hr (.plain (.bool _))⟩
  ·exact⟨.bool (!e),w,.inl (by simp[execOp,hop,hus,hvs,hguard,binOp,heq]),.still hr (.plain (.bool _))⟩
 ·cases h
end
end
end
section
open Go Go.RowKit
variable [jw]
section
variable {j:J} {M:aO} {w w':World}
def Be(hr:Rel j M w):∀n,∃j',Rel j' (M++List.replicate n dg.vM) w/\Ext j M w j' (M++List.replicate n dg.vM) w
 |0=>⟨j,by simpa using hr,by simpa using Ext.refl j M w⟩
 |n+1=>by
  obtain⟨j',h1,h2⟩:=Be hr n;have q:Quiet w w:=⟨ak _,rfl,rfl,rfl⟩;refine⟨gD j' (M++List.replicate n dg.vM).length none,?_⟩;rw[nQ,<-dW];exact⟨h1.push (ob:=none) (bx := .vM) (fun b h=>by cases h) q (fun _ _=>rfl) (fun h=>by cases h) (fun sz n b h h'=>by cases h'),h2.trans (Ext.push (fun b h=>by cases h) q (fun _ _=>rfl))⟩
def Ext.fill{p b:Nat}{cs:List ag}(hM:M[p]?=some .vM)(hob:w.heap.size<=b)(q:Quiet w w')(hb:∀b,b<w.heap.size->w'.heap[b]?=w.heap[b]?) :
  Ext j M w (gD j p (some b)) (M.set p (.cells cs)) w' where
 len:=dk
 size:=q.size
 os:=q.os
 tape:=q.tape
 output:=q.output
 X:=rfl
 fix:=fun i bx h hf=>by
  have e:p≠i:=by rintro rfl; rw[hM] at h; cases h; cases hf
  exact⟨by simp[gD,dM e],bx,by rw[cT e]; exact h,rfl⟩
 tick:=fun i sz n h=>by
  have e:p≠i:=by rintro rfl; rw[hM] at h; cases h
  exact⟨n,ak _,by rw[cT e]; exact h,fun _=>⟨by simp[gD,dM e],fun b vs t _ hv=>⟨vs,(hb b (lt_of_block hv)).trans hv,rfl⟩⟩⟩
 arr:=fun i sz v xs h=>by
  have e:p≠i:=by rintro rfl; rw[hM] at h; cases h
  exact .inr ⟨v,xs,by rw[cT e]; exact h,ak _,fun _=>⟨by simp[gD,dM e],rfl,fun b vs t _ hv=>⟨vs,(hb b (lt_of_block hv)).trans hv,rfl⟩⟩⟩
 tags:=fun b0 vs0 t0 fr0 h=>⟨vs0,fr0,(hb b0 (lt_of_block h)).trans h,rfl⟩
 im:=fun b0 off h=>by
  refine⟨⟨bz h.1 q.size,fun id hid hj=>?_,h.3⟩,World.cell?_of_block (w:=w) (hb b0 h.1)⟩
  by_cases he:id=p
  ·have:b=b0:=by simpa[gD,he] using hj
   have:=h.1;omega
  ·rw[cT (dM he)];exact h.2 id (by simpa using hid) (by simpa[gD,he] using hj)
 uL:=fun b0 cA h=>by
  refine⟨hb b0 cA,fun i hi hj=>?_⟩
  by_cases he:i=p
  ·have:b=b0:=by simpa[gD,he] using hj
   omega
  ·exact h i (by simpa using hi) (by simpa[gD,he] using hj)
def Rel.fill(hr:Rel j M w){p b:Nat}{cs:List ag}(hM:M[p]?=some .vM)(hob:w.heap.size<=b)(hbl:b<w'.heap.size)(q:Quiet w w')(hb:∀b,b<w.heap.size->w'.heap[b]?=w.heap[b]?)
  (hbox:∀j' M',Ext j M w j' M' w'->Holds j' M' w' b (.cells cs)):Rel (gD j p (some b)) (M.set p (.cells cs)) w':=by
 have ext:Ext j M w (gD j p (some b)) (M.set p (.cells cs)) w':=Ext.fill hM hob q hb;have up:∀i,i≠p->gD j p (some b) i=j i:=fun i hi=>by simp[gD,hi]
 have hp:=aJ hM;refine⟨fun i i' b0 hi hi' h h'=>?_,fun i b0 hi h=>?_,fun i bx' h hf=>?_,fun i sz n b0 h hj=>?_,fun i sz ver xs h=>?_,fun i b0 hi h off hx=>?_,fun b off h=>bz (hr.Ah b off h) q.size⟩
 ·simp only[eD] at hi hi'
  by_cases e:i=p<;>by_cases e':i'=p
  ·omega
  ·have h1:b=b0:=by simpa[gD,e] using h
   rw[up i' e'] at h';have:=hr.lt i' b0 hi' h';omega
  ·have h1:b=b0:=by simpa[gD,e'] using h'
   rw[up i e] at h;have:=hr.lt i b0 hi h;omega
  ·rw[up i e] at h;rw[up i' e'] at h';exact hr.inj i i' b0 hi hi' h h'
 ·simp only[eD] at hi
  by_cases e:i=p
  ·have h1:b=b0:=by simpa[gD,e] using h
   omega
  ·rw[up i e] at h;exact bz (hr.lt i b0 hi h) q.size
 ·by_cases e:i=p
  ·subst e;rw[dZ hp] at h;cases h;exact⟨b,by simp[gD],hbox _ _ ext⟩
  ·rw[cT (dM e)] at h;obtain⟨b0,h1,h2⟩:=hr.fix i bx' h hf;exact⟨b0,by rw[up i e]; exact h1,h2.mono ext (hb b0 (hr.lt i b0 (aJ h) h1))⟩
 ·by_cases e:i=p
  ·subst e; rw[dZ hp] at h; cases h
  ·rw[cT (dM e)] at h;rw[up i e] at hj;obtain⟨vs,t,h1⟩:=hr.tick i sz n b0 h hj;exact⟨vs,t,(hb b0 (lt_of_block h1)).trans h1⟩
 ·by_cases e:i=p
  ·subst e; rw[dZ hp] at h; cases h
  ·rw[cT (dM e)] at h;exact qp hr ext h (up i e) fun b0 h1=>hb b0 (hr.lt i b0 (aJ h) h1)
 ·simp only[eD] at hi
  by_cases e:i=p
  ·have h1:b=b0:=by simpa[gD,e] using h
   have h2:=hr.Ah b0 off hx;omega
  ·rw[up i e] at h;exact hr.u9 i b0 hi h off hx
def HP(hr:Rel j M w){p:Nat}(hM:M[p]?=some .vM){cs:List ag}{vs:Array Value}(hc:RC j M w cs vs)(t:TypeId) :
  iH j M w (.ptr p 0,M.set p (.cells cs)) (.pointer (some ⟨w.heap.size,0,none⟩)) { w with heap:=w.heap.push (.cells vs t (0,0)) }:=by
 have q:Quiet w { w with heap:=w.heap.push (.cells vs t (0,0)) }:=⟨dk,rfl,rfl,rfl⟩
 have hb:∀b,b<w.heap.size->({ w with heap:=w.heap.push (.cells vs t (0,0)) }:World).heap[b]?=w.heap[b]?:=fun b hb=>by
  show(w.heap.push _)[b]?=_
  rw[fR,aj aM]
 have hn:({ w with heap:=w.heap.push (.cells vs t (0,0)) }:World).heap[w.heap.size]?=some (.cells vs t (0,0)):=dk
 have hp:=aJ hM;exact⟨gD j p (some w.heap.size),hr.fill hM (ak _) dk q hb (fun j' M' hx=>⟨vs,t,hn,hc.1,fun i c v h1 h2=>(hc.2 i c v h1 h2).mono hx⟩),Ext.fill hM (ak _) q hb,.ptr (by simpa using hp) ⟨cs,dZ hp⟩ (by simp[gD])⟩
end
variable {P:Program} {own:List Nat} {o:Oper}
def Ng{l:List ag}{t:TypeId}(hop:o.op = .alloc t)(h:Nt P own o=some (.sv l)):∃i zv,P.info? t=some i/\i.zero=some zv/\tn zv.cells.toList=some l:=by
 simp only[Nt,hop] at h;obtain⟨i,hi,h⟩:=bc h;obtain⟨z,hz,h⟩:=bc h;obtain⟨l',hl,h⟩:=bc h;split at h
 ·split at h
  ·split at h
   ·obtain⟨n,hn,h⟩:=bc h;cases h
   ·cases h
  ·injection h with h; cases h; exact⟨i,z,hi,hz,hl⟩
 ·injection h with h; cases h; exact⟨i,z,hi,hz,hl⟩
def Nh{l:List ag}{t0:TypeId}(hop:o.op = .alloc t0)(h:Nt P own o=some (.sv l))(a:Act)(w:World):∃vs t,(∀j M w',RC j M w' l vs)/\rl P o a w (.pointer (some ⟨w.heap.size,0,none⟩)) { w with heap:=w.heap.push (.cells vs t (0,0)) }:=by
 obtain⟨i,zv,hi,hz,hl⟩:=Ng hop h;refine⟨zv.cells,t0,fun j M w'=>?_,.inl (by simp[execOp,hop,Instr.alloc,zeroValue,pM hi,hz,newVar,newRow])⟩
 obtain⟨h1,h2⟩:=qo (j:=j) (M:=M) (w:=w') hl;exact⟨by simpa using h1,fun i c v hc hv=>h2 i c v hc (by simpa using hv)⟩
end
section
open Go Go.RowKit
variable [jw]
theorem yW{x:Nat}:∀(l a:List Nat),x∈mB a l↔x∈a\/x∈l
 | [],a=>by simp[mB]
 |y::r,a=>by
  rw[mB,yW r]
  grind
theorem rG:∀(l a:List Nat),a.Nodup->(mB a l).Nodup
 | [],a,h=>h
 |y::r,a,h=>by
  refine rG r _ ?_
  grind
def IW(M:aO)(l:List Nat):(reach M l).Nodup:=rG _ _ (rG _ _ (rG _ _ (rG _ _ kY)))
def Ox{M:aO}{l:List Nat}{x:Nat}(h:x∈l):x∈reach M l:=by
 simp_all [reach,mC,yW]
theorem Fj{M:aO}{x i:Nat}{b:dg}:∀ {l:List Nat},i∈l->M[i]?=some b->x∈b.ids->x∈tj M l
 | [],h,_,_=>kW
 |k::r,h,hb,hx=>by
  rw[tj,bC];rcases ba.1 h with rfl|h
  ·grind [eY]
  ·exact .inr (Fj h hb hx)
theorem NA{M:aO}{ids:List Nat}(h:mC M ids=ids){i x:Nat}{b:dg}(hi:i∈ids)(hb:M[i]?=some b)(hx:x∈b.ids):x∈ids:=by
 rw[<-h,mC,yW]
 grind [Fj]
theorem ue:∀ {ids:List Nat} {x:Nat},x∈ids->ids[jb ids x]?=some x
 | [],_,h=>kW
 |a::l,x,h=>by
  rw[jb];split
  ·grind
  ·rcases ba.1 h with rfl|h
   ·omega
   ·simpa using ue h
def uI{ids:List Nat}{x:Nat}(h:x∈ids):jb ids x<ids.length:=aJ (ue h)
theorem Ci:∀ {ids:List Nat} {i x:Nat},ids.Nodup->ids[i]?=some x->jb ids x=i
 | [],i,x,_,h=>kW
 |a::l,i,x,hn,h=>by
  rw[jb];have hn':=iK.1 hn;cases i with
  |zero=>grind
  |succ i =>
   have h':l[i]?=some x:=kW;rw[aj kW,Ci hn'.2 h']
def LC{ids:List Nat}{x:Nat}(h:x∈ids):yf ids (jb ids x)=x:=by rw[yf,eY,ue h]; rfl
def aat{ids:List Nat}{i x:Nat}(h:ids[i]?=some x):yf ids i=x:=by rw[yf,eY,h]; rfl
theorem DE{M:aO}{ρ:Nat->Nat}:∀ {l:List Nat} {B:aO},kV M ρ l=some B->B.length=l.length/\∀(i id:Nat),l[i]?=some id->∃b,M[id]?=some b/\b.flat=true/\B[i]?=some (b.rn ρ)
 | [],B,h=>by grind [kV]
 |k::r,B,h=>by
  simp[kV,eY] at h;split at h
  ·split at h
   ·obtain⟨l,hl,h⟩:=bu h;injection h with h; obtain⟨h1,h2⟩:=DE hl
    grind
   grind
  grind
theorem wA{ids:List Nat}:∀ {l:List Nat} {B M:aO},l.Nodup->l.length=B.length->(ny ids M l B).length=M.length/\(∀i,i∉l->(ny ids M l B)[i]?=M[i]?) /\
  ∀(i id:Nat)(b:dg),l[i]?=some id->id<M.length->B[i]?=some b->(ny ids M l B)[id]?=some (b.rn (yf ids))
 | [],B,M,_,_=>by simp[ny]
 |k::r,[],M,_,hl=>by simp at hl
 |k::r,b::B,M,hn,hl=>by
  rw[ny,fJ];have hn':=iK.1 hn;obtain⟨h1,h2,h3⟩:=wA (ids:=ids) (B:=B) (M:=M.set k (b.rn (yf ids))) hn'.2 kW
  grind
def MQ(ρ:Nat->Nat)(b:dg):(b.rn ρ).tag=b.tag:=by cases b<;>rfl
def x9{ρ:Nat->Nat}{b:dg}(h:b.loose=true):b.rn ρ=b:=by cases b<;>first|rfl|cases h
structure Sub(j:J)(M:aO)(w:World)(ids:List Nat)(B:aO):Prop where
 nodup:ids.Nodup
 len:B.length=ids.length
 box:∀(i id:Nat),ids[i]?=some id->∃b,M[id]?=some b/\b.flat=true/\B[i]?=some (b.rn (jb ids))
 closed:∀(i:Nat)(b:dg),i∈ids->M[i]?=some b->∀x,x∈b.ids->x∈ids
def down(j:J)(M:aO)(ids:List Nat):J:=⟨fun i=>match ids[i]? with|some id=>j id|none=>none,fun b off=>j.X b off\/∃id,id<M.length/\id∉ids/\j id=some b/\¬ ∃sz n,M[id]?=some (.tick sz n)/\off<n*sz⟩
section
variable {j:J} {M B:aO} {w:World} {ids:List Nat}
theorem Sub.at_(s:Sub j M w ids B){id:Nat}(h:id∈ids){b:dg}(hb:M[id]?=some b):B[jb ids id]?=some (b.rn (jb ids)):=by
 obtain⟨b',h1,_,h2⟩:=s.box _ _ (ue h)
 grind
theorem Sub.inv(s:Sub j M w ids B){i:Nat}{c:dg}(h:B[i]?=some c):∃id b,ids[i]?=some id/\M[id]?=some b/\b.flat=true/\c=b.rn (jb ids):=by
 have hi:i<ids.length:=by rw[<-s.len]; grind
 obtain⟨b,h1,h2,h3⟩:=s.box i _ (ai hi)
 grind
theorem mT{id:Nat}(h:id∈ids):(down j M ids) (jb ids id)=j id:=by grind [down,ue]
theorem rz{i b:Nat}(h:(down j M ids) i=some b):∃id,ids[i]?=some id/\j id=some b:=by
 grind [down]
def Sub.im(s:Sub j M w ids B){b off:Nat}(h:ow j M w b off):ow (down j M ids) B w b off:=by
 refine⟨h.lt,fun i hi hj=>?_,fun hx=>?_⟩
 ·obtain⟨id,h1,h2⟩:=rz hj;obtain⟨bx,h3,_,h4⟩:=s.box i _ h1;obtain⟨sz,n,h5,h6⟩:=h.ids _ (aJ h3) h2;rw[h3] at h5; cases h5;exact⟨sz,n,h4,h6⟩
 ·rcases hx with hx|⟨id,h1,_,h2,h3⟩
  ·exact h.nx hx
  ·exact h3 (h.ids _ h1 h2)
theorem Sub.Uv(s:Sub j M w ids B){x:ag}{v:Value}(h:gn j M w x v)(hf:x.HT=true)(hi:∀i,i∈x.iz->i∈ids):gn (down j M ids) B w (x.uZ (jb ids)) v:=by
 cases h with
 |plain h =>
  have:x.uZ (jb ids)=x:=by cases h<;>rfl
  rw[this];exact .plain (h.mono fun b off hs=>⟨s.im hs,rfl⟩)
 |c0 A=>exact .c0 A
 | @own k xs v sz n hk hn hp ht =>
  have hki:k∈ids:=hi k (by simp[ag.iz])
  refine .own (sz:=sz) (n:=n) (s.at_ hki hk) hn (hp.mono fun b off hs=>⟨s.im hs,rfl⟩) fun he=>?_
  rcases ht he with ⟨g1,g2,g3⟩|⟨b,cap,vs,t,g1,g2,g3,g4,g5⟩
  ·exact .inl ⟨by rw[mT hki]; omega,g2,g3⟩
  ·exact .inr ⟨b,cap,vs,t,by rw[mT hki]; exact g1,g2,g3,g4,g5⟩
 |agg=>cases hf
 |tuple=>cases hf
 | @ptr id off b hid hc hj =>
  have hki:id∈ids:=hi id (by simp[ag.iz])
  obtain⟨cs,hc⟩:=hc;exact .ptr (by rw[s.len]; exact uI hki) ⟨_,s.at_ hki hc⟩ (by rw[mT hki]; omega)
 |ju h=>exact .ju fun k c hk=>⟨(h k c hk).1,s.im (h k c hk).2.1,(h k c hk).2.2.mono fun b off hs=>⟨s.im hs,rfl⟩⟩
 |func=>cases hf
 | @gJ id b hc hj =>
  have hki:id∈ids:=hi id (by simp[ag.iz])
  obtain⟨ks,vs,hc⟩:=hc;exact .gJ ⟨_,_,s.at_ hki hc⟩ (by rw[mT hki]; exact hj)
 | @jI id b hc hj =>
  have hki:id∈ids:=hi id (by simp[ag.iz])
  obtain⟨ks,vs,hc⟩:=hc;exact .jI ⟨_,_,s.at_ hki hc⟩ (by rw[mT hki]; omega)
 | @jX t id off b hc hj =>
  have hki:id∈ids:=hi id (by simp[ag.iz])
  obtain⟨cs,hc⟩:=hc;exact .jX ⟨_,s.at_ hki hc⟩ (by rw[mT hki]; exact hj)
 |rP hl hd=>exact .rP hl fun i c v h1 h2=>(hd i c v h1 h2).mono fun b off hs=>⟨s.im hs,rfl⟩
 | @iB ks vs b es cl hb hfr hx hw hk hv hks hvs =>
  refine .iB hb (fun i _ he=>?_) (fun off hx'=>?_) hw hk hv (fun i k e h1 h2=>(hks i k e h1 h2).mono fun b off hs=>⟨s.im hs,rfl⟩) (fun i k e h1 h2=>(hvs i k e h1 h2).mono fun b off hs=>⟨s.im hs,rfl⟩)
  ·obtain⟨id,h1,h2⟩:=rz he;obtain⟨bx,h3,_⟩:=s.box _ _ h1
   grind
  ·rcases hx' with hx'|⟨id,h1,_,h2,_⟩
   ·exact hx off hx'
   grind
 | @cY id ver sz0 lo hi v h0 hid hM hv =>
  have hki:id∈ids:=hi id (by simp[ag.iz])
  have hb:=ai hid;have hat:=s.at_ hki hb;rw[x9 (hM _ hb)] at hat;refine .cY h0 (by rw[s.len]; exact uI hki) (fun bx hbx=>?_) fun sz v' xs h=>?_
  ·rw[hat] at hbx; exact hM bx (hb.trans hbx)
  ·rw[hat] at h;obtain⟨k1,k2⟩:=hv sz v' xs (hb.trans h)
   exact⟨k1,fun he=>by
    obtain⟨l0,l1,l2,⟨l3,l4,l5⟩|⟨b,cap,vs,t,l3,r⟩⟩:=k2 he
    ·exact⟨l0,l1,l2,.inl ⟨l3,by rw[mT hki]; omega,l5⟩⟩
    exact⟨l0,l1,l2,.inr ⟨b,cap,vs,t,by rw[mT hki]; omega,r⟩⟩⟩
 | @iI id ver i off v h0 hid hM hv =>
  have hki:id∈ids:=hi id (by simp[ag.iz])
  have hb:=ai hid;have hat:=s.at_ hki hb;rw[x9 (hM _ hb)] at hat;refine .iI h0 (by rw[s.len]; exact uI hki) (fun bx hbx=>?_) fun sz v' xs h=>?_
  ·rw[hat] at hbx; exact hM bx (hb.trans hbx)
  grind [mT]
 |any v=>exact .any v
theorem Sub.Lb(s:Sub j M w ids B){x:ag}{v:Value}(h:gn j M w x v)(hf:x.xc=true)(hi:∀i,i∈x.oZ->i∈ids):gn (down j M ids) B w (x.uC (jb ids)) v:=by
 by_cases hfn:∃f caps,x = .func f caps
 ·obtain⟨f,caps,rfl⟩:=hfn;obtain⟨vs,rfl,hl,hc⟩:=h.rB;refine .func kW fun i c u hci hu=>?_
  rw[bb,aW] at hci;obtain⟨c0,hc0,rfl⟩:=hci;have hm:=aU hc0;exact s.Uv (hc i _ u hc0 hu) (bF.1 hf _ hm) fun q hq=>hi q (gv.2 ⟨c0,hm,hq⟩)
 ·have e1:x.uC (jb ids)=x.uZ (jb ids):=by cases x<;>first|rfl|grind
  have e2:x.oZ=x.iz:=by cases x<;>first|rfl|grind
  have e3:x.HT=true:=by cases x<;>first|rfl|exact absurd ⟨_,_,rfl⟩ hfn|cases hf
  rw[e1];exact s.Uv h e3 (by rw[<-e2]; omega)
theorem Sub.rep(s:Sub j M w ids B){x:ag}{v:Value}(h:gn j M w x v)(hf:x.flat=true)(hi:∀i,i∈x.ids->i∈ids):gn (down j M ids) B w (x.rn (jb ids)) v:=by
 by_cases hag:∃cs,x = .agg cs
 ·obtain⟨cs,rfl⟩:=hag;obtain⟨vs,rfl,hl,hc⟩:=h.mM;refine .agg kW fun i c u hci hu=>?_
  rw[bb,aW] at hci;obtain⟨c0,hc0,rfl⟩:=hci;have hm:=aU hc0;exact s.Lb (hc i _ u hc0 hu) (bF.1 hf _ hm) fun q hq=>hi q (gv.2 ⟨c0,hm,hq⟩)
 ·have e1:x.rn (jb ids)=x.uC (jb ids):=by cases x<;>first|rfl|grind
  have e2:x.ids=x.oZ:=by cases x<;>first|rfl|grind
  have e3:x.xc=true:=by cases x<;>first|exact hf|grind
  rw[e1];exact s.Lb h e3 (by rw[<-e2]; omega)
theorem Sub.rel(s:Sub j M w ids B)(hr:Rel j M w):Rel (down j M ids) B w:=by
 have Pu:∀ {i id:Nat},ids[i]?=some id->id<M.length:=fun h=>by
  obtain⟨b,h1,_⟩:=s.box _ _ h
  grind
 refine⟨fun i i' b hi hi' h h'=>?_,fun i b hi h=>?_,fun i cb h hf=>?_,fun i sz n b h hj=>?_,fun i sz ver xs h=>?_,fun i b hi h off hx=>?_,fun b off h=>?_⟩
 ·obtain⟨id,h1,h2⟩:=rz h;obtain⟨id',h1',h2'⟩:=rz h';have:=hr.inj id id' b (Pu h1) (Pu h1') h2 h2';subst this;rw[<-Ci s.nodup h1,Ci s.nodup h1']
 ·obtain⟨id,h1,h2⟩:=rz h;exact hr.lt id b (Pu h1) h2
 ·obtain⟨id,bx,h1,h2,h3,h4⟩:=s.inv h;subst h4;have hfx:bx.fixed=true:=by cases bx<;>first|rfl|cases hf
  obtain⟨b,g1,g2⟩:=hr.fix id bx h2 hfx;refine⟨b,by grind [down],?_⟩
  have hcl:∀p,p∈bx.ids->p∈ids:=s.closed id _ (aU h1) h2;cases bx with
  |tick sz n=>cases hf
  |cells cs0 =>
   obtain⟨vs,t,k1,k2,k3⟩:=g2;refine⟨vs,t,k1,by simpa using k2,fun q c v hc hv=>?_⟩
   rw[bb,aW] at hc;obtain⟨c0,hc0,rfl⟩:=hc;have hm:=aU hc0;exact s.Lb (k3 q c0 v hc0 hv) (bF.1 h3 c0 hm) fun p hp=>hcl p (gv.2 ⟨c0,hm,hp⟩)
  |map ks vs =>
   obtain⟨es,cl,k1,k2,k3,k4,k5⟩:=g2;refine⟨es,cl,k1,k2,by simpa using k3,fun q c e hc he=>(k4 q c e hc he).mono fun b off hs=>⟨s.im hs,rfl⟩,fun q c e hc he=>?_⟩
   rw[bb,aW] at hc;obtain⟨c0,hc0,rfl⟩:=hc;have hm:=aU hc0;exact s.rep (k5 q c0 e hc0 he) (bF.1 h3 c0 hm) fun p hp=>hcl p (gv.2 ⟨c0,hm,hp⟩)
  |nW st pos=>exact g2
  |vM=>cases hf
  |arr=>cases hf
 ·obtain⟨id,bx,h1,h2,h3,h4⟩:=s.inv h;obtain⟨id',h1',h2'⟩:=rz hj;rw[h1] at h1'; cases h1';cases bx<;>first|cases h4|skip
  exact hr.tick id _ _ b h2 h2'
 ·obtain⟨id,bx,h1,h2,h3,h4⟩:=s.inv h;cases bx<;>first|cases h4|skip
  obtain⟨g0,g1⟩|⟨b,vs,t,g1,g2,g3,g4,g5⟩:=hr.arr id _ _ _ h2
  ·grind [down]
  exact .inr ⟨b,vs,t,by grind [down],g2,g3,g4,fun q x k c hx hk=>(g5 q x k c hx hk).imp fun u hu=>⟨hu.1,hu.2.mono fun b off hs=>⟨s.im hs,rfl⟩⟩⟩
 ·obtain⟨id,h1,h2⟩:=rz h;rcases hx with hx|⟨id',g1,g2,g3,_⟩
  ·exact hr.u9 id b (Pu h1) h2 off hx
  ·have:=hr.inj id id' b (Pu h1) g1 h2 g3
   grind
 ·rcases h with h|⟨id,g1,_,g3,_⟩
  ·exact hr.Ah b off h
  ·exact hr.lt id b g1 g3
variable {j2:J} {B':aO} {w':World}
open Classical in
noncomputable def Pa(j j2:J)(ids:List Nat):J:=⟨fun id=>if id∈ids then j2 (jb ids id) else j id,j.X⟩
theorem ly{id:Nat}(h:id∈ids):(Pa j j2 ids) id=j2 (jb ids id):=by grind [Pa]
theorem oT{id:Nat}(h:id∉ids):(Pa j j2 ids) id=j id:=by grind [Pa]
structure wS(j:J)(M B:aO)(w:World)(ids:List Nat)(j2:J)(B':aO)(w':World):Prop where
 sub:Sub j M w ids B
 hr:Rel j M w
 ext:Ext (down j M ids) B w j2 B' w'
 rel:Rel j2 B' w'
 len:B'.length=B.length
 flat:∀b,b∈B'->b.flat=true
variable (bk:wS j M B w ids j2 B' w')
include bk
theorem wS.Pu{i id:Nat}(h:ids[i]?=some id):id<M.length:=by
 obtain⟨b,h1,_⟩:=bk.sub.box _ _ h
 grind
def wS.Ky{id:Nat}(h:id∈ids){b:dg}(hb:B'[jb ids id]?=some b):(ny ids M ids B')[id]?=some (b.rn (yf ids)) :=
 (wA bk.sub.nodup (by rw[bk.len,bk.sub.len])).2.2 _ _ b (ue h) (bk.Pu (ue h)) hb
def wS.K4{id:Nat}(h:id∉ids):(ny ids M ids B')[id]?=M[id]?:=(wA bk.sub.nodup (by rw[bk.len,bk.sub.len])).2.1 _ h
def wS.se:(ny ids M ids B').length=M.length:=(wA bk.sub.nodup (by rw[bk.len,bk.sub.len])).1
def wS.some_{id:Nat}(h:id∈ids):∃b,B'[jb ids id]?=some b/\b.flat=true:=by
 have hi:jb ids id<B'.length:=by rw[bk.len,bk.sub.len]; exact uI h
 exact⟨_,ai hi,bk.flat _ (jf _)⟩
theorem wS.uL{id b:Nat}(hid:id<M.length)(h:id∉ids)(hj:j id=some b):w'.heap[b]?=w.heap[b]?/\∀i,i<B'.length->j2 i≠some b:=by
 refine bk.ext.uL b (bk.hr.lt _ b hid hj) fun i hi he=>?_
 obtain⟨id',h1,h2⟩:=rz he;have:=bk.hr.inj _ _ b hid (bk.Pu h1) hj h2
 grind
def wS.im{b off:Nat}(h:ow j2 B' w' b off):ow (Pa j j2 ids) (ny ids M ids B') w' b off:=by
 have hX:=bk.ext.X;have hnx:=h.nx;rw[hX] at hnx;refine⟨h.lt,fun id hid hj=>?_,fun hx=>hnx (.inl hx)⟩
 rw[bk.se] at hid
 by_cases hi:id∈ids
 ·rw[ly hi] at hj;obtain⟨sz,n,h1,h2⟩:=h.ids _ (by rw[bk.len,bk.sub.len]; exact uI hi) hj
  exact⟨sz,n,bk.Ky hi h1,h2⟩
 ·rw[oT hi] at hj;rw[bk.K4 hi];exact Classical.byContradiction fun hc=>hnx (.inr ⟨id,hid,hi,hj,hc⟩)
def wS.VY:Ext j M w (Pa j j2 ids) (ny ids M ids B') w' where
 len:=by rw[bk.se]; exact ak _
 size:=bk.ext.size
 os:=bk.ext.os
 tape:=bk.ext.tape
 output:=bk.ext.output
 X:=rfl
 fix:=fun id bx h hf=>by
  by_cases hi:id∈ids
  ·obtain⟨g1,bx',g2,g3⟩:=bk.ext.fix _ _ (bk.sub.at_ hi h) (by cases bx<;>first|rfl|cases hf)
   rw[ly hi,g1,mT hi];refine⟨rfl,_,bk.Ky hi g2,?_⟩;rw[MQ,g3,MQ]
  ·rw[oT hi,bk.K4 hi]; exact⟨rfl,bx,h,rfl⟩
 tick:=fun id sz n h=>by
  by_cases hi:id∈ids
  ·obtain⟨n',g1,g2,g3⟩:=bk.ext.tick _ _ _ (bk.sub.at_ hi h);refine⟨n',g1,bk.Ky hi g2,fun he=>?_⟩
   obtain⟨k1,k2⟩:=g3 he;rw[ly hi,k1,mT hi];exact⟨rfl,fun b vs t hb hv=>k2 b vs t (by rw[mT hi]; exact hb) hv⟩
  ·rw[oT hi,bk.K4 hi];exact⟨n,ak _,h,fun _=>⟨rfl,fun b vs t hb hv=>⟨vs,(bk.uL (aJ h) hi hb).1.trans hv,rfl⟩⟩⟩
 arr:=fun id sz v xs h=>by
  by_cases hi:id∈ids
  ·rcases bk.ext.arr _ _ _ _ (bk.sub.at_ hi h) with ⟨n',g⟩|⟨v',xs',g2,g3,g4⟩
   ·exact .inl ⟨n',bk.Ky hi g⟩
   ·refine .inr ⟨v',xs',bk.Ky hi g2,g3,fun he=>?_⟩
    obtain⟨k1,k2,k3⟩:=g4 he;rw[ly hi,k1,mT hi];exact⟨rfl,k2,fun b vs t hb hv=>k3 b _ t (by rw[mT hi]; exact hb) hv⟩
  ·rw[oT hi,bk.K4 hi];exact .inr ⟨v,xs,h,ak _,fun _=>⟨rfl,rfl,fun b vs t hb hv=>⟨vs,(bk.uL (aJ h) hi hb).1.trans hv,rfl⟩⟩⟩
 tags:=bk.ext.tags
 im:=fun b off h=>by
  obtain⟨h1,h2⟩:=bk.ext.im b _ (bk.sub.im h);exact⟨bk.im h1,h2⟩
 uL:=fun b hb h=>by
  have h1:∀i,i<B.length->(down j M _) i≠some b:=fun i _ he=>by
   obtain⟨id,g1,g2⟩:=rz he;exact h id (bk.Pu g1) g2
  obtain⟨h2,h3⟩:=bk.ext.uL b hb h1;refine⟨h2,fun id hid he=>?_⟩
  rw[bk.se] at hid
  by_cases hi:id∈ids
  ·rw[ly hi] at he;exact h3 _ (by rw[bk.len,bk.sub.len]; exact uI hi) he
  ·rw[oT hi] at he;exact h id hid he
def wS.CD{i:Nat}(h:i<B'.length):∃id,ids[i]?=some id/\id∈ids/\yf ids i=id/\jb ids id=i:=by
 have hi:i<ids.length:=by rw[<-bk.sub.len,<-bk.len]; omega
 have hg:=ai hi;exact⟨_,hg,aU hg,aat hg,Ci bk.sub.nodup hg⟩
theorem wS.Uv{x:ag}{v:Value}(h:gn j2 B' w' x v)(hf:x.HT=true):gn (Pa j j2 ids) (ny ids M ids B') w' (x.uZ (yf ids)) v:=by
 cases h with
 |plain h =>
  have:x.uZ (yf ids)=x:=by cases h<;>rfl
  rw[this];exact .plain (h.mono fun b off hs=>⟨bk.im hs,rfl⟩)
 |c0 A=>exact .c0 A
 | @own k xs v sz n hk hn hp ht =>
  obtain⟨id,g1,g2,g3,g4⟩:=bk.CD (aJ hk);simp only[ag.uZ,g3];refine .own (sz:=sz) (n:=n) (bk.Ky g2 (b := .tick sz n) (by rw[g4]; exact hk)) hn (hp.mono fun b off hs=>⟨bk.im hs,rfl⟩) fun he=>?_
  rcases ht he with ⟨e1,e2,e3⟩|⟨b,cap,vs,t,e1,e2,e3,e4,e5⟩
  ·exact .inl ⟨by rw[ly g2,g4]; omega,e2,e3⟩
  ·exact .inr ⟨b,cap,vs,t,by rw[ly g2,g4]; grind,e2,e3,e4,e5⟩
 | @jX t k off b hc hj =>
  obtain⟨cs,hc⟩:=hc;obtain⟨id,g1,g2,g3,g4⟩:=bk.CD (aJ hc);simp only[ag.uZ,g3];exact .jX ⟨_,bk.Ky g2 (b := .cells cs) (by rw[g4]; omega)⟩ (by rw[ly g2,g4]; omega)
 |agg=>cases hf
 |tuple=>cases hf
 | @ptr k off b hid hc hj =>
  obtain⟨id,g1,g2,g3,g4⟩:=bk.CD hid;obtain⟨cs,hc⟩:=hc;simp only[ag.uZ,g3];exact .ptr (by rw[bk.se]; exact bk.Pu g1) ⟨_,bk.Ky g2 (b := .cells cs) (by rw[g4]; exact hc)⟩ (by rw[ly g2,g4]; omega)
 |ju h=>exact .ju fun k c hk=>⟨(h k c hk).1,bk.im (h k c hk).2.1,(h k c hk).2.2.mono fun b off hs=>⟨bk.im hs,rfl⟩⟩
 |func=>cases hf
 | @gJ k b hc hj =>
  obtain⟨ks,vs,hc⟩:=hc;obtain⟨id,g1,g2,g3,g4⟩:=bk.CD (aJ hc);simp only[ag.uZ,g3];exact .gJ ⟨_,_,bk.Ky g2 (b := .map ks vs) (by rw[g4]; omega)⟩ (by rw[ly g2,g4]; omega)
 | @jI k b hc hj =>
  obtain⟨st,p,hc⟩:=hc;obtain⟨id,g1,g2,g3,g4⟩:=bk.CD (aJ hc);simp only[ag.uZ,g3];exact .jI ⟨_,_,bk.Ky g2 (b := .nW st p) (by rw[g4]; exact hc)⟩ (by rw[ly g2,g4]; exact hj)
 |rP hl hd=>exact .rP hl fun i c v h1 h2=>(hd i c v h1 h2).mono fun b off hs=>⟨bk.im hs,rfl⟩
 | @iB ks vs b es cl hb hfr hx hw hk hv hks hvs =>
  rw[bk.ext.X] at hx;refine .iB hb (fun id hid he=>?_) (fun off hx'=>hx off (.inl hx')) hw hk hv (fun i k e h1 h2=>(hks i k e h1 h2).mono fun b off hs=>⟨bk.im hs,rfl⟩) (fun i k e h1 h2=>(hvs i k e h1 h2).mono fun b off hs=>⟨bk.im hs,rfl⟩)
  rw[bk.se] at hid
  by_cases m:id∈ids
  ·rw[ly m] at he;exact hfr _ (by rw[bk.len,bk.sub.len]; exact uI m) he
  ·rw[oT m] at he
   by_cases ht:∃sz n,M[id]?=some (.tick sz n)
   ·obtain⟨sz,n,ht⟩:=ht;refine hx (n*sz) (.inr ⟨id,hid,m,he,?_⟩)
    grind
   ·exact hx 0 (.inr ⟨id,hid,m,he,fun⟨sz,n,h1,_⟩=>ht ⟨sz,n,h1⟩⟩)
 | @cY k ver sz0 lo hi v h0 hid hM hv =>
  obtain⟨id,g1,g2,g3,g4⟩:=bk.CD hid;have hb:=ai hid;have hin:=bk.Ky g2 (b:=B'[k]) (by rw[g4]; exact hb)
  rw[x9 (hM _ hb)] at hin;simp only[ag.uZ,g3];refine .cY h0 (by rw[bk.se]; exact bk.Pu g1) (fun bx hbx=>?_) fun sz v' xs h=>?_
  ·rw[hin] at hbx; exact hM bx (hb.trans hbx)
  ·rw[hin] at h;obtain⟨k1,k2⟩:=hv sz v' xs (hb.trans h)
   exact⟨k1,fun he=>by
    obtain⟨l0,l1,l2,⟨l3,l4,l5⟩|⟨b,cap,vs,t,l3,r⟩⟩:=k2 he
    ·exact⟨l0,l1,l2,.inl ⟨l3,by rw[ly g2,g4]; exact l4,l5⟩⟩
    exact⟨l0,l1,l2,.inr ⟨b,cap,vs,t,by rw[ly g2,g4]; exact l3,r⟩⟩⟩
 | @iI k ver i off v h0 hid hM hv =>
  obtain⟨id,g1,g2,g3,g4⟩:=bk.CD hid;have hb:=ai hid;have hin:=bk.Ky g2 (b:=B'[k]) (by rw[g4]; exact hb)
  rw[x9 (hM _ hb)] at hin;simp only[ag.uZ,g3];refine .iI h0 (by rw[bk.se]; exact bk.Pu g1) (fun bx hbx=>?_) fun sz v' xs h=>?_
  ·rw[hin] at hbx; exact hM bx (hb.trans hbx)
  grind [ly]
 |any v=>exact .any v
theorem wS.Lb{x:ag}{v:Value}(h:gn j2 B' w' x v)(hf:x.xc=true):gn (Pa j j2 ids) (ny ids M ids B') w' (x.uC (yf ids)) v:=by
 by_cases hfn:∃f caps,x = .func f caps
 ·obtain⟨f,caps,rfl⟩:=hfn;obtain⟨vs,rfl,hl,hc⟩:=h.rB;refine .func kW fun i c u hci hu=>?_
  rw[bb,aW] at hci;obtain⟨c0,hc0,rfl⟩:=hci;exact bk.Uv (hc i _ u hc0 hu) (bF.1 hf _ (aU hc0))
 ·have e1:x.uC (yf ids)=x.uZ (yf ids):=by cases x<;>first|rfl|grind
  have e3:x.HT=true:=by cases x<;>first|rfl|exact absurd ⟨_,_,rfl⟩ hfn|cases hf
  rw[e1];exact bk.Uv h e3
theorem wS.rep{x:ag}{v:Value}(h:gn j2 B' w' x v)(hf:x.flat=true):gn (Pa j j2 ids) (ny ids M ids B') w' (x.rn (yf ids)) v:=by
 by_cases hag:∃cs,x = .agg cs
 ·obtain⟨cs,rfl⟩:=hag;obtain⟨vs,rfl,hl,hc⟩:=h.mM;refine .agg kW fun i c u hci hu=>?_
  rw[bb,aW] at hci;obtain⟨c0,hc0,rfl⟩:=hci;exact bk.Lb (hc i _ u hc0 hu) (bF.1 hf _ (aU hc0))
 ·have e1:x.rn (yf ids)=x.uC (yf ids):=by cases x<;>first|rfl|grind
  have e3:x.xc=true:=by cases x<;>first|exact hf|grind
  rw[e1];exact bk.Lb h e3
theorem wS.ang{x:ag}{v:Value}(h:gn j2 B' w' x v)(hf:x.yn=true):gn (Pa j j2 ids) (ny ids M ids B') w' (x.B6 (yf ids)) v:=by
 by_cases ht:∃vs,x = .tuple vs
 ·obtain⟨cs,rfl⟩:=ht;obtain⟨vs,rfl,hl,hc⟩:=h.tP;refine .tuple kW fun i c u hci hu=>?_
  rw[bb,aW] at hci;obtain⟨c0,hc0,rfl⟩:=hci;exact bk.rep (hc i _ u hc0 hu) (bF.1 hf _ (aU hc0))
 ·have e1:x.B6 (yf ids)=x.rn (yf ids):=by cases x<;>first|rfl|grind
  have e3:x.flat=true:=by cases x<;>first|exact hf|grind
  rw[e1];exact bk.rep h e3
theorem wS.aiP:Rel (Pa j j2 ids) (ny ids M ids B') w':=by
 have ltin:∀ {id:Nat},id∈ids->jb ids id<B'.length:=fun h=>by rw[bk.len,bk.sub.len]; exact uI h
 refine⟨fun id id' b hi hi' h h'=>?_,fun id b hi h=>?_,fun id cb h hf=>?_,fun id sz n b h hj=>?_,fun id sz ver xs h=>?_,fun id b hi h off hx=>?_,fun b off h=>bz (bk.hr.Ah b off h) bk.ext.size⟩
 ·rw[bk.se] at hi hi'
  by_cases m:id∈ids<;>by_cases m':id'∈ids
  ·rw[ly m] at h;rw[ly m'] at h';have:=bk.rel.inj _ _ b (ltin m) (ltin m') h h';rw[<-LC m,this,LC m']
  ·rw[ly m] at h;rw[oT m'] at h';exact absurd h ((bk.uL hi' m' h').2 _ (ltin m))
  ·rw[oT m] at h;rw[ly m'] at h';exact absurd h' ((bk.uL hi m h).2 _ (ltin m'))
  ·rw[oT m] at h;rw[oT m'] at h';exact bk.hr.inj id id' b hi hi' h h'
 ·rw[bk.se] at hi
  by_cases m:id∈ids
  ·rw[ly m] at h; exact bk.rel.lt _ b (ltin m) h
  ·rw[oT m] at h; exact bz (bk.hr.lt id b hi h) bk.ext.size
 ·by_cases m:id∈ids
  ·obtain⟨bx,h1,h2⟩:=bk.some_ m;rw[bk.Ky m h1] at h;injection h with h
   subst h;have hfx:bx.fixed=true:=by cases bx<;>first|rfl|cases hf
   obtain⟨b,g1,g2⟩:=bk.rel.fix _ bx h1 hfx;refine⟨b,by rw[ly m]; omega,?_⟩
   cases bx with
   |tick sz n=>cases hf
   |cells cs0 =>
    obtain⟨vs,t,k1,k2,k3⟩:=g2;refine⟨vs,t,k1,kW,fun q c v hc hv=>?_⟩
    rw[bb,aW] at hc;obtain⟨c0,hc0,rfl⟩:=hc;exact bk.Lb (k3 q c0 v hc0 hv) (bF.1 h2 c0 (aU hc0))
   |map ks vs =>
    obtain⟨es,cl,k1,k2,k3,k4,k5⟩:=g2;refine⟨es,cl,k1,k2,kW,fun q c e hc he=>(k4 q c e hc he).mono fun b off hs=>⟨bk.im hs,rfl⟩,fun q c e hc he=>?_⟩
    rw[bb,aW] at hc;obtain⟨c0,hc0,rfl⟩:=hc;exact bk.rep (k5 q c0 e hc0 he) (bF.1 h2 c0 (aU hc0))
   |nW st pos=>exact g2
   |vM=>cases hf
   |arr=>cases hf
  ·rw[bk.K4 m] at h;obtain⟨b,g1,g2⟩:=bk.hr.fix id cb h hf;exact⟨b,by rw[oT m]; omega,g2.mono bk.VY (bk.uL (aJ h) m g1).1⟩
 ·by_cases m:id∈ids
  ·obtain⟨bx,h1,h2⟩:=bk.some_ m;rw[bk.Ky m h1] at h;injection h with h
   rw[ly m] at hj;cases bx<;>first|cases h|skip
   exact bk.rel.tick _ _ _ b h1 hj
  ·rw[bk.K4 m] at h;rw[oT m] at hj;obtain⟨vs,t,g⟩:=bk.hr.tick id sz n b h hj;exact⟨vs,t,(bk.uL (aJ h) m hj).1.trans g⟩
 ·by_cases m:id∈ids
  ·obtain⟨bx,h1,h2⟩:=bk.some_ m;rw[bk.Ky m h1] at h;injection h with h
   cases bx<;>first|cases h|skip
   obtain⟨g0,g1⟩|⟨b,vs,t,g1,g2,g3,g4,g5⟩:=bk.rel.arr _ _ _ _ h1
   ·grind [ly]
   exact .inr ⟨b,vs,t,by rw[ly m]; omega,g2,g3,g4,fun q x k c hx hk=>(g5 q x k c hx hk).imp fun u hu=>⟨hu.1,hu.2.mono fun b off hs=>⟨bk.im hs,rfl⟩⟩⟩
  ·rw[bk.K4 m] at h;exact qp bk.hr bk.VY h (oT m) fun b hb=>(bk.uL (aJ h) m hb).1
 ·rw[bk.se] at hi
  by_cases m:id∈ids
  ·rw[ly m] at h;have:=bk.rel.u9 _ b (ltin m) h off;rw[bk.ext.X] at this;exact this (.inl hx)
  ·rw[oT m] at h;exact bk.hr.u9 id b hi h off hx
end
theorem Fz{ρ:Nat->Nat}{x:ag}(h:x.iz=[]):x.uZ ρ=x:=by
 cases x with
 |slice tk xs=>cases tk<;>first|rfl|grind [ag.iz]
 |ptr=>grind [ag.iz]
 |gJ=>grind [ag.iz]
 |jI=>grind [ag.iz]
 |cY=>grind [ag.iz]
 |iI=>grind [ag.iz]
 |jX=>grind [ag.iz]
 |_=>rfl
def II{ρ:Nat->Nat}:∀ {l:List ag},l.flatMap ag.iz=[]->l.map (ag.uZ ρ)=l
 | [],_=>rfl
 |c::r,h=>by
  rw[List.flatMap_cons,List.append_eq_nil_iff] at h;rw[a8,Fz h.1,II h.2]
theorem FF{ρ:Nat->Nat}{x:ag}(h:x.oZ=[]):x.uC ρ=x:=by
 by_cases hf:∃f caps,x = .func f caps
 ·obtain⟨f,caps,rfl⟩:=hf;exact congrArg _ (II h)
 ·have e1:x.uC ρ=x.uZ ρ:=by cases x<;>first|rfl|grind
  have e2:x.oZ=x.iz:=by cases x<;>first|rfl|grind
  grind [Fz]
def IJ{ρ:Nat->Nat}:∀ {l:List ag},l.flatMap ag.oZ=[]->l.map (ag.uC ρ)=l
 | [],_=>rfl
 |c::r,h=>by
  rw[List.flatMap_cons,List.append_eq_nil_iff] at h;rw[a8,FF h.1,IJ h.2]
theorem Uu{ρ:Nat->Nat}{x:ag}(_:x.flat=true)(h:x.ids=[]):x.rn ρ=x:=by
 by_cases hf:∃cs,x = .agg cs
 ·obtain⟨cs,rfl⟩:=hf;exact congrArg _ (IJ h)
 ·have e1:x.rn ρ=x.uC ρ:=by cases x<;>first|rfl|grind
  have e2:x.ids=x.oZ:=by cases x<;>first|rfl|grind
  grind [FF]
theorem rq{P:Program}{C:eO}(hC:pC P C){j:J}{M:aO}{w:World}{f:Nat}{vs:List ag}{us:Array Value}{x:ag×aO}(hr:Rel j M w)(hG:sS j M w)(h:aL C f vs M=some x)
  (hl:vs.length=us.size) (hv:∀(i:Nat)(c:ag)(u:Value),vs[i]?=some c->us[i]?=some u->gn j M w c u) :
  k6 P f=true/\Calls P f us w fun e w'=>vN j M w x e w':=by
 unfold aL at h;generalize hids:reach M (vs.flatMap ag.ids)=ids at h;split at h
 ·rename_i hf;obtain⟨B,hB,h⟩:=bu h;split at h
  ·rename_i hcl;obtain⟨y,hy,h⟩:=bu h;split at h
   ·rename_i hcond;obtain⟨c1,c2,c3⟩:=hcond;cases h;obtain⟨h1,h2⟩:=hC _ _ _ _ hy;obtain⟨p1,p2⟩:=DE hB;have s:Sub j M w ids B:=⟨by rw[<-hids]; simp[IW],p1,p2,fun i b hi hb x hx=>NA hcl hi hb hx⟩
    refine⟨h1,(h2 (down j M ids) w us (s.rel hr) (hG.im fun b off h=>s.im h) kW fun i c u hc hu=>?_).mono ?_⟩
    ·rw[bb,aW] at hc;obtain⟨c0,hc0,rfl⟩:=hc;have hm:=aU hc0;exact s.rep (hv i c0 u hc0 hu) (bF.1 hf c0 hm) fun q hq=>by rw[<-hids]; exact Ox (gv.2 ⟨c0,hm,hq⟩)
    ·rintro e w' (⟨v,rfl,j2,g1,g2,g3⟩|⟨u,rfl,hu,j2,g1,g2⟩)
     ·have bk:wS j M B w ids j2 y.2 w':=⟨s,hr,g2,g1,c1,fun b hb=>bF.1 c3 b hb⟩
      exact .inl ⟨v,rfl,Pa j j2 ids,bk.aiP,bk.VY,bk.ang g3 c2⟩
     ·have bk:wS j M B w ids j2 y.2 w':=⟨s,hr,g2,g1,c1,fun b hb=>bF.1 c3 b hb⟩
      exact .inr ⟨u,rfl,by rw[hu]; rfl,Pa j j2 ids,bk.aiP,bk.VY⟩
   grind
  grind
 grind
theorem Uy{j j2:J}{G:aO}{w w':World}{p sz n:Nat}{xs:List ag}{v:Value}(hr:Rel j G w)(hp:G[p]?=some .vM)(h2:Rel j2 [.tick sz n] w')(hx:Ext (down j G []) [] w j2 [.tick sz n] w')
  (hv:gn j2 [.tick sz n] w' (.slice (.own 0) xs) v):iH j G w (.slice (.own p) xs,G.set p (.tick sz n)) v w':=by
 have hpl:=aJ hp
 have hold:∀b,b<w.heap.size->w'.heap[b]?=w.heap[b]?/\j2 0≠some b:=fun b hb=>by
  obtain⟨h1,h3⟩:=hx.uL b hb (fun i hi=>by simp at hi)
  exact⟨h1,h3 0 dk⟩
 have up:∀i,i≠p->gD j p (j2 0) i=j i:=fun i hi=>by simp[gD,hi]
 have atp:gD j p (j2 0) p=j2 0:=by simp[gD]
 have nX:∀ {b off},ow j2 [.tick sz n] w' b off->¬j.X b off/\∀id,id<G.length->j id=some b->∃sz n,G[id]?=some (.tick sz n)/\off<n*sz:=fun {b off} hs=>by
  have:=hs.nx;rw[hx.X] at this;refine⟨fun h=>this (.inl h),fun id hid hj=>?_⟩
  by_cases hc:∃sz n,G[id]?=some (.tick sz n)/\off<n*sz
  ·exact hc
  ·exact absurd (Or.inr ⟨id,hid,dk,hj,hc⟩) this
 have im:∀b off,ow j2 [.tick sz n] w' b off->ow (gD j p (j2 0)) (G.set p (.tick sz n)) w' b off:=fun b off hs=>by
  obtain⟨n1,n2⟩:=nX hs;refine⟨hs.lt,fun id hid hj=>?_,n1⟩
  by_cases e:id=p
  ·subst e;rw[atp] at hj;obtain⟨s1,m1,h3,h4⟩:=hs.ids 0 dk hj
   grind
  grind
 have q:Quiet w w':=⟨hx.size,hx.os,hx.tape,hx.output⟩
 have ext:Ext j G w (gD j p (j2 0)) (G.set p (.tick sz n)) w':={
  len:=dk
  size:=q.size
  os:=q.os
  tape:=q.tape
  output:=q.output
  X:=rfl
  fix:=fun i bx h hf=>by
   have e:i≠p:=by rintro rfl; rw[hp] at h; cases h; cases hf
   grind
  tick:=fun i sz n h=>by
   grind
  arr:=fun i sz v xs h=>by
   grind
  tags:=fun b0 vs0 t0 fr0 h=>⟨vs0,fr0,(hold b0 (lt_of_block h)).1.trans h,rfl⟩
  im:=fun b0 off h=>by
   refine⟨⟨bz h.1 q.size,fun id hid hj=>?_,h.3⟩,World.cell?_of_block (w:=w) (hold b0 h.1).1⟩
   by_cases e:id=p
   ·subst e; rw[atp] at hj; exact absurd hj (hold b0 h.1).2
   ·rw[cT (dM e)];rw[up id e] at hj;exact h.2 id (by simpa using hid) hj
  uL:=fun b0 cA h=>by
   grind }
 refine⟨gD j p (j2 0),⟨fun i i' b0 hi hi' h h'=>?_,fun i b0 hi h=>?_,fun i bx' h hf=>?_,fun i sz0 n0 b0 h hj=>?_,fun i sz0 ver ys h=>?_,fun i b0 hi h off hxx=>?_,fun b off h=>bz (hr.Ah b off h) q.size⟩,ext,?_⟩
 ·simp only[eD] at hi hi'
  by_cases e:i=p<;>by_cases e':i'=p
  ·omega
  ·subst e;rw[atp] at h; rw[up i' e'] at h';exact absurd h (hold b0 (hr.lt i' b0 hi' h')).2
  ·subst e';rw[atp] at h'; rw[up i e] at h;exact absurd h' (hold b0 (hr.lt i b0 hi h)).2
  ·rw[up i e] at h; rw[up i' e'] at h';exact hr.inj i i' b0 hi hi' h h'
 ·simp only[eD] at hi
  by_cases e:i=p
  ·subst e; rw[atp] at h; exact h2.lt 0 b0 dk h
  ·rw[up i e] at h;exact bz (hr.lt i b0 hi h) q.size
 ·by_cases e:i=p
  ·subst e;rw[dZ hpl] at h;cases h; cases hf
  ·rw[cT (dM e)] at h;obtain⟨b0,h1,h3⟩:=hr.fix i bx' h hf;exact⟨b0,by rw[up i e]; exact h1,h3.mono ext (hold b0 (hr.lt i b0 (aJ h) h1)).1⟩
 ·by_cases e:i=p
  ·subst e; rw[atp] at hj;exact h2.tick 0 sz n b0 rfl hj
  ·rw[cT (dM e)] at h;rw[up i e] at hj;obtain⟨vs,t,h1⟩:=hr.tick i sz0 n0 b0 h hj;exact⟨vs,t,(hold b0 (lt_of_block h1)).1.trans h1⟩
 ·by_cases e:i=p
  ·subst e; rw[dZ hpl] at h; cases h
  ·rw[cT (dM e)] at h;exact qp hr ext h (up i e) fun b0 h1=>(hold b0 (hr.lt i b0 (aJ h) h1)).1
 ·simp only[eD] at hi
  by_cases e:i=p
  ·subst e; rw[atp] at h;exact absurd h (hold b0 (hr.Ah b0 off hxx)).2
  ·rw[up i e] at h;exact hr.u9 i b0 hi h off hxx
 ·cases hv with
  |plain h=>cases h
  |own hk hn h ht =>
   simp at hk;obtain⟨rfl,rfl⟩:=hk;refine .own (dZ hpl) hn (h.mono fun b off hs=>⟨im b off hs,rfl⟩) fun he=>?_
   rcases ht he with ⟨h1,h3,h4⟩|⟨b,cap,vs,t,h1,h3,h4,h5,h6⟩
   ·exact .inl ⟨by rw[atp]; exact h1,h3,h4⟩
   ·exact .inr ⟨b,cap,vs,t,by rw[atp]; exact h1,h3,h4,h5,h6⟩
theorem OX{P:Program}{C:eO}(hC:pC P C){j:J}{G:aO}{w:World}{f p:Nat}{vs:List ag}{us:Array Value}{xs:List ag}{sz n:Nat}(hr:Rel j G w)(hG:sS j G w)(hp:G[p]?=some .vM)(hf:vs.all ag.flat=true)(hi:vs.flatMap ag.ids=[])
  (h:C f vs []=some (.slice (.own 0) xs,[.tick sz n])) (hl:vs.length=us.size) (hv:∀(i:Nat)(c:ag)(u:Value),vs[i]?=some c->us[i]?=some u->gn j G w c u) :
  k6 P f=true/\Calls P f us w fun e w'=>∃v,e = .returned v/\iH j G w (.slice (.own p) xs,G.set p (.tick sz n)) v w':=by
 obtain⟨h1,h2⟩:=hC _ _ _ _ h;have s:Sub j G w _ []:=⟨kY,rfl,fun i id h=>by simp_all,fun i b hi=>kW⟩
 refine⟨h1,(h2 _ w _ (s.rel hr) (hG.im fun b off h=>s.im h) hl fun i c u hc hu=>?_).mono ?_⟩
 ·have hm:=aU hc
  have:=s.rep (hv i c u hc hu) (bF.1 hf c hm) fun q hq=>by
   have hci  := jS.1 hi c hm;rw[hci] at hq; omega
  rwa[Uu (bF.1 hf c hm) (jS.1 hi c hm)] at this
 ·rintro e w' (⟨v,rfl,j2,g1,g2,g3⟩|⟨u,rfl,hu,_⟩)
  ·exact⟨v,rfl,Uy hr hp g1 g2 g3⟩
  grind
section
variable {P:Program} {C:eO} {o:Oper} {bq:Env} {M:aO} {j:J} {w:World} {a:Act} {x:ag×aO}
theorem Bu:∀ {xs:List ag} {l:List UInt8},bytesOf xs=some l->l.length=xs.length/\∀(i:Nat)(x:ag),xs[i]?=some x->∃n,x = .int .u8 n/\l[i]?=some (UInt8.ofNat n.toNat)
 | [],l,h=>by grind [bytesOf]
 |y::r,l,h=>by
  unfold bytesOf at h;split at h
  ·grind
  ·rename_i n r' e;injection e with e1 e2; subst e2
   obtain⟨l',h1,h⟩:=bu h;injection h with h; obtain⟨g1,g2⟩:=Bu h1
   grind
  grind
def Fy(g:Value->ByteArray->Sem (ForInStep ByteArray))(hg:∀n s,g (.int .u8 n) s=pure (ForInStep.yield (s.push (UInt8.ofNat n.toNat)))):∀(vs:List Value)(l:List UInt8)(s:ByteArray),vs.length=l.length->(∀(i:Nat)(v:Value)(b:UInt8),vs[i]?=some v->l[i]?=some b->∃n,v = .int .u8 n/\b=UInt8.ofNat n.toNat) ->
  (forIn vs s g).run P w = .ok ⟨s.data++l.toArray⟩ w
 | [],[],s,_,_=>by rfl
 |v::vs,b::l,s,hl,h=>by
  obtain⟨n,rfl,rfl⟩:=h 0 v b rfl rfl;have:=Fy g hg vs l (s.push (UInt8.ofNat n.toNat)) kW fun i v b hv hb=>h (i+1) v b kW kW
  simp_all
 | [],_::_,_,hl,_=>kW
 |_::_,[],_,hl,_=>kW
theorem adK(hr:Rel j M w)(he:cE j M w bq a){s d e:TypeId}{y:Operand}{z:gw}(hop:o.op = .convert s d y)(hs:P.underlying s=some (.slice e))(hd:P.underlying d=some .string)(hu:P.underlying e=some (.int .u8))
  (hz:ew y=some z) (h:ei C bq M (.b2s z)=some x):∃v w',rl P o a w v w'/\iH j M w x v w':=by
 simp only[ei] at h;have h1:=cU he hz;split at h
 ·rename_i tk xs ev;obtain⟨l,hl,h⟩:=bu h;cases h;rw[ev] at h1;obtain⟨g1,g2⟩:=Bu hl;refine⟨.string (bs l),w,.inl ?_,.still hr (.plain (.str _))⟩;obtain⟨A,cap,b,off,sz,vs,hv,hc,ha,hwid,hcell,hrep⟩:=h1.eb.eb
  have hrun:(Conv.bytesToString (a.eval y)).run P w = .ok (.string (bs l)) w:=by
   rw[hv];cases A with
   |none =>
    have:xs=[]:=by
     grind
    subst this;have:l=[]:=cK g1;subst this;rfl
   |some A =>
    have hload:∃us:Array Value,(loadCells A xs.length).run P w = .ok us w/\us.size=l.length/\∀(i:Nat)(v:Value)(b:UInt8),us[i]?=some v->l[i]?=some b->∃n,v = .int .u8 n/\b=UInt8.ofNat n.toNat:=by
     by_cases hx:xs=[]
     ·subst hx;have:l=[]:=cK g1;subst this;exact⟨#[],by rfl,rfl,fun i v b h=>by simp at h⟩
     ·have hA:=ha hx;cases hA
      have hsz:sz=1:=by
       cases xs with
       |nil=>grind
       |cons c r =>
        obtain⟨n,rfl,_⟩:=g2 0 c rfl;exact(hwid (.int .u8 n) dk).symm
      subst hsz
      have cellOf:∀i,i<xs.length->∃n,w.cell? ⟨b,off+i,none⟩=some (vs i)/\vs i = .int .u8 n/\l[i]?=some (UInt8.ofNat n.toNat):=by
       intro i hi;have hxi:xs[i]?=some xs[i]:=ai hi;obtain⟨n,hn,hb⟩:=g2 i _ hxi;have q1:=hcell i _ 0 (.int .u8 n) hxi (by rw[hn]; rfl)
       have q2:=hrep i _ 0 (.int .u8 n) hxi (by rw[hn]; rfl)
       simp only[Nat.mul_one,dq] at q1 q2;exact⟨n,q1.1,(gn.plain (j:=j) (M:=M) q2).fS,hb⟩
      refine⟨_,o3 (P:=P) (w:=w) b off xs.length vs (fun k hk=>(cellOf k hk).choose_spec.1),by simp[g1],fun i v c hi hb=>?_⟩
      grind
    obtain⟨us,u1,u2,u3⟩:=hload;simp only[Conv.bytesToString,Sem.run_bind,u1,Result.andThen_ok];rw[<-Array.forIn_toList];refine(congrArg (fun r=>Result.andThen r _) (Fy (P:=P) (w:=w) _ ?_ us.toList l ByteArray.empty aM fun i v b hv hb=>u3 i v b (by simpa using hv) hb)).trans ?_
    ·simp
    simp[bs]
  simp only[execOp,hop,convert,Sem.run_bind,dP hs,dP hd,Result.andThen_ok];rw[hv] at hrun ⊢;cases A<;>simp[dP hu,hrun]
 ·cases h
theorem CV{fk:FK}{k k':ag}{b:Bool}(h:iq fk k k'=some b) :
  (∃t x y,k = .int t x/\k' = .int t y/\fk = .i/\b=(x==y))\/(∃x y,k = .str x/\k' = .str y/\fk = .s/\b=(x==y))\/∃x y,k = .bool x/\k' = .bool y/\fk = .b/\b=(x==y):=by
 unfold iq at h
 grind
def FK.is:FK->TypeDesc->Prop
 | .i,.int _=>True
 | .s,.string=>True
 | .b,.bool=>True
 |_,_=>False
theorem E3{t:TypeId}{fk:FK}(h:De P t=some fk):∃d,P.underlying t=some d/\fk.is d:=by
 unfold De at h
 split at h<;>first
  |(rename_i hd; cases h; exact⟨_,hd,trivial⟩)
  |grind
theorem I6{fk:FK}{d:TypeDesc}(hd:fk.is d){k k':ag}{b:Bool}(h:iq fk k k'=some b){im:Nat->Nat->Prop}{v v':Value}(hv:gn j M w k v)(hv':fK w im k' v') :
  Instr.sameNow d v v'=some b/\(b=true->Instr.sameBits 10000 v' v=true)/\fK w (ow j M w) k v:=by
 rcases CV h with ⟨t,x,y,rfl,rfl,rfl,rfl⟩|⟨x,y,rfl,rfl,rfl,rfl⟩|⟨x,y,rfl,rfl,rfl,rfl⟩
 ·have e1:=hv.fS; subst e1; cases hv';cases d<;>first|exact False.elim hd|skip
  exact⟨by simp[Instr.sameNow],fun h=>by grind [Instr.sameBits],.int _ _⟩
 ·have e1:=hv.kg; subst e1; cases hv';cases d<;>first|exact False.elim hd|skip
  have this:∀x y,(bs x==bs y)=(x==y):=fun x y=>by
   show(x.toArray==y.toArray)=(x==y)
   simp
  exact⟨by simp_all [Instr.sameNow],fun h=>by grind [Instr.sameBits],.str _⟩
 ·have e1:=hv.js; subst e1; cases hv';cases d<;>first|exact False.elim hd|skip
  exact⟨by simp[Instr.sameNow],fun h=>by grind [Instr.sameBits],.bool _⟩
def Oj{fk:FK}{k:ag}{b:Bool}(h:iq fk k k=some b){v:Value}(hv:gn j M w k v):fK w (ow j M w) k v:=by
 rcases CV h with ⟨t,x,y,rfl,_⟩|⟨x,y,rfl,_⟩|⟨x,y,rfl,_⟩
 ·have:=hv.fS; subst this; exact .int _ _
 ·have:=hv.kg; subst this; exact .str _
 ·have:=hv.js; subst this; exact .bool _
def Ev{fk:FK}{d:TypeDesc}(hd:fk.is d){t:TypeId}(ht:P.underlying t=some d)(e:Bool)(v:Value):(Instr.checkKey e 10000 t v).run P w = .ok () w:=by
 rw[Instr.checkKey.eq_def];simp only[Sem.run_bind,dP ht];cases fk<;>cases d<;>first|exact False.elim hd|(cases v<;>rfl)
theorem HR{fk:FK}{d:TypeDesc}(hd:fk.is d){k:ag}{v:Value}(hv:gn j M w k v){im:Nat->Nat->Prop}:∀ {ks vs:List ag} {es:List MapEntry} {r:Option ag} (n:Nat),td fk k ks vs=some r ->
  ks.length=es.length->vs.length=es.length->(∀(i:Nat)(k:ag)(e:MapEntry),ks[i]?=some k->es[i]?=some e->fK w im k e.key) ->
  (r=none/\Instr.findNow d v es n=some none)\/∃i u e,r=some u/\vs[i]?=some u/\es[i]?=some e/\Instr.findNow d v es n=some (some (n+i,e.val))
 | [],[],[],r,n,h,_,_,_=>by simp[td] at h; exact .inl ⟨h.symm,rfl⟩
 |k'::ks,u::vs,e::es,r,n,h,h1,h2,h3=>by
  obtain⟨b,hb,h⟩:=bu h;obtain⟨s1,_⟩:=I6 hd hb hv (h3 0 k' e rfl rfl);rcases k8 h with ⟨rfl,h⟩|⟨rfl,h⟩
  ·injection h with h
   exact .inr ⟨0,u,e,h.symm,rfl,rfl,by grind [Instr.findNow]⟩
  ·have hf:Instr.findNow d v (e::es) n=Instr.findNow d v es (n+1):=by rw[Instr.findNow,s1]
   rcases HR hd hv (n+1) h (by simpa using h1) (by simpa using h2) (fun i k e hk he=>h3 (i+1) k e kW kW) with ⟨g1,g2⟩|⟨i,u',e',g1,g2,g3,g4⟩
   ·grind
   ·exact .inr ⟨i+1,u',e',g1,kW,kW,kW⟩
 | [],_::_,[],_,_,_,_,h2,_=>by simp at h2
 |_::_,[],_::_,_,_,_,_,h2,_=>by simp at h2
 | [],_,_::_,_,_,_,h1,_,_=>by simp at h1
 |_::_,_,[],_,_,_,h1,_,_=>by simp at h1
theorem HS{fk:FK}{d:TypeDesc}(hd:fk.is d){k y:ag}{v:Value}(hv:gn j M w k v){im:Nat->Nat->Prop}:∀ {ks vs:List ag} {es:List MapEntry} {r:List ag×List ag} (n:Nat),te fk k y ks vs=some r ->
  ks.length=es.length->vs.length=es.length->(∀(i:Nat)(k:ag)(e:MapEntry),ks[i]?=some k->es[i]?=some e->fK w im k e.key) ->
  fK w (ow j M w) k v/\((r=(ks++[k],vs++[y])/\Instr.findNow d v es n=some none)\/∃i e,r=(ks.set i k,vs.set i y)/\es[i]?=some e/\Instr.sameBits 10000 e.key v=true/\Instr.findNow d v es n=some (some (n+i,e.val)))
 | [],[],[],r,n,h,_,_,_=>by
  obtain⟨b,hb,h⟩:=bu h;injection h with h
  exact⟨Oj hb hv,.inl ⟨h.symm,rfl⟩⟩
 |k'::ks,u::vs,e::es,r,n,h,h1,h2,h3=>by
  obtain⟨b,hb,h⟩:=bu h;obtain⟨s1,s2,s3⟩:=I6 hd hb hv (h3 0 k' e rfl rfl);refine⟨s3,?_⟩;rcases k8 h with ⟨rfl,h⟩|⟨rfl,h⟩
  ·injection h with h
   exact .inr ⟨0,e,h.symm,rfl,s2 rfl,by grind [Instr.findNow]⟩
  ·obtain⟨r',h',h⟩:=bu h;cases h;have hf:Instr.findNow d v (e::es) n=Instr.findNow d v es (n+1):=by rw[Instr.findNow,s1]
   rcases(HS hd hv (n+1) h' (by simpa using h1) (by simpa using h2) (fun i k e hk he=>h3 (i+1) k e kW kW)).2 with ⟨g1,g2⟩|⟨i,e',g1,g2,g3,g4⟩
   ·grind
   ·exact .inr ⟨i+1,e',by rw[g1]; rfl,kW,g3,by rw[hf,g4]; grind⟩
 | [],_::_,[],_,_,_,_,h2,_=>kW
 |_::_,[],_::_,_,_,_,_,h2,_=>kW
 | [],_,_::_,_,_,_,h1,_,_=>by simp at h1
 |_::_,_,[],_,_,_,h1,_,_=>kW
def BZ.rep{x:ag}{v:Value}(h:BZ w (ow j M w) x v):gn j M w x v:=by
 by_cases hag:∃cs,x = .agg cs
 ·obtain⟨cs,rfl⟩:=hag;obtain⟨us,rfl,h2,h3⟩:=h;exact .agg h2 fun i c u hc hu => .plain (h3 i c u hc hu)
 ·cases x<;>first|exact absurd ⟨_,rfl⟩ hag|exact .plain h
theorem Fe(hr:Rel j M w){m:ag}{v:Value}{e:List ag×List ag}(h:mapOf M m=some e)(hm:gn j M w m v):∃(b:Nat) (es:Array MapEntry) (clock:Nat),v = .map (some b)/\w.heap[b]?=some (.map es clock) /\
  e.1.length=es.size/\e.2.length=es.size/\(∀(i:Nat)(k:ag)(e':MapEntry),e.1[i]?=some k->es[i]?=some e'->fK w (ow j M w) k e'.key)/\∀(i:Nat)(k:ag)(e':MapEntry),e.2[i]?=some k->es[i]?=some e'->gn j M w k e'.val:=by
 unfold mapOf at h;split at h
 ·split at h
  ·rename_i ks vs hM;injection h with h; rw[eY] at hM
   obtain⟨b,_,hj,rfl⟩:=hm.vy;obtain⟨b',hj',es,clock,g1,g2,g3,g4,g5⟩:=hr.fix _ _ hM rfl
   grind
  grind
 ·cases h;cases hm with
  |plain h=>cases h
  |iB hb hf hx hw hk hv hks hvs=>exact⟨_,_,_,rfl,hw,hk,hv,hks,fun i k e h1 h2=>(hvs i k e h1 h2).rep⟩
 ·cases h
theorem IA{zero:ag}{ok:Bool}{r:Option ag}{v:Value}(h:gn j M w (r.getD zero) v):gn j M w (lL zero ok r) (if ok then .tuple #[v,.bool r.isSome] else v):=by
 cases ok with
 |false=>exact h
 |true =>
  refine .tuple rfl fun i c u hc hu=>?_
  match i with
  |0=>grind
  |1=>simp at hc hu; subst hc; subst hu; exact .plain (.bool _)
  |n+2=>simp_all
def Xw(hr:Rel j M w)(he:cE j M w bq a){t kt et:TypeId}{m k:Operand}{m' k':gw}{ok:Bool}{fk:FK}{ie:TypeInfo}{zv:Value}{z:ag}(hop:o.op = .lookup t m k ok)(ht:P.underlying t=some (.map kt et))
  (hk:De P kt=some fk) (hi:P.info? et=some ie) (hz:ie.zero=some zv) (hzv:PM zv=some z) (hm':ew m=some m') (hk':ew k=some k') (h:ei C bq M (.look fk z ok m' k')=some x) :
  ∃v w',rl P o a w v w'/\iH j M w x v w':=by
 simp only[ei] at h;obtain⟨e,h1,h⟩:=bu h;obtain⟨r,h2,h⟩:=bu h;cases h;obtain⟨d,hd,hfk⟩:=E3 hk;obtain⟨b,es,clock,hv,hb,g1,g2,g3,g4⟩:=Fe hr h1 (cU he hm');have hc:∀q,(Instr.checkKey q 10000 kt (a.eval k)).run P w = .ok () w:=fun q=>Ev hfk hd q _
 rcases HR hfk (cU he hk') (es:=es.toList) 0 h2 (by simpa using g1) (by simpa using g2) (fun i k e hk he=>g3 i k e hk (by simpa using he)) with ⟨rfl,f1⟩|⟨i,u,e',rfl,f2,f3,f1⟩
 ·refine⟨if ok then .tuple #[zv,.bool false] else zv,w,.inl ?_,.still hr (IA (r:=none) (Ho hzv))⟩
  simp[execOp,hop,Instr.lookup,dP ht,hv,MapKept.run_getObj_map hb,hc,Instr.findKey,dP hd,f1,zeroValue,pM hi,hz]
 ·refine⟨if ok then .tuple #[e'.val,.bool true] else e'.val,w,.inl ?_,.still hr (IA (r:=some u) (g4 i u e' f2 (by simpa using f3)))⟩
  simp[execOp,hop,Instr.lookup,dP ht,hv,MapKept.run_getObj_map hb,hc,Instr.findKey,dP hd,f1]
def Xt(hr:Rel j M w)(he:cE j M w bq a){c:Call}{y:Operand}{z:gw}{t k e:TypeId}(hop:o.op = .call c)(hb:c.callee = .builtin .len)(ha:c.args.toList=[y])
  (ht:c.argTypes[0]?=some t) (hs:P.underlying t=some (.map k e)) (hz:ew y=some z) (h:ei C bq M (.Oo z)=some x):∃v w',rl P o a w v w'/\iH j M w x v w':=by
 simp only[ei] at h;obtain⟨e,h1,h⟩:=bu h;cases h;obtain⟨b,es,clock,hv,hbl,g1,g2,g3,g4⟩:=Fe hr h1 (cU he hz);have ha':c.args = #[y]:=by rw[<-ha]
 refine⟨.int .i64 e.1.length,w,.inl ?_,.still hr (.plain (.int _ _))⟩;simp[execOp,hop,resolve,hb,invoke,builtin,Builtin.len_,ha',ht,dP hs,hv,MapKept.run_getObj_map hbl,goInt,g1]
def My(hr:Rel j M w){bx:dg}{ob:Obj}(hfx:bx.fixed=true)(hh:∀j' M' (w':World),w'.heap[w.heap.size]?=some ob->Holds j' M' w' w.heap.size bx) :
  ∃j':J,Rel j' (M++[bx]) { w with heap:=w.heap.push ob }/\Ext j M w j' (M++[bx]) { w with heap:=w.heap.push ob }/\j' M.length=some w.heap.size:=by
 have q:Quiet w { w with heap:=w.heap.push ob }:=⟨dk,rfl,rfl,rfl⟩
 have hb:∀b,b<w.heap.size->({ w with heap:=w.heap.push ob }:World).heap[b]?=w.heap[b]?:=fun b hb=>by
  show(w.heap.push _)[b]?=_
  rw[fR,aj aM]
 have hn:({ w with heap:=w.heap.push ob }:World).heap[w.heap.size]?=some ob:=dk
 refine⟨gD j M.length (some w.heap.size),hr.push (fun b h=>?_) q hb (fun _=>?_) (fun sz n b h=>by rw[h] at hfx; cases hfx) (fun sz v xs h=>by rw[h] at hfx; cases hfx),Ext.push (fun b h=>?_) q hb,by simp[gD]⟩
 ·cases h; simp
 ·exact⟨_,rfl,fun j' M' hx=>hh j' M' _ hn⟩
 ·injection h with h; omega
def Ua(hr:Rel j M w){t:TypeId}(hop:o.op = .makeMap t none)(h:ei C bq M .mkMap=some x):∃v w',rl P o a w v w'/\iH j M w x v w':=by
 simp only[ei] at h;cases h;obtain⟨j',h1,h2,h3⟩:=My (ob := .map #[] 0) (bx := .map [] []) hr rfl fun j' M' w' hw=>⟨#[],0,hw,rfl,rfl,fun i k e h=>by simp at h,fun i k e h=>by simp at h⟩
 exact⟨.map (some w.heap.size),_,.inl (by simp[execOp,hop,Instr.makeMap]),j',h1,h2,.gJ ⟨[],[],dk⟩ h3⟩
def XA(hr:Rel j M w)(he:cE j M w bq a){t:TypeId}{y:Operand}{z:gw}(hop:o.op = .range t y)(ht:P.underlying t=some .string)(hz:ew y=some z)(h:ei C bq M (.OY z)=some x):∃v w',rl P o a w v w'/\iH j M w x v w':=by
 simp only[ei] at h;have h0:=cU he hz;split at h
 ·rename_i s e;rw[e] at h0;cases h;obtain⟨j',h1,h2,h3⟩:=My (ob := .stringIter (bs s) 0) (bx := .nW s 0) hr rfl fun j' M' w' hw=>hw
  exact⟨.pointer (some ⟨w.heap.size,0,none⟩),_,.inl (by simp[execOp,hop,Instr.range,dP ht,h0.kg]),j',h1,h2,.jI ⟨s,0,dk⟩ h3⟩
 ·cases h
def GZ(hr:Rel j M w){id b:Nat}{bx bx':dg}{ob:Obj}(hM:M[id]?=some bx)(hfx:bx.fixed=true)(htag:bx'.tag=bx.tag)(hj:j id=some b)(hnc:∀vs t fr,w.heap[b]?≠some (.cells vs t fr))
  (hh:∀j' M' (w':World),Ext j M w j' M' w'->w'.heap[b]?=some ob->Holds j' M' w' b bx') :
  Rel j (M.set id bx') { w with heap:=w.heap.setIfInBounds b ob }/\Ext j M w j (M.set id bx') { w with heap:=w.heap.setIfInBounds b ob }:=by
 have q:Quiet w { w with heap:=w.heap.setIfInBounds b ob }:=⟨dk,rfl,rfl,rfl⟩
 have hb:∀b',b'≠b->b'<w.heap.size->({ w with heap:=w.heap.setIfInBounds b ob }:World).heap[b']?=w.heap[b']?:=fun b' hne _=>by
  show(w.heap.setIfInBounds b ob)[b']?=_
  rw[fi (dM hne)]
 have cA:b<w.heap.size:=hr.lt id b (aJ hM) hj
 have hn:({ w with heap:=w.heap.setIfInBounds b ob }:World).heap[b]?=some ob:=by
  show(w.heap.setIfInBounds b ob)[b]?=_
  simp[cA]
 exact⟨Rel.store hM hfx htag hj hr q hb (fun vs t fr h=>absurd h (hnc vs t fr)) fun j' M' hx=>hh j' M' _ hx hn,Ext.store hM hfx htag hj hr q hb (fun vs t fr h=>absurd h (hnc vs t fr))⟩
def Uc(hr:Rel j M w)(he:cE j M w bq a){y:Operand}{z:gw}(hop:o.op = .next y true)(hz:ew y=some z)(h:ei C bq M (.Fo z)=some x):∃v w',rl P o a w v w'/\iH j M w x v w':=by
 simp only[ei] at h;have h0:=cU he hz;split at h
 ·rename_i id e;rw[e] at h0;obtain⟨b,_,hj,hv⟩:=h0.Dc;split at h
  ·rename_i s pos hM;rw[eY] at hM;obtain⟨b',hj',hw⟩:=hr.fix _ _ hM rfl;rw[hj] at hj'; cases hj';have hw:w.heap[b]?=some (.stringIter (bs s) pos):=hw;have hsz:(bs s).size=s.length:=by simp[bs,ByteArray.size]
   have hget:(getObj b).run P w = .ok (.stringIter (bs s) pos) w:=by simp[getObj,Sem.run,hw]
   rcases k8 h with ⟨cA,h⟩|⟨cA,h⟩<;>(cases h)
   ·have hlt':pos<s.length:=by simpa using cA
    have hset:∀ob,(setObj b ob).run P w = .ok () { w with heap:=w.heap.setIfInBounds b ob }:=fun ob=>by simp[setObj,Sem.run,hw]
    obtain⟨r1,r2⟩:=GZ (ob := .stringIter (bs s) (pos+(Utf8.decode (bs s) pos).2)) (bx' := .nW s (pos+(Utf8.decode ⟨s.toArray⟩ pos).2)) hr hM rfl rfl hj (fun vs t fr h=>by rw[hw] at h; cases h) fun j' M' w' _ hw=>hw
    refine⟨.tuple #[.bool true,goInt pos,.int .i32 (Utf8.decode (bs s) pos).1],{ w with heap:=w.heap.setIfInBounds b (.stringIter (bs s) (pos+(Utf8.decode (bs s) pos).2)) },.inl ?_,j,?_,?_,?_⟩
    ·simp[execOp,hop,Instr.next,hv,hget,hsz,hlt',hset]
    ·rw[fJ]; exact r1
    ·rw[fJ]; exact r2
    ·refine .tuple rfl fun i c u hc hu=>?_
     match i with
     |0=>simp at hc hu; subst hc; subst hu; exact .plain (.bool _)
     |1=>simp at hc hu; subst hc; subst hu; exact .plain (.int _ _)
     |2=>simp at hc hu; subst hc; subst hu; exact .plain (.int _ _)
     |n+3=>simp at hc
   ·have hlt':¬pos<s.length:=by simpa using cA
    refine⟨.tuple #[.bool false],w,.inl ?_,.still hr (.tuple rfl fun i c u hc hu=>?_)⟩
    ·simp[execOp,hop,Instr.next,hv,hget,hsz,hlt']
    ·match i with
     |0=>simp at hc hu; subst hc; subst hu; exact .plain (.bool _)
     |n+1=>simp at hc
  ·cases h
 ·cases h
def Uf(hr:Rel j M w)(he:cE j M w bq a){t kt et:TypeId}{m k y:Operand}{m' k' y':gw}{fk:FK}(hop:o.op = .mapUpdate t m k y\/o.op = .insert t m k y)(ht:P.underlying t=some (.map kt et))
  (hk:De P kt=some fk) (hm':ew m=some m') (hk':ew k=some k') (hyr:gn j M w (y'.ev bq) (a.eval y)) (h:ei C bq M (.gD fk m' k' y')=some x):∃v w',rl P o a w v w'/\iH j M w x v w':=by
 simp only[ei] at h;have h0:=cU he hm';split at h
 ·rename_i id e;rw[e] at h0;split at h
  ·rename_i ks vs hM;obtain⟨r,hr',h⟩:=bu h;cases h;rw[eY] at hM;obtain⟨b,_,hj,hv⟩:=h0.vy;obtain⟨b',hj',es,clock,hb,g2,g3,g4,g5⟩:=hr.fix _ _ hM rfl;rw[hj] at hj'; cases hj';obtain⟨d,hd,hfk⟩:=E3 hk;have hc:∀q,(Instr.checkKey q 10000 kt (a.eval k)).run P w = .ok () w:=fun q=>Ev hfk hd q _
   obtain⟨kp,hf⟩:=HS hfk (cU he hk') (es:=es.toList) 0 hr' (by simpa using g2) (by simpa using g3) (fun i k e hk he=>g4 i k e hk (by simpa using he))
   have hset:∀ob,(setObj b ob).run P w = .ok () { w with heap:=w.heap.setIfInBounds b ob }:=fun ob=>MapKept.run_setObj_map ob hb
   rcases hf with ⟨rfl,f1⟩|⟨i,e',rfl,f3,f4,f1⟩
   ·obtain⟨r1,r2⟩:=GZ (ob := .map (es.push { key:=a.eval k,val:=a.eval y,born:=clock }) (clock+1)) (bx' := .map (ks++[k'.ev bq]) (vs++[y'.ev bq])) hr hM rfl rfl hj (fun vs t fr h=>by rw[hb] at h; cases h) fun j' M' w' hx hw=>by
     refine⟨_,_,hw,by simp[g2],by simp[g3],fun i k e hk he=>?_,fun i k e hk he=>?_⟩
     ·rw[fR] at he;rw[nN] at hk
      by_cases hi:i=es.size
      ·subst hi;simp[g2] at hk he;subst hk; subst he;exact kp.mono hx.im
      ·rw[aj hi] at he;have hi':i<es.size:=(fy.1 he).1;rw[av aM] at hk;exact(g4 i k e hk he).mono hx.im
     ·rw[fR] at he;rw[nN] at hk
      by_cases hi:i=es.size
      ·subst hi;simp[g3] at hk he;subst hk; subst he;exact hyr.mono hx
      ·rw[aj hi] at he;have hi':i<es.size:=(fy.1 he).1;rw[av aM] at hk;exact(g5 i k e hk he).mono hx
    refine⟨undef,{ w with heap:=w.heap.setIfInBounds b (.map (es.push { key:=a.eval k,val:=a.eval y,born:=clock }) (clock+1)) },.inr ⟨?_,rfl⟩,j,?_,?_,.any _⟩
    ·rcases hop with hop|hop<;>simp[execOp,hop,Instr.mapUpdate,dP ht,hv,MapKept.run_getObj_map hb,hc,Instr.findKey,dP hd,f1,hset]
    ·rw[fJ]; exact r1
    ·rw[fJ]; exact r2
   ·have hi:i<es.size:=by simpa using(au.1 f3).1
    have he':es[i]?=some e':=by simpa using f3
    obtain⟨r1,r2⟩:=GZ (ob := .map (es.modify i fun e=>{ e with key:=a.eval k,val:=a.eval y }) clock) (bx' := .map (ks.set i (k'.ev bq)) (vs.set i (y'.ev bq))) hr hM rfl rfl hj (fun vs t fr h=>by rw[hb] at h; cases h) fun j' M' w' hx hw=>by
     refine⟨_,_,hw,by simp[g2],by simp[g3],fun q k e hk he=>?_,fun q k e hk he=>?_⟩
     ·rw[ft] at he
      by_cases hq:i=q
      ·subst hq;simp[he'] at he;rw[eF aM] at hk;cases hk; subst he;exact kp.mono hx.im
      ·rw[aj hq] at he;rw[fF hq] at hk;exact(g4 q k e hk he).mono hx.im
     ·rw[ft] at he
      by_cases hq:i=q
      ·subst hq;simp[he'] at he;rw[eF aM] at hk;cases hk; subst he;exact hyr.mono hx
      ·rw[aj hq] at he;rw[fF hq] at hk;exact(g5 q k e hk he).mono hx
    refine⟨undef,{ w with heap:=w.heap.setIfInBounds b (.map (es.modify i fun e=>{ e with key:=a.eval k,val:=a.eval y }) clock) },.inr ⟨?_,rfl⟩,j,?_,?_,.any _⟩
    ·rcases hop with hop|hop<;>simp[execOp,hop,Instr.mapUpdate,dP ht,hv,MapKept.run_getObj_map hb,hc,Instr.findKey,dP hd,f1,hset,he',Instr.keyThatStays,f4]
    ·rw[fJ]; exact r1
    ·rw[fJ]; exact r2
  ·cases h
 ·cases h
end
def jM(xs:List ag):List ag:=xs.flatMap ag.cells
def oQ(x:ag)(xs:List ag):jM (x::xs)=x.cells++jM xs:=rfl
def oO(xs ys:List ag):jM (xs++ys)=jM xs++jM ys:=by simp[jM]
def iA{sz:Nat}:∀ {xs:List ag},wid xs sz->(jM xs).length=xs.length*sz
 | [],_=>by simp[jM]
 |x::xs,h=>by
  rw[oQ,aR,h x (aG ..),iA fun y hy=>h y (aP _ hy),aD,cg]
  omega
def nr{sz:Nat}{xs ys:List ag}(h1:wid xs sz)(h2:wid ys sz):wid (xs++ys) sz:=fun x hx=>(bC.1 hx).elim (h1 x) (h2 x)
def vJ{sz n:Nat}{xs:List ag}(h:wid xs sz):wid (xs.take n) sz:=fun x hx=>h x (cR hx)
def vH{sz n:Nat}{xs:List ag}(h:wid xs sz):wid (xs.drop n) sz:=fun x hx=>h x (dQ hx)
def rY{sz:Nat}:∀(n:Nat){xs:List ag},wid xs sz->jM (xs.take n)=(jM xs).take (n*sz)
 |0,_,_=>by simp[jM]
 |n+1,[],_=>by simp[jM]
 |n+1,x::xs,h=>by
  have hx:=h x (aG ..);have e:(n+1)*sz=sz+n*sz:=by rw[cg]; omega
  rw[oJ,oQ,oQ,rY n fun y hy=>h y (aP _ hy),List.take_append,hx,e,iM,bS (l:=x.cells) aM]
def uc{sz:Nat}:∀(n:Nat){xs:List ag},wid xs sz->jM (xs.drop n)=(jM xs).drop (n*sz)
 |0,_,_=>dk
 |n+1,[],_=>by simp[jM]
 |n+1,x::xs,h=>by
  have hx:=h x (aG ..);have e:(n+1)*sz=sz+n*sz:=by rw[cg]; omega
  rw[oG,oQ,uc n fun y hy=>h y (aP _ hy),List.drop_append,hx,e,iM,il (l:=x.cells) aM,bw]
theorem AH{sz:Nat}:∀ {xs:List ag},wid xs sz->∀ {q:Nat} {x:ag} {k:Nat} {c:ag},xs[q]?=some x->x.cells[k]?=some c->(jM xs)[q*sz+k]?=some c
 | [],_,q,x,k,c,hx,_=>kW
 |y::xs,h,0,x,k,c,hx,hk=>by
  simp at hx; subst hx;rw[oQ,jv,aN,bh (au.1 hk).1];omega
 |y::xs,h,q+1,x,k,c,hx,hk=>by
  have hy:=h y (aG ..);rw[oQ,bA (by rw[cg]; omega),hy]
  rw[show(q+1)*sz+k-sz=q*sz+k by rw[cg]; omega]
  exact AH (fun z hz=>h z (aP _ hz)) kW hk
theorem CZ{sz:Nat}{xs:List ag}(h:wid xs sz){p:Nat}{c:ag}(hp:(jM xs)[p]?=some c):∃q x k,xs[q]?=some x/\x.cells[k]?=some c/\p=q*sz+k:=by
 have cA:p<xs.length*sz:=by rw[<-iA h]; grind
 have hsz:0<sz:=by
  grind
 have hq:p / sz<xs.length:=by rw[kJ hsz]; omega
 have hk:p % sz<(xs[p / sz]).cells.length:=by rw[h _ (jf _)]; simp_all [lM]
 grind [Nat.mul_comm,Nat.div_add_mod,AH]
def RL(w:World)(im:Nat->Nat->Prop)(cs:List ag)(vs:List Value):Prop:=cs.length=vs.length/\∀(p:Nat)(c:ag)(v:Value),cs[p]?=some c->vs[p]?=some v->fK w im c v
section
variable {w w':World} {im saf':Nat->Nat->Prop} {cs ds:List ag} {us vs:List Value}
def RL.append(h:RL w im cs us)(k:RL w im ds vs):RL w im (cs++ds) (us++vs):=by
 refine⟨by simp[h.1,k.1],fun p c v hc hv=>?_⟩
 rcases bK p _ with hp|hp
 ·rw[bh hp] at hc;rw[bh (by rw[<-h.1]; omega)] at hv
  exact h.2 p c v hc hv
 ·rw[bA hp] at hc;rw[bA (by rw[<-h.1]; omega),<-h.1] at hv
  exact k.2 _ c v hc hv
theorem RL.take(n:Nat)(h:RL w im cs us):RL w im (cs.take n) (us.take n):=by
 refine⟨by simp[h.1],fun p c v hc hv=>?_⟩
 rw[gk] at hc hv;split at hc
 ·rename_i hp;rw[av hp] at hv;exact h.2 p c v hc hv
 grind
def RL.drop(n:Nat)(h:RL w im cs us):RL w im (cs.drop n) (us.drop n):=by
 refine⟨by simp[h.1],fun p c v hc hv=>?_⟩
 rw[cZ] at hc hv;exact h.2 _ c v hc hv
def RL.mono(hm:∀b off,im b off->saf' b off/\w'.cell? ⟨b,off,none⟩=w.cell? ⟨b,off,none⟩)(h:RL w im cs us):RL w' saf' cs us:=⟨h.1,fun p c v hc hv=>(h.2 p c v hc hv).mono hm⟩
end
section
variable {j:J} {M:aO} {w:World}
theorem xG{b sz:Nat}{xs:List ag}{vs:Array Value}(hl:xs.length*sz<=vs.size)(hwd:wid xs sz)
  (hc:∀(q:Nat)(x:ag)(k:Nat)(c:ag),xs[q]?=some x->x.cells[k]?=some c->∃v,vs[q*sz+k]?=some v/\fK w (ow j M w) c v):RL w (ow j M w) (jM xs) (vs.toList.take (xs.length*sz)):=by
 refine⟨by rw[iA hwd]; grind,fun p c v hp hv=>?_⟩
 obtain⟨q,x,k,h1,h2,rfl⟩:=CZ hwd hp
 grind
theorem ma{j':J}{M':aO}{w':World}{b sz:Nat}{t:TypeId}{xs:List ag}{us:List Value}{vs:Array Value}(hw:w'.heap[b]?=some (.cells vs t (0,0)))(hwd:wid xs sz)(hr:RL w' (ow j' M' w') (jM xs) us)
  (hv:∀p,p<us.length->vs[p]?=us[p]?):Eg j' M' w' b sz xs:=by
 have fx:us.length=xs.length*sz:=by rw[<-hr.1,iA hwd]
 refine⟨vs,t,hw,?_,hwd,fun q x k c hx hk=>?_⟩
 ·grind
 ·have h1:=AH hwd hx hk;have hp:q*sz+k<us.length:=by rw[<-hr.1]; grind
  exact⟨us[q*sz+k],by rw[hv _ hp,ai _],hr.2 _ _ _ h1 (ai _)⟩
theorem AK:∀(ids:List Nat){M:aO}{i:Nat}{bx:dg},M[i]?=some bx->(∀sz v xs,bx ≠ .arr sz v xs)->(vm M ids)[i]?=some bx
 | [],_,_,_,h,_=>h
 |a::r,M,i,bx,h,hn=>by
  simp[vm,eY];split
  ·refine AK r ?_ hn
   grind [fJ]
  ·exact AK r h hn
theorem Ch:∀(ids:List Nat){M:aO},Rel j M w->Ext j M w j (vm M ids) w/\Rel j (vm M ids) w/\(vm M ids).length=M.length/\∀id,id∈ids->∀sz v xs,M[id]?=some (.arr sz v xs)->(vm M ids)[id]?=some (.tick sz xs.length)
 | [],M,hr=>⟨.refl _ _ _,hr,rfl,fun id h=>by cases h⟩
 |a::r,M,hr=>by
  simp only[vm,eY];split
  ·rename_i sz v xs hM;rw[fJ];obtain⟨h1,h2,h3,h4⟩:=Ch r (Rel.freeze hM hr);refine⟨(Ext.freeze hM).trans h1,h2,by rw[h3]; simp,fun id hid sz' v' xs' hid'=>?_⟩
   grind [id,AK,dZ,aJ]
  ·obtain⟨h1,h2,h3,h4⟩:=Ch r hr
   grind
def gn.pG{M':aO}(hr:Rel j M w)(hx:Ext j M w j M' w)(hr':Rel j M' w)(hl:M'.length=M.length){x:ag}{v:Value}(h:gn j M w x v)(hf:∀id,id∈x.iz->∀sz v xs,M[id]?=some (.arr sz v xs)->M'[id]?=some (.tick sz xs.length)):gn j M' w (x.pG M) v:=by
 cases x<;>try exact h.mono hx
 rename_i id ver sz lo hi;simp[ag.pG,eY];split
 ·rename_i sz' v' xs hM;split
  ·rename_i hv;subst hv;obtain⟨_,hid,_,g⟩:=h.mQ;obtain⟨e1,l1,l2,⟨rfl,_,A,rfl⟩|⟨b,cap,vs,t,l3,l4,l5,l6,l7⟩⟩:=(g sz' v' xs hM).2 rfl
   ·simp;exact .plain (fK.nil _ _ _)
   subst e1;obtain⟨b',vs',t',k1,k2,k3,k4,k5⟩:=hr.yF hM l3;rw[l3] at k1; cases k1;rw[l4];refine .plain (xH k2 k4 k5 (fun b off hs=>(hx.im b off hs).1) (fun off ho=>⟨hr'.lt id b (by rw[hl]; exact aJ hM) l3,fun i hi hji=>?_,hr'.u9 id b aM l3 off⟩) l1 l2 l5)
   have  := hr'.inj i id b hi (by rw[hl]; exact aJ hM) hji l3
   subst this;exact⟨sz',xs.length,hf i (by simp[ag.iz]) _ _ _ hM,ho⟩
  ·exact .any _
 ·exact .any _
theorem gn.sZ{M':aO}(hr:Rel j M w)(hx:Ext j M w j M' w)(hr':Rel j M' w)(hl:M'.length=M.length){x:ag}{v:Value}(h:gn j M w x v)(hf:∀id,id∈x.ids->∀sz v xs,M[id]?=some (.arr sz v xs)->M'[id]?=some (.tick sz xs.length)):gn j M' w (x.sZ M) v:=by
 by_cases hag:∃cs,x = .agg cs
 ·obtain⟨cs,rfl⟩:=hag;obtain⟨vs,rfl,hl',hc⟩:=h.mM;refine .agg kW fun i c u hi hu=>?_
  rw[bb,aW] at hi;obtain⟨c0,hc0,rfl⟩:=hi;refine(hc i c0 u hc0 hu).pG hr hx hr' hl fun id hid=>hf _ ?_
  refine gv.2 ⟨c0,aU hc0,?_⟩;cases c0<;>first|exact hid|(simp[ag.iz] at hid)
 ·have:x.sZ M=x.pG M:=by cases x<;>first|rfl|grind
  rw[this];refine h.pG hr hx hr' hl fun id hid=>hf id ?_
  cases x<;>first|exact hid|exact absurd _ _|grind [ag.iz]
end
section
variable {P:Program} {C:eO} {o:Oper} {bq:Env} {M:aO} {j:J} {w:World} {a:Act} {x:ag×aO}
theorem rN(z:Array Value)(n:Nat):(Builtin.zeroCells z n).toList=(List.replicate n z.toList).flatten:=by
 induction n with
 |zero=>simp[Builtin.zeroCells]
 |succ n ih =>
  rw[nQ,List.flatten_append,<-ih];apply dA;intro i;simp only[Builtin.zeroCells,Array.toList_map,Array.toList_range,List.flatten_cons,List.flatten_nil,cu];rcases bK i (n*z.size) with h|h
  ·grind
  ·rw[bA kW];simp only[az,jB];rcases bK i ((n+1)*z.size) with h2|h2
   ·have h3:i-n*z.size<z.size:=by rw[cg] at h2; omega
    have h4:i % z.size=i-n*z.size:=by
     have:i=(i-n*z.size)+n*z.size:=aM;rw[this,Nat.add_mul_mod_self_right,Nat.mod_eq_of_lt h3]; omega
    rw[bb,eA h2];simp[h4,h3]
   grind
def NU(n:Nat)(zero:List ag):jM (List.replicate n (.agg zero))=(List.replicate n zero).flatten:=by
 induction n with
 |zero=>rfl
 |succ n ih=>rw[iZ,oQ,ih]; rfl
theorem PJ{im:Nat->Nat->Prop}(n:Nat){cs:List ag}{us:List Value}(h:RL w im cs us):RL w im (List.replicate n cs).flatten (List.replicate n us).flatten:=by
 induction n with
 |zero=>exact⟨rfl,fun p c v hc=>dk⟩
 |succ n ih=>exact h.append ih
theorem xF{id b sz ver ver':Nat}{xs xs':List ag}{vs vs':Array Value}{t:TypeId}{us:List Value}{w':World}(hr:Rel j M w)(hM:M[id]?=some (.arr sz ver xs))(hj:j id=some b)(q:Quiet w w')
  (hb:∀b',b'≠b->b'<w.heap.size->w'.heap[b']?=w.heap[b']?) (hw:w.heap[b]?=some (.cells vs t (0,0))) (hw':w'.heap[b]?=some (.cells vs' t (0,0))) (hs:vs'.size=vs.size)
  (hv:ver<=ver') (hl:ver'=ver->xs'.length=xs.length) (hwd:wid xs' sz) (hrl:RL w (ow j M w) (jM xs') us) (hus:∀p,p<us.length->vs'[p]?=us[p]?) :
  Rel j (M.set id (.arr sz ver' xs')) w'/\Ext j M w j (M.set id (.arr sz ver' xs')) w':=by
 have hwr:∀vs0 t1,w.heap[b]?=some (.cells vs0 t1 (0,0))->∃vs1,w'.heap[b]?=some (.cells vs1 t1 (0,0))/\vs1.size=vs0.size:=fun vs0 t1 h=>by
  grind
 exact⟨Rel.Ek hM hj hr q hb hwr hv hl fun j' M' hx=>ma hw' hwd (hrl.mono hx.im) hus,Ext.Ek hM hj hr q hb hwr hv hl⟩
theorem Cu{l:List ag}{vs:List Value}(hl:tn vs=some l)(hp:(l.map ag.shut).all ag.plainCell=true):RL w (ow j M w) (l.map ag.shut) vs/\∀v,v∈vs->v.oneCell'=true:=by
 obtain⟨h1,h2⟩:=qo (j:=j) (M:=M) (w:=w) hl;rw[List.all_map,bF] at hp;refine⟨⟨kW,fun p c v hc hv=>?_⟩,fun v hv=>?_⟩
 ·grind [z7,List.mem_of_getElem?]
 ·obtain⟨p,hp',rfl⟩:=jU hv;have hpl:p<l.length:=aM;exact CM (h2 p _ _ (ai hpl) (ai hp')) (BQ (hp _ (jf hpl)))
theorem OD(hr:Rel j M w)(he:cE j M w bq a){c:Call}{y:Operand}{z:gw}{t e:TypeId}{i:TypeInfo}{zv:Value}{l:List ag}(hop:o.op = .call c)(hb:c.callee = .builtin .clear)(ha:c.args.toList=[y])
  (ht:c.argTypes.toList=[t]) (hs:P.underlying t=some (.slice e)) (hi:P.info? e=some i) (hzv:i.zero=some zv) (hl:tn zv.cells.toList=some l) (hsz:l.length=i.size) (hz:ew y=some z)
  (h:ei C bq M (.w5 i.size (l.map ag.shut) z)=some x):∃v w',rl P o a w v w'/\iH j M w x v w':=by
 simp only[ei] at h;have h1:=cU he hz;have ha':c.args = #[y]:=by rw[<-ha]
 have ht':c.argTypes = #[t]:=by rw[<-ht]
 split at h
 ·rename_i tk xs ez;rw[ez] at h1;split at h
  ·cases h;obtain⟨A,cap,b,off,sz,vs,hv,_⟩:=h1.eb.eb;refine⟨.tuple #[],w,.inl ?_,.still hr (.any _)⟩;cases A<;>simp[execOp,hop,resolve,hb,invoke,builtin,Builtin.clear_,ha',ht',dP hs,hv]
  ·cases h
 ·rename_i id ver sz' lo hi' ez;rw[ez] at h1;rw[eY] at h;split at h
  ·rename_i sz0 v0 xs hM;split at h
   ·rename_i hc;obtain⟨c1,c2,c3,c4⟩:=hc;cases h;subst c1; subst c2;obtain⟨_,hid,_,g⟩:=h1.mQ;obtain⟨e1,l1,l2,⟨rfl,_,A,hA⟩|⟨b,cap,vs,t0,l3,l4,l5,l6,l7⟩⟩:=(g sz0 v0 xs hM).2 rfl
    ·have hlo:lo=0:=Nat.le_zero.1 (bg l1 l2);have hhi:hi'=0:=Nat.le_zero.1 l2;subst hlo; subst hhi;refine⟨.tuple #[],w,.inl ?_,?_⟩
     ·cases A<;>simp[execOp,hop,resolve,hb,invoke,builtin,Builtin.clear_,ha',ht',dP hs,hA]
     ·rw[fJ]
      have he:M.set id (.arr sz0 v0 (List.take 0 ([]:List ag)++(List.replicate (0-0) (ag.agg (l.map ag.shut))++List.drop 0 [])))=M:=by
       apply dA
       grind
      rw[he];exact .still hr (.any _)
    subst e1;obtain⟨b',vs',t',k1,k2,k3,k4,k5⟩:=hr.yF hM l3;rw[l3] at k1; cases k1;rw[l6] at k2; injection k2 with k2; injection k2 with k2 k2'
    subst k2; subst k2';obtain⟨p1,p2⟩:=Cu (j:=j) (M:=M) (w:=w) hl c4;have hzl:zv.cells.toList.length=i.size:=by rw[<-p1.1]; simpa using hsz
    have fx:(List.replicate (hi'-lo) zv.cells.toList).flatten.length=(hi'-lo)*i.size:=by simp[List.length_flatten,List.map_replicate,List.sum_replicate_nat,hzl]
    have hbd:lo*i.size+(hi'-lo)*i.size<=xs.length*i.size:=by rw[<-cg]; exact bd _ aM
    have hfit:lo*i.size+(List.replicate (hi'-lo) zv.cells.toList).flatten.length<=vs.size:=by rw[fx]; omega
    have hone:∀v,v∈(List.replicate (hi'-lo) zv.cells.toList).flatten->v.oneCell'=true:=fun v hv=>by
     obtain⟨r,hr1,hr2⟩:=List.mem_flatten.1 hv;rw[lI hr1] at hr2;exact p2 v hr2
    have hrun:=nq (P:=P) (List.replicate (hi'-lo) zv.cells.toList).flatten w (lo*i.size) 0 vs l6 aM hone;obtain⟨s1,s2,s3,s4,s5,vs',s6,s7,s8,s9⟩:=lU (List.replicate (hi'-lo) zv.cells.toList).flatten w (lo*i.size) vs l6 hfit;have hrow:=xG (b:=b) k3 k4 k5;have hwz:wid (List.replicate (hi'-lo) (ag.agg (l.map ag.shut))) i.size:=fun x hx=>by rw[lI hx]; simpa[ag.cells] using hsz
    have iC:RL w (ow j M w) (jM (xs.take lo++(List.replicate (hi'-lo) (ag.agg (l.map ag.shut))++xs.drop hi'))) ((vs.toList.take (xs.length*i.size)).take (lo*i.size)++((List.replicate (hi'-lo) zv.cells.toList).flatten++(vs.toList.take (xs.length*i.size)).drop (hi'*i.size))):=by
     rw[oO,oO,rY lo k4,uc hi' k4,NU];exact(hrow.take _).append ((PJ _ p1).append (hrow.drop _))
    have hhi:lo*i.size+(hi'-lo)*i.size=hi'*i.size:=by rw[<-cg,dn l1]
    have hput:=xF (ver':=v0) (xs':=xs.take lo++(List.replicate (hi'-lo) (ag.agg (l.map ag.shut))++xs.drop hi')) hr hM l3 (w':=pf w b (lo*i.size) (List.replicate (hi'-lo) zv.cells.toList).flatten) ⟨aM,s2,s3,s4⟩ (fun b' hb' _=>s5 b' hb') l6 s6 s7 (ak _)
     (fun _=>ic) (nr (vJ k4) (nr hwz (vH k4))) iC (fun p hp=>by
      have hp':p<xs.length*i.size:=by
       rw[<-iC.1,iA (nr (vJ k4) (nr hwz (vH k4)))] at hp;have:(xs.take lo++(List.replicate (hi'-lo) (ag.agg (l.map ag.shut))++xs.drop hi')).length=xs.length:=ic;rwa[this] at hp
      have htk:(List.take (lo*i.size) (vs.toList.take (xs.length*i.size))).length=lo*i.size:=ic;rcases bK p (lo*i.size) with q1|q1
      ·rw[s8 p (.inl q1),bh (by rw[htk]; omega),bM q1,bM hp']; simp
      ·rw[bA (by rw[htk]; exact q1),htk]
       rcases bK p (hi'*i.size) with q2|q2
       ·rw[bh (by rw[fx]; omega)]
        have:=s9 (p-lo*i.size) (by rw[fx]; omega)
        rw[dn q1] at this;exact this
       ·rw[bA (by rw[fx]; omega),s8 p (.inr (by rw[fx]; omega)),cZ,fx,show hi'*i.size+(p-lo*i.size-(hi'-lo)*i.size)=p by omega,bM hp']; simp)
    rw[fJ];rcases eL (hi'-lo) with h0|h0
    ·refine⟨.tuple #[],pf w b (lo*i.size) (List.replicate (hi'-lo) zv.cells.toList).flatten,.inl ?_,j,hput.1,hput.2,.any _⟩;rw[h0] at l4;simp[execOp,hop,resolve,hb,invoke,builtin,Builtin.clear_,ha',ht',dP hs,l4,h0,pf]
    ·refine⟨.tuple #[],pf w b (lo*i.size) (List.replicate (hi'-lo) zv.cells.toList).flatten,.inl ?_,j,hput.1,hput.2,.any _⟩;obtain⟨m,hm⟩:∃m,hi'-lo=m+1:=⟨hi'-lo-1,aM⟩;simp only[dq] at hrun;rw[<-rN,hm] at hrun;rw[hm] at l4;rw[<-rN,hm];simp[execOp,hop,resolve,hb,invoke,builtin,Builtin.clear_,ha',ht',dP hs,l4,zeroValue,pM hi,hzv,hrun]
   ·cases h
  ·cases h
 ·cases h
end
def fK.xn{j:J}{M:aO}{w:World}{x:ag}{v:Value}(h:gn j M w x v)(hp:x.plainCell=true):fK w (ow j M w) x v:=by
 cases x with
 |slice tk xs=>cases tk with
  |sh=>exact h.eb
  |c0=>cases hp
  |own k=>cases hp
 |bool b=>cases h with|plain h=>exact h
 |int k n=>cases h with|plain h=>exact h
 |str s=>cases h with|plain h=>exact h
 |raw v=>cases h with|plain h=>exact h
 |agg _=>cases hp
 |tuple _=>cases hp
 |ptr _ _=>cases hp
 |ju _=>cases hp
 |func _ _=>cases hp
 |gJ _=>cases hp
 |jI _=>cases hp
 |iB _ _=>cases hp
 |cY _ _ _ _ _=>cases hp
 |iI _ _ _ _=>cases hp
 |rP _ _=>cases hp
 |oU _=>cases hp
 |jX _ _ _=>cases hp
 |any=>cases hp
def BZ.xn{j:J}{M:aO}{w:World}{x:ag}{v:Value}(h:gn j M w x v)(hp:x.plain=true):BZ w (ow j M w) x v:=by
 by_cases hag:∃cs,x = .agg cs
 ·obtain⟨cs,rfl⟩:=hag;obtain⟨us,h1,h2,h3⟩:=h.mM;refine⟨us,h1,h2,fun i c u hc hu => .xn (h3 i c u hc hu) ?_⟩
  simp only[ag.plain,bF] at hp;exact hp c (aU hc)
 ·have e1:x.plain=x.plainCell:=by cases x<;>first|rfl|exact absurd ⟨_,rfl⟩ hag
  have:=fK.xn h (e1▸hp);cases x<;>first|exact absurd ⟨_,rfl⟩ hag|exact this
def O1{j:J}{M:aO}{w:World}{x:ag}{v:Value}(h:gn j M w x v):gn j M w x.gj v:=by
 have hs:∀ {x:ag} {v:Value},gn j M w x v->gn j M w x.shut v:=fun {x v} h=>by
  cases x<;>first|exact h|exact .plain h.eb
 by_cases hag:∃cs,x = .agg cs
 ·obtain⟨cs,rfl⟩:=hag;obtain⟨us,rfl,h2,h3⟩:=h.mM;refine .agg (by simpa using h2) fun i c u hc hu=>?_
  rw[bb,aW] at hc;obtain⟨c0,hc0,rfl⟩:=hc;exact hs (h3 i c0 u hc0 hu)
 ·cases x<;>first|exact absurd ⟨_,rfl⟩ hag|exact h|exact .plain h.eb
section
variable {P:Program} {C:eO} {o:Oper} {bq:Env} {M:aO} {j:J} {w:World} {a:Act} {x:ag×aO}
def TY(hr:Rel j M w)(he:cE j M w bq a){f:Nat}{first caps:Array Operand}{zs:List gw}(hop:o.op = .makeFunc (.func f) first caps)(hf:caps.isEmpty=true)(hz:vg first.toList=some zs)
  (h:ei C bq M (.Ep f zs)=some x):∃v w',rl P o a w v w'/\iH j M w x v w':=by
 simp only[ei] at h;split at h
 ·rename_i hp;cases h;obtain⟨h1,h2⟩:=uv he hz;have hf':caps = #[]:=by simpa using hf
  refine⟨.func (.func f) (first.map a.eval) #[],w,.inl ?_,.still hr (.rP (by simpa using h1) fun i c v hc hv=>?_)⟩
  ·simp[execOp,hop,Instr.makeFunc,hf']
  ·have hpc:=bF.1 hp c (aU hc);rw[bb,aW] at hc;obtain⟨y,hy,rfl⟩:=hc;rw[iy,aW] at hv;obtain⟨z,hz',rfl⟩:=hv;exact .xn (O1 (h2 i y z hy (by simpa using hz'))) hpc
 ·cases h
def OH(hr:Rel j M w)(he:cE j M w bq a){y i:Operand}{z z':gw}{t e:TypeId}{len n:Nat}(hop:o.op = .indexAddr t y i)(ht:P.underlying t=some (.array len e))(hn:qg P e=some n)
  (hz:ew y=some z) (hz':ew i=some z') (h:ei C bq M (.AP len n z z')=some x):∃v w',rl P o a w v w'/\iH j M w x v w':=by
 simp only[ei] at h;have h1:=cU he hz;have h2:=cU he hz';split at h
 ·rename_i cs k m ez ez';obtain⟨⟨h0,hm,hle⟩,h⟩:=dw h;cases h;rw[ez] at h1;rw[ez'] at h2;obtain⟨b,off,vs,hv,hc⟩:=h1.uw;refine⟨.pointer (some ⟨b,off+m.toNat*n,none⟩),w,.inl ?_,.still hr (.ju (vs:=fun q=>vs (m.toNat*n+q)) fun q c hq=>?_)⟩
  ·simp[execOp,hop,Instr.indexAt,dP ht,hv,h2.fS,asIntOf,h0,hm,jd hn,lz,Instr.sureAddr]
  ·rw[cZ] at hq;have h3:=hc _ c hq;rw[Nat.add_assoc];exact h3
 ·rename_i id off k m ez ez';obtain⟨⟨h0,hm⟩,h⟩:=dw h;cases h;rw[ez] at h1;rw[ez'] at h2;obtain⟨b,h3,h4,h5,hv⟩:=h1.pV;refine⟨.pointer (some ⟨b,off+m.toNat*n,none⟩),w,.inl ?_,.still hr (.ptr h3 h4 h5)⟩;simp[execOp,hop,Instr.indexAt,dP ht,hv,h2.fS,asIntOf,h0,hm,jd hn,lz,Instr.sureAddr]
 ·cases h
def OO(hr:Rel j M w){id q sz:Nat}{cs:List ag}(hM:M[id]?=some (.cells cs))(hc:cs[q]?=some (.slice .c0 [])) :
  ∃j',Rel j' (M.set id (.cells (cs.set q (.slice (.own M.length) [])))++[.tick sz 0]) w/\Ext j M w j' (M.set id (.cells (cs.set q (.slice (.own M.length) [])))++[.tick sz 0]) w:=by
 have q0:Quiet w w:=⟨ak _,rfl,rfl,rfl⟩;have hr1:Rel (gD j M.length none) (M++[.tick sz 0]) w:=hr.push (ob:=none) (fun b h=>by cases h) q0 (fun _ _=>rfl) (fun h=>by cases h) (fun sz n b h h'=>by cases h')
 have hx1:Ext j M w (gD j M.length none) (M++[.tick sz 0]) w:=Ext.push (fun b h=>by cases h) q0 (fun _ _=>rfl)
 have hid:=aJ hM;have hM1:(M++[dg.tick sz 0])[id]?=some (.cells cs):=by rw[xD hid]; exact hM
 obtain⟨b,vs,t,hj,hw,hl,hcs⟩:=hr.box id cs hM;have hj1:gD j M.length none id=some b:=by simp[gD,gA hid,hj]
 have hset:M.set id (dg.cells (cs.set q (.slice (.own M.length) [])))++[dg.tick sz 0]=(M++[dg.tick sz 0]).set id (dg.cells (cs.set q (.slice (.own M.length) []))):=by rw[List.set_append_left _ _ hid]
 rw[hset];have hh:∀j' M',Ext (gD j M.length none) (M++[.tick sz 0]) w j' M' w->Holds j' M' w b (.cells (cs.set q (.slice (.own M.length) []))):=fun j' M' hx=>⟨vs,t,hw,by simpa using hl,fun p c v hc' hv=>gn.mono hx ?_⟩
 ·exact⟨_,Rel.store hM1 rfl rfl hj1 hr1 q0 (fun _ _ _=>rfl) (fun vs t fr h=>⟨vs,fr,h,rfl⟩) hh,hx1.trans (Ext.store hM1 rfl rfl hj1 hr1 q0 (fun _ _ _=>rfl) (fun vs t fr h=>⟨vs,fr,h,rfl⟩))⟩
 ·by_cases hp:q=p
  ·subst hp;rw[eF (aJ hc)] at hc';cases hc';have h1:=hcs q _ v hc hv
   obtain⟨A,hA⟩:∃A,v = .slice A 0 0:=by
    cases h1 with
    |plain h=>cases h
    |c0 A=>exact⟨A,rfl⟩
   rw[hA];exact .own (sz:=sz) (n:=0) dk dk (fK.nil _ _ _) fun _ => .inl ⟨by simp[gD],rfl,A,rfl⟩
  ·rw[fF hp] at hc';exact gn.mono hx1 (hcs p c v hc' hv)
def K6(hr:Rel j M w){id q sz:Nat}{cs:List ag}(hM:M[id]?=some (.cells cs))(hc:cs[q]?=some (.slice .c0 [])) :
  ∃j',Rel j' (M.set id (.cells (cs.set q (.cY M.length 0 sz 0 0)))++[.arr sz 0 []]) w/\Ext j M w j' (M.set id (.cells (cs.set q (.cY M.length 0 sz 0 0)))++[.arr sz 0 []]) w:=by
 have q0:Quiet w w:=⟨ak _,rfl,rfl,rfl⟩;have hr1:Rel (gD j M.length none) (M++[.arr sz 0 []]) w:=hr.push (ob:=none) (bx := .arr sz 0 []) (fun b h=>by cases h) q0 (fun _ _=>rfl) (fun h=>by cases h) (fun sz n b h h'=>by cases h') (fun sz ver xs h=>by injection h with e1 e2 e3; exact .inl ⟨e3.symm,rfl⟩)
 have hx1:Ext j M w (gD j M.length none) (M++[.arr sz 0 []]) w:=Ext.push (fun b h=>by cases h) q0 (fun _ _=>rfl)
 have hid:=aJ hM;have hM1:(M++[dg.arr sz 0 []])[id]?=some (.cells cs):=by rw[xD hid]; exact hM
 obtain⟨b,vs,t,hj,hw,hl,hcs⟩:=hr.box id cs hM;have hj1:gD j M.length none id=some b:=by simp[gD,gA hid,hj]
 have hset:M.set id (dg.cells (cs.set q (.cY M.length 0 sz 0 0)))++[dg.arr sz 0 []]=(M++[dg.arr sz 0 []]).set id (dg.cells (cs.set q (.cY M.length 0 sz 0 0))):=by rw[List.set_append_left _ _ hid]
 rw[hset];have hh:∀j' M',Ext (gD j M.length none) (M++[.arr sz 0 []]) w j' M' w->Holds j' M' w b (.cells (cs.set q (.cY M.length 0 sz 0 0))):=fun j' M' hx=>⟨vs,t,hw,by simpa using hl,fun p c v hc' hv=>gn.mono hx ?_⟩
 ·exact⟨_,Rel.store hM1 rfl rfl hj1 hr1 q0 (fun _ _ _=>rfl) (fun vs t fr h=>⟨vs,fr,h,rfl⟩) hh,hx1.trans (Ext.store hM1 rfl rfl hj1 hr1 q0 (fun _ _ _=>rfl) (fun vs t fr h=>⟨vs,fr,h,rfl⟩))⟩
 ·by_cases hp:q=p
  ·subst hp;rw[eF (aJ hc)] at hc';cases hc';have h1:=hcs q _ v hc hv
   obtain⟨A,hA⟩:∃A,v = .slice A 0 0:=by
    cases h1 with
    |plain h=>cases h
    |c0 A=>exact⟨A,rfl⟩
   rw[hA];refine .cY (.inr ⟨rfl,A,rfl⟩) dk (fun bx hbx=>by rw[kd] at hbx; cases hbx; rfl) fun sz' v' zs hx=>?_
   rw[kd] at hx; injection hx with hx; injection hx with e1 e2 e3
   subst e1; subst e2; subst e3;exact⟨ak _,fun _=>⟨rfl,ak _,ak _,.inl ⟨rfl,by simp[gD],A,rfl⟩⟩⟩
  ·rw[fF hp] at hc';exact gn.mono hx1 (hcs p c v hc' hv)
def Jp{cs new:List ag}{off p:Nat}{x:ag}(h:off+new.length<=cs.length)(hp:p<new.length):mq cs off (new.set p x)=(mq cs off new).set (off+p) x:=by
 apply dA;intro i;rw[rk (by simpa using h)]
 by_cases hi:off+p=i
 ·subst hi;rw[eF (by rw[uQ h]; omega),av ic,show off+p-off=p by omega,eF hp]
 ·rw[fF hi,rk h];simp only[eD];split
  ·rename_i hc;rw[fF aM]
  ·rfl
def OL(hr:Rel j M w)(he:cE j M w bq a){y y':Operand}{z z':gw}{t:TypeId}{n sz p:Nat}(hop:o.op = .store t y y')(hn:qg P t=some n)(hz:ew y=some z)(hz':ew y'=some z')
  (h:ei C bq M (.Bk sz p n z z')=some x):∃v w',rl P o a w v w'/\iH j M w x v w':=by
 simp only[ei] at h;split at h
 ·rename_i id off e;split at h
  ·rename_i cs hM;obtain⟨new,iC,h⟩:=bu h;split at h
   ·rename_i hp;split at h
    ·rename_i hcond;cases h
     have hs:ei C bq M (.store n z z')=some (.any,jY M id (.cells (mq cs off new))):=by
      simp only[ei,e,hM,iC,cq];rw[av hcond]
     obtain⟨v,w',h1,j',h2,h3,h4⟩:=DA hr he hop hn hz hz' hs;rw[eY] at hM hp;have cA:=aJ hM;have hpl:=aJ hp;have hle:off+new.length<=cs.length:=aM;rw[fJ] at h2 h3 h4;have hM2:(M.set id (.cells (mq cs off new)))[id]?=some (.cells (mq cs off new)):=dZ cA
     have hc2:(mq cs off new)[off+p]?=some (.slice .c0 []):=by
      rw[rk hle,av aM,show off+p-off=p by omega]
      exact hp
     rw[fJ,fJ,Jp hle hpl];unfold vz wi;split
     ·obtain⟨j'',k1,k2⟩:=K6 (sz:=sz-500) h2 hM2 hc2;rw[List.set_set,eD] at k1 k2;exact⟨v,w',h1,j'',k1,h3.trans k2,.any _⟩
     ·obtain⟨j'',k1,k2⟩:=OO (sz:=sz) h2 hM2 hc2;rw[List.set_set,eD] at k1 k2;exact⟨v,w',h1,j'',k1,h3.trans k2,.any _⟩
    ·cases h
   ·cases h
  ·cases h
 ·cases h
end
section
variable {P:Program} {C:eO} {o:Oper} {bq:Env} {M:aO} {x:ag×aO} {j:J} {w:World} {a:Act}
def Xy(hr:Rel j M w)(he:cE j M w bq a){t e:TypeId}{len:Nat}{parts:Array (Nat×Operand)}{i:TypeInfo}(hop:o.op = .buildSlice t len parts)(ht:P.underlying t=some (.slice e))
  (hi:P.info? e=some i) (hzs:Gk 0 parts.toList=some []) (fx:0=len) (hroom:len*i.size<=2 ^ 24) (hzero:(i.zero.map fun z=>z.cells.size)=some i.size)
  (h:ei C bq M (.own (500+i.size) (.kj (.slice .c0 [])))=some x):∃v w',rl P o a w v w'/\iH j M w x v w':=by
 subst fx;simp only[ei,gw.ev] at h;cases h;obtain⟨hll,hwd,cells',hcs,hrun,hel⟩:=AW (w:=w) he hop ht hi hzs rfl hroom hzero (l:=[]) rfl;obtain⟨q,hb,iC⟩:=o7 (w:=w) (.cells cells' e (0,0));refine⟨_,_,.inl hrun,gD j M.length none,?_⟩;unfold vz wi;rw[av (nF _ _),av (nF _ _)];refine⟨hr.push (ob:=none) (fun b h=>by cases h) q hb (fun h=>by cases h) (fun sz n b h h'=>by cases h') (fun sz ver xs h=>by injection h with e1 e2 e3; exact .inl ⟨e3.symm,rfl⟩),Ext.push (fun b h=>by cases h) q hb,?_⟩
 refine .cY (.inr ⟨rfl,_,rfl⟩) dk (fun bx hbx=>by rw[kd] at hbx; cases hbx; rfl) fun sz' v' zs hx=>?_
 rw[kd] at hx; injection hx with hx; injection hx with e1 e2 e3
 subst e1; subst e2; subst e3;exact⟨ak _,fun _=>⟨rfl,ak _,ak _,.inl ⟨rfl,by simp[gD],_,rfl⟩⟩⟩
end
section
variable {P:Program} {C:eO} {o:Oper} {bq:Env} {M:aO} {j:J} {w:World} {a:Act} {x:ag×aO}
def Pd{x:ag}{u v:Value}(h:valOf x=some u)(hr:gn j M w x v):v=u:=by
 unfold valOf at h;split at h
 ·cases h; exact hr.fS
 ·rename_i k n;cases h;obtain⟨vs,rfl,hl,hc⟩:=hr.mM;have hs:vs.size=1:=by simpa using hl.symm
  have h0:vs[0]?=some (vs[0]'(by omega)):=bf aM
  have h1:=(hc 0 _ _ rfl h0).fS;congr 1;apply Array.ext
  ·simpa using hs
  ·intro i h2 h3;have:i=0:=aM;subst this;simpa using h1
 ·cases h
def gn.MP{u v:Value}(h:gn j M w (.raw u) v):v=u:=by cases h with|plain h=>cases h; rfl
def T6(hr:Rel j M w)(he:cE j M w bq a){t:TypeId}{y:Operand}{z:gw}{d:TypeDesc}(hop:o.op = .makeInterface t y)(hu:P.underlying t=some d)(hd:∀m,d ≠ .interface m)(hz:ew y=some z)
  (h:ei C bq M (.iface t z)=some x):∃v w',rl P o a w v w'/\iH j M w x v w':=by
 simp only[ei] at h;have h1:=cU he hz;split at h
 ·rename_i id off e;cases h;rw[e] at h1;obtain⟨b,_,hc,hj,hy⟩:=h1.pV;refine⟨_,w,.inl ?_,.still hr (.jX hc hj)⟩;simp only[execOp,hop,Instr.makeInterface,hy];cases d<;>first|exact absurd rfl (hd _)|simp[dP hu]
 obtain⟨v,hv,h⟩:=bu h;cases h;have hy:=Pd hv h1;refine⟨.iface t v,w,.inl ?_,.still hr (.plain (.raw _ rfl))⟩;simp only[execOp,hop,Instr.makeInterface,hy];cases d<;>first|exact absurd rfl (hd _)|simp[dP hu]
def Ue(hr:Rel j M w)(he:cE j M w bq a){y:Operand}{z:gw}(hop:o.op = .panic y)(hz:ew y=some z)(h:ei C bq M (.raise z)=some x) :
  ∃u,(execOp a.eval o).run P w = .halt (.panic u) w/\Hj j M w x u w:=by
 simp only[ei] at h;have h1:=cU he hz;split at h
 ·rename_i v e;split at h
  ·rename_i t u;cases h;rw[e] at h1;refine⟨.iface t u,?_,rfl,j,hr,Ext.refl j M w⟩;have:a.eval y = .iface t u:=h1.MP;simp[execOp,hop,Instr.panic,this]
  ·cases h
 ·cases h
end
section
variable {P:Program} {C:eO} {o:Oper} {bq:Env} {M:aO} {j:J} {w:World} {a:Act} {x:ag×aO}
def Ug(he:cE j M w bq a){y:Operand}{z:gw}(hz:PY y=some z):gn j M w (z.ev bq) (a.eval y):=by
 unfold PY at hz;split at hz
 ·cases hz;exact .plain (.raw _ rfl)
 ·exact cU he hz
def Qs{n:Nat}(he:cE j M w bq a):∀ {parts:List (Nat×Operand)} {ps:List (Nat×Nat×gw)} {cs cs':List ag} {cells:Array Value},
  xJ n parts=some ps->lO bq cs ps=some cs'->RC j M w cs cells ->
  ∃cells',Instr.fill (fun i=>some (i*n,n)) cells (parts.map fun p=>(p.1,a.eval p.2))=some cells'/\RC j M w cs' cells':=by
 intro parts;induction parts with
 |nil =>
  intro ps cs cs' cells h1 h2 h3;simp[xJ] at h1; subst h1;simp[lO] at h2; subst h2;exact⟨cells,rfl,h3⟩
 |cons p r ih =>
  intro ps cs cs' cells h1 h2 h3;obtain⟨i,y⟩:=p;simp only[xJ] at h1;obtain⟨z,hz,h1⟩:=bc h1;obtain⟨l,hl,h1⟩:=bc h1;cases h1;simp only[lO] at h2;obtain⟨new,iC,h2⟩:=bu h2;split at h2
  ·rename_i hc;obtain⟨c1,c2⟩:=hc;have hrc:=tJ (cU he hz) iC;obtain⟨cells',e1,e2⟩:=ih hl h2 (h3.write (off:=i*n) hrc aM);refine⟨cells',?_,e2⟩;have hs1:=hrc.1;have hs2:=h3.1;simp only[a8,Instr.fill];rw[aj ic];exact e1
  ·cases h2
def OC(hr:Rel j M w)(he:cE j M w bq a){t e:TypeId}{len n:Nat}{parts:Array (Nat×Operand)}{i:TypeInfo}{zv:Value}{l:List ag}{ps:List (Nat×Nat×gw)}(hop:o.op = .build t parts)
  (ht:P.underlying t=some (.array len e)) (hi:P.info? t=some i) (hzv:i.zero=some zv) (hl:tn zv.cells.toList=some l) (hn:qg P e=some n) (hps:xJ n parts.toList=some ps)
  (h:ei C bq M (.build l ps)=some x):∃v w',rl P o a w v w'/\iH j M w x v w':=by
 simp only[ei] at h;obtain⟨cs,hcs,h⟩:=bu h;cases h;obtain⟨h1,h2⟩:=qo (j:=j) (M:=M) (w:=w) hl;obtain⟨cells',e1,e2⟩:=Qs (n:=n) he hps hcs (cells:=zv.cells) ⟨by simpa using h1,fun i c v hc hv=>h2 i c v hc (by simpa using hv)⟩
 refine⟨.agg cells',w,.inl ?_,.still hr (.agg e2.1 e2.2)⟩;have e1':Instr.fill (fun i=>some (i*n,n)) zv.cells (parts.map fun p=>(p.1,a.eval p.2)).toList=some cells':=by simpa using e1
 simp only[execOp,hop,Instr.build,zeroValue,Sem.run_bind,pM hi,Result.andThen_ok,hzv,Sem.run_pure,dP ht,jd hn];simp only[e1',Sem.run_pure,Result.andThen_ok]
def Kh{a b:ag}{r:Bool}(h:iq .i a b=some r):∃k x y,a = .int k x/\b = .int k y/\r=(x==y):=by
 cases a<;>cases b<;>first
  |(simp only[iq] at h
    split at h
    ·rename_i hk; subst hk; injection h with h; exact⟨_,_,_,rfl,rfl,h.symm⟩
    ·cases h)
  |cases h
def BB{d:Nat}{e:TypeId}{k0:IntKind}(hk:P.underlying e=some (.int k0))(hc1:P.cellsOf e=1){cs ds:List ag}{us vs:Array Value}(hc:RC j M w cs us)(hd:RC j M w ds vs):∀(n k:Nat){r:Bool},lK (List.replicate n .i) (cs.drop k) (ds.drop k)=some r ->
  (Op.eqItems (d+1) e (P.cellsOf e) us vs (List.range' k n)).run P w = .ok r w
 |0,k,r,h2=>by
  unfold lK at h2;split at h2<;>simp_all [Op.eqItems]
 |n+1,k,r,h2=>by
  have hk1:k<cs.length:=by
   rcases bK k cs.length with h|h
   ·exact h
   ·rw[jc h,iZ] at h2; simp[lK] at h2
  have hk2:k<ds.length:=by
   rcases bK k ds.length with h|h
   ·exact h
   ·rw[jc h,cN hk1,iZ] at h2;simp[lK] at h2
  rw[cN hk1,cN hk2,iZ] at h2;simp only[lK] at h2;obtain⟨e1,he1,h2⟩:=bu h2;obtain⟨e2,he2,h2⟩:=bu h2;cases h2;have hlu:k<us.size:=by have:=hc.1; omega
  have hlv:k<vs.size:=by have:=hd.1; omega
  have hu:=bf hlu;have hv:=bf hlv;have ih:=BB (d:=d) hk hc1 hc hd n (k+1) he2;have hr1:=hc.2 k _ _ (ai hk1) hu;have hr2:=hd.2 k _ _ (ai hk2) hv;have hag:B1 P e=some false:=by simp[B1,hk]
  have p1:(part e us (k*P.cellsOf e)).run P w = .ok us[k] w:=by simp[part,lf hag,hc1,hu]
  have p2:(part e vs (k*P.cellsOf e)).run P w = .ok vs[k] w:=by simp[part,lf hag,hc1,hv]
  have p3:(Op.equalIn (d+1) e us[k] vs[k]).run P w = .ok e1 w:=by
   obtain⟨kk,x,y,e3,e4,rfl⟩:=Kh he1;rw[e3] at hr1; rw[e4] at hr2;rw[hr1.fS,hr2.fS];exact run_equalIn_int w d e _ _ x y hk
  rw[List.range'_succ];simp only[Op.eqItems,Sem.run_bind,p1,p2,p3,Result.andThen_ok];cases e1
  ·simp
  ·simpa using ih
def T2(hr:Rel j M w)(he:cE j M w bq a){y y':Operand}{z z':gw}{t t' e:TypeId}{len:Nat}{k0:IntKind}(hop:o.op = .binOp .eql t y y' t')(ht:P.underlying t=some (.array len e))(hk:P.underlying e=some (.int k0))(hs:qg P e=some 1)
  (hz:ew y=some z) (hz':ew y'=some z') (h:ei C bq M (.VP (List.replicate len .i) false z z')=some x):∃v w',rl P o a w v w'/\iH j M w x v w':=by
 simp only[ei] at h;have h1:=cU he hz;have h2:=cU he hz';split at h
 ·rename_i cs ds ez ez';obtain⟨r,hee,h⟩:=bu h;cases h;rw[ez] at h1;rw[ez'] at h2;obtain⟨us,hus,hul,huc⟩:=h1.mM;obtain⟨vs,hvs,hvl,hvc⟩:=h2.mM;obtain⟨inf,hinf,hsz⟩:=DT hs;have hc1:P.cellsOf e=1:=by simp[Program.cellsOf,hinf,hsz]
  have heq:(Op.equal t (.agg us) (.agg vs)).run P w = .ok r w:=by
   unfold Op.equal;rw[show Op.maxDepth=9998+1+1 from rfl,run_equalIn_array w (9998+1) us vs ht hinf,nP]
   exact BB (d:=9998) hk hc1 ⟨hul,huc⟩ ⟨hvl,hvc⟩ len 0 (by simpa using hee)
  have hgt:P.eqGuardType P.depth t=false:=by
   unfold Program.depth;rw[show 2*(P.types.size+Made.depth)+2=(2*(P.types.size+Made.depth))+1+1 from rfl,Program.eqGuardType,ht]
   simp only[Program.eqGuardType,hk]
  have hguard:∀op,(eqGuard op t y y' (.agg us) (.agg vs)).run P w = .ok () w:=by
   intro op;unfold eqGuard;cases op<;>simp[hgt]
  exact⟨.bool r,w,.inl (by simp[execOp,hop,hus,hvs,hguard,binOp,heq]),.still hr (.plain (.bool _))⟩
 ·cases h
def ur{l:List ag}(hp:0<l.length)(h1:l.all ag.plainCell=true):(ag.agg l).norm.cells=l:=by
 match l with
 | []=>simp at hp
 | [c] =>
  simp only[ku,List.all_nil,fW] at h1
  show c.cells=[c]
  cases c<;>first|rfl|cases h1
 |_::_::_=>rfl
def TH(z:Array Value)(n k:Nat)(h:k<n)(hz:0<z.size):(madeCells z n)[k]?=z[k % z.size]?:=by
 have hm:k % z.size<z.size:=lM _ hz;rw[bf hm];simp[madeCells,h,hm]
def Nf(w:World)(im:Nat->Nat->Prop){v:Value}{c:ag}(h:JJ v=some c):fK w im c.shut v:=by
 unfold JJ at h
 split at h<;>first
  |(cases h; first|exact .bool _|exact .int _ _|exact .str _|exact .raw _ rfl|exact fK.nil _ _ _)
  |cases h
def Hl:∀ {vs:List Value} {l:List ag},tn vs=some l->∀(i:Nat)(c:ag)(v:Value),l[i]?=some c->vs[i]?=some v->JJ v=some c
 | [],l,h,i,c,v,h1,h2=>by simp at h2
 |u::r,l,h,i,c,v,h1,h2=>by
  simp only[tn] at h;obtain⟨x,hx,h⟩:=bc h;obtain⟨l',hl,h⟩:=bc h;cases h;cases i with
  |zero=>simp at h1 h2; subst h1; subst h2; exact hx
  |succ i=>exact Hl hl i c v (by simpa using h1) (by simpa using h2)
def Mv{t e:TypeId}{i:TypeInfo}{zv:Value}{l:List ag}{y:Operand}{k:Int}{kk:IntKind}(hop:o.op = .makeSlice t y y)(ht:P.underlying t=some (.slice e))(hi:P.info? e=some i)(hzv:i.zero=some zv)
  (hl:tn zv.cells.toList=some l) (c1:l.length=i.size) (c2:0<i.size) (c3:i.bytes<=32*i.size) (hev:a.eval y = .int kk k) (h0:0<=k) (hroom:dY k.toNat (8*(l.map ag.shut).length)) (hpl:(l.map ag.shut).all ag.plainCell=true) :
  ∃row:Array Value,(execOp a.eval o).run P w = .ok (.value (.slice (some ⟨w.heap.size,0,none⟩) k.toNat k.toNat)) (w.alloc (.cells row e))/\row.size=k.toNat*i.size /\
   ∀im (w':World) (q:Nat) (x:ag) (p:Nat) (c:ag),(List.replicate k.toNat (ag.agg (l.map ag.shut)).norm)[q]?=some x->x.cells[p]?=some c->∃v,row[q*i.size+p]?=some v/\fK w' im c v:=by
 have hls:(l.map ag.shut).length=i.size:=by simpa using c1
 have hzs:zv.cells.size=i.size:=by
  have:=(qo (j:=⟨fun _=>none,fun _ _=>False⟩) (M:=[]) (w:=w) hl).1
  simp at this; omega
 unfold dY at hroom;rw[hls] at hroom
 have hb:i.bytes*k.toNat<=2 ^ 46:=by
  have h1:=bd k.toNat c3;have h2:32*i.size*k.toNat=4*(k.toNat*(8*i.size)):=by rw[show(32:Nat)=4*8 from rfl,Nat.mul_assoc 4 8,Nat.mul_assoc 4,Nat.mul_comm (8*i.size)]
  omega
 have hk44:k.toNat<=2 ^ 44:=bg (fA _ aM) hroom
 have hrun:=run_make (P:=P) w t e i zv ht hi hzv kk kk k k h0 (cJ _) (by
  have:((i.bytes*k.toNat:Nat):Int)<=2 ^ 46:=by exact_mod_cast hb
  rw[Int.natCast_mul,oD h0] at this;omega) aM
 refine⟨madeCells zv.cells (k.toNat*i.size),by simp[execOp,hop,hev,hrun],size_madeCells _ _,fun im w' q x p c hx hc=>?_⟩
 rw[jT] at hx;split at hx
 ·rename_i hq;cases hx;rw[ur aM hpl] at hc;have hp:p<i.size:=by rw[<-hls]; exact aJ hc
  have cA:q*i.size+p<k.toNat*i.size:=by
   have:(q+1)*i.size<=k.toNat*i.size:=bd _ hq;rw[cg,fM] at this;omega
  rw[TH _ _ _ cA aM,hzs,Nat.add_comm,Nat.add_mul_mod_self_right,Nat.mod_eq_of_lt hp];rw[bb,aW] at hc;obtain⟨c0,hc0,rfl⟩:=hc;have hpz:p<zv.cells.size:=aM;have hv:=bf hpz;refine⟨_,hv,?_⟩;exact Nf w' im (Hl hl p c0 _ hc0 dk)
 ·cases hx
def Ub(hr:Rel j M w)(he:cE j M w bq a){t e:TypeId}{i:TypeInfo}{zv:Value}{l:List ag}{y:Operand}{z:gw}(hop:o.op = .makeSlice t y y)(ht:P.underlying t=some (.slice e))(hi:P.info? e=some i)(hzv:i.zero=some zv)
  (hl:tn zv.cells.toList=some l) (hz:ew y=some z) (c1:l.length=i.size) (c2:0<i.size) (c3:i.bytes<=32*i.size) (h:ei C bq M (.mkS (l.map ag.shut) z)=some x):∃v w',rl P o a w v w'/\iH j M w x v w':=by
 simp only[ei] at h;have h1:=cU he hz;split at h
 ·rename_i kk k ek;obtain⟨⟨h0,hroom,hpl⟩,h⟩:=dw h;cases h;rw[ek] at h1;obtain⟨row,hrun,hsz,hel⟩:=Mv (w:=w) hop ht hi hzv hl c1 c2 c3 h1.fS h0 hroom hpl;have hls:(l.map ag.shut).length=i.size:=by simpa using c1
  obtain⟨q,hb,iC⟩:=o7 (w:=w) (.cells row e (0,0));refine⟨_,{ w with heap:=w.heap.push (.cells row e (0,0)) },.inl hrun,?_⟩
  have ext:Ext j M w j M { w with heap:=w.heap.push (.cells row e (0,0)) }:=Ext.grow q.size rfl rfl rfl hb
  have rel:Rel j M { w with heap:=w.heap.push (.cells row e (0,0)) }:=hr.grow q.size rfl rfl rfl hb
  refine⟨j,rel,ext,.plain (.slice _ _ _ _ w.heap.size 0 i.size (fun p=>(row[p]?).getD undef) dk (ak _) (fun _=>rfl) (fun x hx=>?_) (fun n y k c hn hk=>?_) (fun n y k c hn hk=>?_))⟩
  ·obtain⟨_,rfl⟩:=List.mem_replicate.1 hx;rw[ur aM hpl,hls]
  ·obtain⟨u,hu,_⟩:=hel (ow j M { w with heap:=w.heap.push (.cells row e (0,0)) }) { w with heap:=w.heap.push (.cells row e (0,0)) } n y k c hn hk
   refine⟨?_,dk,fun id hid hj=>?_,fun hx=>absurd (hr.Ah _ _ hx) (ja _)⟩
   ·simp only[World.cell?,iC,aN,hu];rfl
   ·have:=hr.lt id _ hid hj;omega
  ·obtain⟨u,hu,hru⟩:=hel (ow j M { w with heap:=w.heap.push (.cells row e (0,0)) }) { w with heap:=w.heap.push (.cells row e (0,0)) } n y k c hn hk
   rw[hu];exact hru
 ·cases h
def Xx(hr:Rel j M w)(he:cE j M w bq a){t e:TypeId}{i:TypeInfo}{zv:Value}{l:List ag}{y:Operand}{z:gw}(hop:o.op = .makeSlice t y y)(ht:P.underlying t=some (.slice e))(hi:P.info? e=some i)(hzv:i.zero=some zv)
  (hl:tn zv.cells.toList=some l) (hz:ew y=some z) (c1:l.length=i.size) (c2:0<i.size) (c3:i.bytes<=32*i.size) (h:ei C bq M (.Oy (l.map ag.shut) z)=some x):∃v w',rl P o a w v w'/\iH j M w x v w':=by
 simp only[ei] at h;have h1:=cU he hz;split at h
 ·rename_i kk k ek;obtain⟨⟨h0,hroom,hpl⟩,h⟩:=dw h;cases h;rw[ek] at h1;obtain⟨row,hrun,hsz,hel⟩:=Mv (w:=w) hop ht hi hzv hl c1 c2 c3 h1.fS h0 hroom hpl;have hls:(l.map ag.shut).length=i.size:=by simpa using c1
  rw[hls];obtain⟨q,hb,iC⟩:=o7 (w:=w) (.cells row e (0,0));have hob:∀b,some w.heap.size=some b->w.heap.size<=b/\b<({ w with heap:=w.heap.push (.cells row e (0,0)) }:World).heap.size:=fun b h=>by cases h; simp
  have ext:Ext j M w (gD j M.length (some w.heap.size)) (M++[.arr i.size 0 (List.replicate k.toNat (ag.agg (l.map ag.shut)).norm)]) { w with heap:=w.heap.push (.cells row e (0,0)) }:=Ext.push (fun b hb=>(hob b hb).1) q hb
  refine⟨_,{ w with heap:=w.heap.push (.cells row e (0,0)) },.inl hrun,gD j M.length (some w.heap.size),hr.push hob q hb (fun h=>by cases h) (fun sz n b h _=>by cases h) (fun sz0 v0 xs0 he=>?_),ext,?_⟩
  ·injection he with e1 e2 e3
   subst e1; subst e2; subst e3;refine .inr ⟨w.heap.size,row,e,rfl,iC,by simp[hsz],fun x hx=>?_,fun j' M' hx q0 x p c hq hp=>hel (ow j' M' { w with heap:=w.heap.push (.cells row e (0,0)) }) { w with heap:=w.heap.push (.cells row e (0,0)) } q0 x p c hq hp⟩
   obtain⟨_,rfl⟩:=List.mem_replicate.1 hx;rw[ur aM hpl,hls]
  ·refine .cY (.inl ⟨_,_,_,by rw[cd],aM⟩) dk (fun bx hbx=>by rw[kd] at hbx; cases hbx; rfl) fun sz' v' ys hx=>?_
   rw[kd] at hx; injection hx with hx; injection hx with e1 e2 e3
   subst e1; subst e2; subst e3;exact⟨ak _,fun _=>⟨rfl,ct _,dk,.inr ⟨w.heap.size,k.toNat,row,e,by simp[gD],dk,aM,iC,by rw[aN]; omega⟩⟩⟩
 ·cases h
end
section
variable {j:J} {M:aO} {w w':World}
def Ext.uS{k b' sz ver ver':Nat}{xs xs':List ag}(hM:M[k]?=some (.arr sz ver xs))(q:Quiet w w')(hb:∀b,b<w.heap.size->w'.heap[b]?=w.heap[b]?)(hf:w.heap.size<=b')(hn:ver<ver') :
  Ext j M w (gD j k (some b')) (M.set k (.arr sz ver' xs')) w' where
 len:=dk
 size:=q.size
 os:=q.os
 tape:=q.tape
 output:=q.output
 X:=rfl
 fix:=fun i b0 h hf=>by
  have e:k≠i:=by rintro rfl; rw[hM] at h; cases h; cases hf
  exact⟨by simp[gD,dM e],b0,by rw[cT e]; exact h,rfl⟩
 tick:=fun i sz0 n0 h=>by
  have e:k≠i:=by rintro rfl; rw[hM] at h; cases h
  exact⟨n0,ak _,by rw[cT e]; exact h,fun _=>⟨by simp[gD,dM e],fun b vs0 t0 _ hv=>⟨vs0,(hb b (lt_of_block hv)).trans hv,rfl⟩⟩⟩
 arr:=fun i sz0 v0 xs0 h=>by
  by_cases e:k=i
  ·subst e;rw[hM] at h;injection h with h; injection h with h1 h2 h3
   subst h1; subst h2; subst h3;exact .inr ⟨ver',xs',dZ (aJ hM),aM,fun he=>aM⟩
  ·exact .inr ⟨v0,xs0,by rw[cT e]; exact h,ak _,fun _=>⟨by simp[gD,dM e],rfl,fun b vs0 t0 _ hv=>⟨vs0,(hb b (lt_of_block hv)).trans hv,rfl⟩⟩⟩
 tags:=fun b0 vs0 t0 fr0 h=>⟨vs0,fr0,(hb b0 (lt_of_block h)).trans h,rfl⟩
 im:=fun b0 off h=>by
  refine⟨⟨bz h.1 q.size,fun i hi hji=>?_,h.3⟩,World.cell?_of_block (w:=w) (hb b0 h.1)⟩
  have e:k≠i:=by
   rintro rfl;have:b'=b0:=by simpa[gD] using hji
   have:=h.1;omega
  rw[cT e];exact h.2 i (by simpa using hi) (by simpa[gD,dM e] using hji)
 uL:=fun b0 cA h=>by
  refine⟨hb b0 cA,fun i hi hji=>?_⟩
  by_cases e:i=k
  ·have:b'=b0:=by simpa[gD,e] using hji
   omega
  ·exact h i (by simpa using hi) (by simpa[gD,e] using hji)
def Rel.uS{k b' sz ver ver':Nat}{xs xs':List ag}(hM:M[k]?=some (.arr sz ver xs))(hr:Rel j M w)(q:Quiet w w')(hb:∀b,b<w.heap.size->w'.heap[b]?=w.heap[b]?)
  (hf:w.heap.size<=b') (cA:b'<w'.heap.size) (hn:ver<ver') (hh:∀j' M',Ext j M w j' M' w'->Eg j' M' w' b' sz xs'):Rel (gD j k (some b')) (M.set k (.arr sz ver' xs')) w':=by
 have ext:Ext j M w (gD j k (some b')) (M.set k (.arr sz ver' xs')) w':=Ext.uS hM q hb hf hn;refine⟨fun i i' b0 hi hi' h h'=>?_,fun i b0 hi h=>?_,fun i bx0 h hf=>?_,fun i sz0 n0 b0 h hji=>?_,fun i sz0 v0 xs0 h=>?_,fun i b0 hi h off hx=>?_,fun b0 off h=>bz (hr.Ah b0 off h) q.size⟩
 ·simp only[eD] at hi hi'
  by_cases e:i=k<;>by_cases e':i'=k
  ·omega
  ·have h1:b'=b0:=by simpa[gD,e] using h
   have:=hr.lt i' b0 hi' (by simpa[gD,e'] using h')
   omega
  ·have h1:b'=b0:=by simpa[gD,e'] using h'
   have:=hr.lt i b0 hi (by simpa[gD,e] using h)
   omega
  ·exact hr.inj i i' b0 hi hi' (by simpa[gD,e] using h) (by simpa[gD,e'] using h')
 ·simp only[eD] at hi
  by_cases e:i=k
  ·have h1:b'=b0:=by simpa[gD,e] using h
   subst h1;exact cA
  ·exact bz (hr.lt i b0 hi (by simpa[gD,e] using h)) q.size
 ·have e:k≠i:=by rintro rfl; rw[dZ (aJ hM)] at h; cases h; cases hf
  rw[cT e] at h;obtain⟨b0,h1,h2⟩:=hr.fix i bx0 h hf;exact⟨b0,by simpa[gD,dM e] using h1,h2.mono ext (hb b0 (hr.lt i b0 (aJ h) h1))⟩
 ·have e:k≠i:=by rintro rfl; rw[dZ (aJ hM)] at h; cases h
  rw[cT e] at h;obtain⟨vs0,t0,h1⟩:=hr.tick i sz0 n0 b0 h (by simpa[gD,dM e] using hji)
  exact⟨vs0,t0,(hb b0 (lt_of_block h1)).trans h1⟩
 ·by_cases e:k=i
  ·subst e;rw[dZ (aJ hM)] at h;injection h with h; injection h with e1 e2 e3
   subst e1; subst e2; subst e3;obtain⟨vs,t,g⟩:=hh _ _ ext;exact .inr ⟨b',vs,t,by simp[gD],g⟩
  ·rw[cT e] at h;exact qp hr ext h (by simp[gD,dM e]) fun b0 h1=>hb b0 (hr.lt i b0 (aJ h) h1)
 ·by_cases e:i=k
  ·have h1:b'=b0:=by simpa[gD,e] using h
   have h2:=hr.Ah b0 off hx;omega
  ·exact hr.u9 i b0 (by simpa using hi) (by simpa[gD,e] using h) off hx
def nY{im:Nat->Nat->Prop}{xs:List ag}{v:Value}{size:Nat}(hx:fK w im (.slice .sh xs) v)(hw:wid xs size):∃A cap,v = .slice A xs.length cap/\xs.length<=cap /\
  (xs=[]\/∃b off,A=some ⟨b,off,none⟩/\∃us:List Value,RL w im (jM xs) us/\us.length=xs.length*size/\(∀u,u∈us->u.oneCell'=true)/\∀p u,us[p]?=some u->w.cell? ⟨b,off+p,none⟩=some u/\im b (off+p)):=by
 cases hx with
 |slice _ A len cap b off sz vs hl hc ha hz hs hr =>
  subst hl;refine⟨A,cap,rfl,hc,?_⟩;rcases fV xs with h0|⟨_,_,h0⟩
  ·exact .inl h0
  ·have hne:xs≠[]:=by rw[h0]; simp
   have hsz:sz=size:=by
    obtain⟨x,r,hxr⟩:=fz hne;have hm:x∈xs:=by rw[hxr]; exact aG ..
    rw[<-hz x hm,hw x hm]
   subst hsz;have fx:((List.range (xs.length*sz)).map vs).length=xs.length*sz:=dk
   have hrl:RL w im (jM xs) ((List.range (xs.length*sz)).map vs):=by
    refine⟨by rw[iA hw,fx],fun p c v hc hv=>?_⟩
    obtain⟨q,x,k,h1,h2,rfl⟩:=CZ hw hc;have cA:q*sz+k<xs.length*sz:=by rw[<-iA hw]; exact aJ hc
    rw[bb,eA cA] at hv;simp only[cW] at hv;cases hv;exact hr q x k c h1 h2
   refine .inr ⟨b,off,ha hne,_,hrl,fx,fun u hu=>?_,fun p u hu=>?_⟩
   ·obtain⟨p,hp⟩:=bX hu;have hp':p<(jM xs).length:=by rw[hrl.1]; exact aJ hp
    exact fK.one (hrl.2 p _ u (ai hp') hp)
   ·have hp':p<(jM xs).length:=by rw[hrl.1]; exact aJ hu
    obtain⟨q,x,k,h1,h2,rfl⟩:=CZ hw (ai hp');have cA:q*sz+k<xs.length*sz:=by rw[<-iA hw]; exact hp'
    rw[bb,eA cA] at hu;simp only[cW] at hu;cases hu;exact hs q x k _ h1 h2
end
end
end Go.Abs
