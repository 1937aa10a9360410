import Derived.KernelRfl
import Derived.Laws.Strings
import Derived.Laws.StructEq
import Derived.MapKept
import Derived.Laws.IdiomStrings
import Derived.Laws.MakeOwn
import Derived.ChangeKeysEq
import Derived.Test.YtcbopkblmebjiaaGreatDoorFduA
set_option linter.unusedSimpArgs false
set_option linter.unusedVariables false
set_option linter.unusedSectionVars false
set_option linter.defProp false
open Go.Proofs.Tryz
set_option linter.defProp false
set_option maxRecDepth 100000
namespace Go.Proofs.YtcbopkblmebjiaaGreatDoor
open Go Go.Abs
def abc:Ko [] f12:=by apply Subtype.mk; cbv
def b12:=abc.1
def afY:=eP.mk 1 [.tmp 2] (sub b12 0)
def abA:Ko [] f37:=by apply Subtype.mk; cbv
def b37:=abA.1
def Ns:=eP.mk 2 [.fD 4 4,.fD 5 7] (sub b37 0)
def abz:Ko [] f36:=by apply Subtype.mk; cbv
def b36:=abz.1
def DJ:=eP.mk 2 [.fD 4 4,.fD 5 7] (sub b36 0)
def abe:Ko [] f14:=by apply Subtype.mk; cbv
def b14:=abe.1
def af0:=eP.mk 2 [.fD 4 4] (sub b14 0)
def alR:Ko [] f32:=by apply Subtype.mk; cbv
def b32:=alR.1
def akM:=eP.mk 1 [.tmp 2] (sub b32 0)
def Zi:cv :=
 (.seq (.region [
 ob 0 (.mv (.lg (.bool false)))] false [0]) (.ret))
def Zj:cv :=
 (.seq (.region [
 ob 83 (.kC 1 (.tmp 2)),
 ob 84 (.js (.tmp 83)),
 ob 85 (.bin .eql (.tmp 84) (.lg (.int .i64 2))),
 ob 86 (.mv (.tmp 85)),
 og 87 86 true (.kC 1 (.tmp 3)),
 og 88 86 true (.js (.tmp 87)),
 og 89 86 true (.bin .eql (.tmp 88) (.lg (.int .i64 3))),
 ob 90 (.pick (.tmp 86) (.tmp 89) (.lg (.bool false))),
 ob 91 (.mv (.tmp 90)),
 og 92 91 true (.mv (.tmp 4)),
 og 93 91 true (.bin .eql (.tmp 92) (.lg (.int .i64 0))),
 ob 94 (.pick (.tmp 91) (.tmp 93) (.lg (.bool false))),
 ob 95 (.mv (.tmp 94)),
 og 96 95 true (.kC 1 (.tmp 5)),
 og 97 95 true (.js (.tmp 96)),
 og 98 95 true (.bin .eql (.tmp 97) (.lg (.int .i64 4))),
 ob 99 (.pick (.tmp 95) (.tmp 98) (.lg (.bool false))),
 ob 100 (.mv (.tmp 99)),
 og 101 100 true (.kC 0 (.tmp 7)),
 og 102 100 true (.js (.tmp 101)),
 og 103 100 true (.bin .eql (.tmp 102) (.lg (.int .i64 91))),
 ob 104 (.pick (.tmp 100) (.tmp 103) (.lg (.bool false))),
 ob 105 (.mv (.tmp 104)),
 og 106 105 true (.kC 0 (.tmp 9)),
 og 107 105 true (.js (.tmp 106)),
 og 108 105 true (.bin .eql (.tmp 107) (.lg (.int .i64 180))),
 ob 109 (.pick (.tmp 105) (.tmp 108) (.lg (.bool false))),
 ob 110 (.mv (.tmp 109)),
 og 111 110 true (.kC 1 (.tmp 11)),
 og 112 110 true (.js (.tmp 111)),
 og 113 110 true (.bin .eql (.tmp 112) (.lg (.int .i64 4))),
 ob 114 (.pick (.tmp 110) (.tmp 113) (.lg (.bool false))),
 ob 115 (.mv (.tmp 114)),
 og 116 115 true (.mv (.tmp 13)),
 og 117 115 true (.bin .eql (.tmp 116) (.lg (.int .i64 73))),
 ob 118 (.pick (.tmp 115) (.tmp 117) (.lg (.bool false))),
 ob 119 (.mv (.tmp 118)),
 og 120 119 true (.mv (.tmp 15)),
 og 121 119 true (.bin .eql (.tmp 120) (.lg (.int .i64 0))),
 ob 122 (.pick (.tmp 119) (.tmp 121) (.lg (.bool false))),
 ob 123 (.mv (.tmp 122)),
 og 124 123 true (.kC 1 (.tmp 1)),
 og 125 123 true (.js (.tmp 124)),
 og 126 123 true (.vQ 2 (.tmp 125) (.lg (.int .i64 0))),
 og 127 123 true (.kC 0 (.tmp 126)),
 og 128 123 true (.js (.tmp 127)),
 og 129 123 true (.bin .eql (.tmp 128) (.lg (.int .i64 1))),
 ob 130 (.pick (.tmp 123) (.tmp 129) (.lg (.bool false))),
 ob 131 (.mv (.tmp 130)),
 og 132 131 true (.kC 1 (.tmp 1)),
 og 133 131 true (.js (.tmp 132)),
 og 134 131 true (.vQ 2 (.tmp 133) (.lg (.int .i64 0))),
 og 135 131 true (.kC 1 (.tmp 134)),
 og 136 131 true (.js (.tmp 135)),
 og 137 131 true (.Al (.tmp 136)),
 og 138 131 true (.bin .eql (.tmp 137) (.lg (.int .i64 2))),
 ob 139 (.pick (.tmp 131) (.tmp 138) (.lg (.bool false))),
 ob 140 (.mv (.tmp 139)),
 og 141 140 true (.kC 1 (.tmp 1)),
 og 142 140 true (.js (.tmp 141)),
 og 143 140 true (.vQ 2 (.tmp 142) (.lg (.int .i64 1))),
 og 144 140 true (.kC 1 (.tmp 143)),
 og 145 140 true (.js (.tmp 144)),
 og 146 140 true (.Al (.tmp 145)),
 og 147 140 true (.bin .eql (.tmp 146) (.lg (.int .i64 2))),
 ob 148 (.pick (.tmp 140) (.tmp 147) (.lg (.bool false))),
 ob 149 (.mv (.tmp 148)),
 og 150 149 true (.kC 1 (.tmp 10)),
 og 151 149 true (.js (.tmp 150)),
 og 152 149 true (.vQ 2 (.tmp 151) (.lg (.int .i64 0))),
 og 153 149 true (.kC 1 (.tmp 152)),
 og 154 149 true (.js (.tmp 153)),
 og 155 149 true (.Al (.tmp 154)),
 og 156 149 true (.bin .eql (.tmp 155) (.lg (.int .i64 3))),
 ob 157 (.pick (.tmp 149) (.tmp 156) (.lg (.bool false))),
 ob 158 (.mv (.tmp 157)),
 og 159 158 true (.nz 4 (.tmp 1)),
 og 160 158 true (.build [(.int .i64 0),(.int .i64 0),(.str []),(.str []),(.int .i64 0),(.int .i64 0),(.int .i64 0),(.slice .c0 [])] [(0,1,(.lg (.int .i64 1))),(2,1,(.lg (.str [47,97,47,102])))]),
 ⟨(some 161),.call 21 [(.tmp 159),(.tmp 160)],(some (158,true)),false,false,[],false⟩,
 og 162 158 true (.lits 1 [(.lg (.int .i64 1)),(.lg (.int .i64 5))]),
 og 163 158 true (.call 38 [(.tmp 161),(.tmp 162)]),
 ob 164 (.pick (.tmp 158) (.tmp 163) (.lg (.bool false))),
 ob 165 (.mv (.tmp 164)),
 og 166 165 true (.nz 4 (.tmp 1)),
 og 167 165 true (.call 31 [(.tmp 166)]),
 ob 168 (.pick (.tmp 165) (.tmp 167) (.lg (.bool false))),
 ob 169 (.mv (.tmp 168)),
 og 170 169 true (.build [(.slice .c0 []),(.slice .c0 []),(.int .i64 0),(.int .i64 0)] []),
 og 171 169 true (.call 31 [(.tmp 170)]),
 og 172 169 true (.not (.tmp 171)),
 ob 173 (.pick (.tmp 169) (.tmp 172) (.lg (.bool false))),
 ob 174 (.mv (.tmp 173)),
 og 175 174 true (.nz 4 (.tmp 1)),
 ⟨(some 176),.call 17 [(.tmp 175)],(some (174,true)),true,false,[],false⟩,
 og 177 174 true (.nz 4 (.tmp 14)),
 og 178 174 true (.call 17 [(.tmp 177)]),
 og 179 174 true (.call 20 [(.tmp 176),(.tmp 178)]),
 ob 180 (.pick (.tmp 174) (.tmp 179) (.lg (.bool false))),
 ob 181 (.mv (.tmp 180)),
 og 182 181 true (.nz 4 (.tmp 1)),
 og 183 181 true (.nz 4 (.tmp 14)),
 og 184 181 true (.call 30 [(.tmp 182),(.tmp 183)]),
 og 185 181 true (.not (.tmp 184)),
 ob 186 (.pick (.tmp 181) (.tmp 185) (.lg (.bool false))),
 ob 0 (.mv (.tmp 186))] true [0]) (.ret))
def Zk:cv :=
 (.seq (.seq (.region [
 ob 67 (.kC 1 (.tmp 1)),
 ob 68 (.js (.tmp 67)),
 ob 69 (.Al (.tmp 68)),
 ob 70 (.bin .neq (.tmp 69) (.lg (.int .i64 2))),
 ob 71 (.mv (.tmp 70)),
 og 72 71 false (.kC 1 (.tmp 10)),
 og 73 71 false (.js (.tmp 72)),
 og 74 71 false (.Al (.tmp 73)),
 og 75 71 false (.bin .neq (.tmp 74) (.lg (.int .i64 2))),
 ob 76 (.pick (.tmp 71) (.lg (.bool true)) (.tmp 75)),
 ob 77 (.mv (.tmp 76)),
 og 78 77 false (.kC 1 (.tmp 14)),
 og 79 77 false (.js (.tmp 78)),
 og 80 77 false (.Al (.tmp 79)),
 og 81 77 false (.bin .neq (.tmp 80) (.lg (.int .i64 1))),
 ob 82 (.pick (.tmp 77) (.lg (.bool true)) (.tmp 81))] false [1,2,3,4,5,7,9,10,11,13,14,15,82]) (.cond (.tmp 82) Zi (.skip))) Zj)
def Zl:cv :=
 (.seq (.region [
 ob 63 (.nz 4 (.tmp 1)),
 ob 64 (.call 43 [(.tmp 63),(.lg (.str [47,97]))]),
 ob 62 (.mv (.tmp 64)),
 ob 65 (.extract (.tmp 62) 0),
 ob 66 (.extract (.tmp 62) 1),
 ob 14 (.sO [(.slice .c0 []),(.slice .c0 []),(.int .i64 0),(.int .i64 0)]),
 ox (.store 4 (.tmp 14) (.tmp 65)),
 ob 15 (.mv (.tmp 66))] false [1,2,3,4,5,7,9,10,11,13,14,15]) Zk)
def Zm:cv :=
 (.seq (.region [
 ob 58 (.nz 4 (.tmp 1)),
 ob 59 (.call 42 [(.tmp 58),(.lg (.str [47,97,47,102])),(.lg (.int .i64 2))]),
 ob 57 (.mv (.tmp 59)),
 ob 60 (.extract (.tmp 57) 0),
 ob 61 (.extract (.tmp 57) 1),
 ob 12 (.sO [(.slice .c0 []),(.slice .c0 []),(.int .i64 0),(.int .i64 0)]),
 ox (.store 4 (.tmp 12) (.tmp 60)),
 ob 13 (.mv (.tmp 61))] false [1,2,3,4,5,7,9,10,11,13]) Zl)
def Zn:cv :=
 (.seq (.region [
 ob 52 (.nz 4 (.tmp 1)),
 ob 53 (.build [(.int .i64 0),(.int .i64 0),(.str []),(.str []),(.int .i64 0),(.int .i64 0),(.int .i64 0),(.slice .c0 [])] [(0,1,(.lg (.int .i64 5))),(2,1,(.lg (.str [47,97,47,102]))),(3,1,(.lg (.str [47,98,47,102])))]),
 ob 54 (.call 15 [(.tmp 52),(.tmp 53)]),
 ob 51 (.mv (.tmp 54)),
 ob 55 (.extract (.tmp 51) 0),
 ob 56 (.extract (.tmp 51) 1),
 ob 10 (.sO [(.slice .c0 []),(.slice .c0 []),(.int .i64 0),(.int .i64 0)]),
 ob 11 (.sO [(.int .i64 0),(.int .i64 0),(.int .i64 0),(.int .i64 0),(.int .i64 0),(.slice .c0 []),(.slice .c0 [])]),
 ox (.store 4 (.tmp 10) (.tmp 55)),
 ox (.store 7 (.tmp 11) (.tmp 56))] false [1,2,3,4,5,7,9,10,11]) Zm)
def Zo:cv :=
 (.seq (.region [
 ob 46 (.nz 4 (.tmp 1)),
 ob 47 (.build [(.int .i64 0),(.int .i64 0),(.str []),(.str []),(.int .i64 0),(.int .i64 0),(.int .i64 0),(.slice .c0 [])] [(0,1,(.lg (.int .i64 5))),(2,1,(.lg (.str [47,97]))),(3,1,(.lg (.str [47,99])))]),
 ob 48 (.call 15 [(.tmp 46),(.tmp 47)]),
 ob 45 (.mv (.tmp 48)),
 ob 49 (.extract (.tmp 45) 0),
 ob 50 (.extract (.tmp 45) 1),
 ob 8 (.sO [(.slice .c0 []),(.slice .c0 []),(.int .i64 0),(.int .i64 0)]),
 ob 9 (.sO [(.int .i64 0),(.int .i64 0),(.int .i64 0),(.int .i64 0),(.int .i64 0),(.slice .c0 []),(.slice .c0 [])]),
 ox (.store 4 (.tmp 8) (.tmp 49)),
 ox (.store 7 (.tmp 9) (.tmp 50))] false [1,2,3,4,5,7,9]) Zn)
def Zp:cv :=
 (.seq (.region [
 ob 40 (.nz 4 (.tmp 1)),
 ob 41 (.build [(.int .i64 0),(.int .i64 0),(.str []),(.str []),(.int .i64 0),(.int .i64 0),(.int .i64 0),(.slice .c0 [])] [(0,1,(.lg (.int .i64 3))),(2,1,(.lg (.str [47,97,47,102]))),(3,1,(.lg (.str [47,103])))]),
 ob 42 (.call 15 [(.tmp 40),(.tmp 41)]),
 ob 39 (.mv (.tmp 42)),
 ob 43 (.extract (.tmp 39) 0),
 ob 44 (.extract (.tmp 39) 1),
 ob 6 (.sO [(.slice .c0 []),(.slice .c0 []),(.int .i64 0),(.int .i64 0)]),
 ob 7 (.sO [(.int .i64 0),(.int .i64 0),(.int .i64 0),(.int .i64 0),(.int .i64 0),(.slice .c0 []),(.slice .c0 [])]),
 ox (.store 4 (.tmp 6) (.tmp 43)),
 ox (.store 7 (.tmp 7) (.tmp 44))] false [1,2,3,4,5,7]) Zo)
def Zq:cv :=
 (.seq (.region [
 ob 34 (.nz 4 (.tmp 1)),
 ob 35 (.build [(.int .i64 0),(.int .i64 0),(.str []),(.str []),(.int .i64 0),(.int .i64 0),(.int .i64 0),(.slice .c0 [])] [(0,1,(.lg (.int .i64 2))),(2,1,(.lg (.str [47,97,47,102]))),(4,1,(.lg (.int .i64 1)))]),
 ob 36 (.call 15 [(.tmp 34),(.tmp 35)]),
 ob 33 (.mv (.tmp 36)),
 ob 37 (.extract (.tmp 33) 0),
 ob 38 (.extract (.tmp 33) 1),
 ob 5 (.sO [(.int .i64 0),(.int .i64 0),(.int .i64 0),(.int .i64 0),(.int .i64 0),(.slice .c0 []),(.slice .c0 [])]),
 ox (.store 4 (.tmp 1) (.tmp 37)),
 ox (.store 7 (.tmp 5) (.tmp 38))] false [1,2,3,4,5]) Zp)
def Zt:cv :=
 (.seq (.region [
 ob 29 (.nz 4 (.tmp 1)),
 ob 30 (.call 42 [(.tmp 29),(.lg (.str [47,97])),(.lg (.int .i64 5))]),
 ob 28 (.mv (.tmp 30)),
 ob 31 (.extract (.tmp 28) 0),
 ob 32 (.extract (.tmp 28) 1),
 ox (.store 4 (.tmp 1) (.tmp 31)),
 ob 4 (.mv (.tmp 32))] false [1,2,3,4]) Zq)
def TG:cv :=
 (.seq (.region [
 ob 23 (.nz 4 (.tmp 1)),
 ob 24 (.build [(.int .i64 0),(.int .i64 0),(.str []),(.str []),(.int .i64 0),(.int .i64 0),(.int .i64 0),(.slice .c0 [])] [(0,1,(.lg (.int .i64 2))),(2,1,(.lg (.str [47,98]))),(4,1,(.lg (.int .i64 2)))]),
 ob 25 (.call 15 [(.tmp 23),(.tmp 24)]),
 ob 22 (.mv (.tmp 25)),
 ob 26 (.extract (.tmp 22) 0),
 ob 27 (.extract (.tmp 22) 1),
 ob 3 (.sO [(.int .i64 0),(.int .i64 0),(.int .i64 0),(.int .i64 0),(.int .i64 0),(.slice .c0 []),(.slice .c0 [])]),
 ox (.store 4 (.tmp 1) (.tmp 26)),
 ox (.store 7 (.tmp 3) (.tmp 27))] false [1,2,3]) Zt)
def TH:cv :=
 (.seq (.region [
 ob 17 (.call 34 [(.lg (.int .i64 1))]),
 ob 18 (.build [(.int .i64 0),(.int .i64 0),(.str []),(.str []),(.int .i64 0),(.int .i64 0),(.int .i64 0),(.slice .c0 [])] [(0,1,(.lg (.int .i64 2))),(2,1,(.lg (.str [47,97]))),(4,1,(.lg (.int .i64 2)))]),
 ob 19 (.call 15 [(.tmp 17),(.tmp 18)]),
 ob 16 (.mv (.tmp 19)),
 ob 20 (.extract (.tmp 16) 0),
 ob 21 (.extract (.tmp 16) 1),
 ob 1 (.sO [(.slice .c0 []),(.slice .c0 []),(.int .i64 0),(.int .i64 0)]),
 ob 2 (.sO [(.int .i64 0),(.int .i64 0),(.int .i64 0),(.int .i64 0),(.int .i64 0),(.slice .c0 []),(.slice .c0 [])]),
 ox (.store 4 (.tmp 1) (.tmp 20)),
 ox (.store 7 (.tmp 2) (.tmp 21))] false [1,2]) TG)
def E11:=bQ (gY Zi.eq_1) (bQ (gY Zj.eq_1) (bQ (gY Zk.eq_1) (bQ (gY Zl.eq_1) (bQ (gY Zm.eq_1) (bQ (gY Zn.eq_1) (bQ (gY Zo.eq_1) (bQ (gY Zp.eq_1) (bQ (gY Zq.eq_1) (bQ (gY Zt.eq_1) (bQ (gY TG.eq_1) (gY TH.eq_1)))))))))))
def aeb:BZ:={ n:=187,own:=[],lv:=[(0,[]),(1,[1,2]),(2,[1,2,3]),(3,[1,2,3,4]),(4,[1,2,3,4,5]),(5,[1,2,3,4,5,7]),(6,[1,2,3,4,5,7,9]),(7,[1,2,3,4,5,7,9,10,11]),(8,[1,2,3,4,5,7,9,10,11,13]),(9,[1,2,3,4,5,7,9,10,11,13,14,15]),(10,[1,2,3,4,5,7,9,10,11,13,14,15,82]),(11,[0]),(12,[0])],lp:=[] }
def aaw:eP:=eP.mk 0 [.tmp 0]
 (.seq (.region [
 ob 0 (.mv (.lg (.bool false)))] false []) TH)
def al2:oI Tryz.prog aeb f11=some aaw:=by kernel_rfl
def ko3:Ko [] f3:=by apply Subtype.mk; cbv
def b3:=ko3.1
def Y1:=eP.mk 3 [.tmp 6] (sub b3 0)
def ko4:Ko [] f4:=by apply Subtype.mk; cbv
def b4:=ko4.1
def fn4:=eP.mk 3 [.tmp 6] (sub b4 0)
abbrev ahk:=sub b4 38
abbrev ahl:=sub b4 55
def ko5:Ko [] f5:=by apply Subtype.mk; cbv
def b5:=ko5.1
def fn5:=eP.mk 4 [.tmp 8] (sub b5 0)
abbrev ahm:=sub b5 77
abbrev ahn:=sub b5 65
def ko6:Ko [] f6:=by apply Subtype.mk; cbv
def b6:=ko6.1
def fn6:=eP.mk 3 [.tmp 6] (sub b6 0)
def o3:=by
 have h:=bQ (fW b12 abc.1) (bQ (fW b37 abA.1) (bQ (fW b36 abz.1) (bQ (fW b14 abe.1) (bQ (fW b3 ko3.1) (bQ (fW b4 ko4.1) (bQ (fW b5 ko5.1) (fW b6 ko6.1)))))));simp only[abc,abA,abz,abe,ko3,ko4,ko5,ko6,yO,seval] at h;exact h
def E12:=o3.1
def E37:=o3.2.1
def UH:=o3.2.2.1
def E14:=o3.2.2.2.1
def E3:=o3.2.2.2.2.1
def E4:=o3.2.2.2.2.2.1
def E5:=o3.2.2.2.2.2.2.1
def E6:=o3.2.2.2.2.2.2.2
set_option maxHeartbeats 4000000 in
def ko7:Ko [] f7:=⟨_,stg rfl (by cbv) (by (repeat' first|apply sgs|apply sgb|apply sgl|apply sgc);all_goals first|cbv|(apply sgr;cbv;cbv;(repeat (apply sgk;cbv));exact sgn;cbv))⟩
def b7:=ko7.1
def fn7:=eP.mk 3 [.tmp 6] (sub b7 0)
def ko8:Ko [] f8:=by apply Subtype.mk; cbv
def b8:=ko8.1
def fn8:=eP.mk 3 [.tmp 6] (sub b8 0)
def ko9:Ko [] f9:=by apply Subtype.mk; cbv
def b9:=ko9.1
def fn9:=eP.mk 3 [.tmp 6] (sub b9 0)
abbrev aho:=sub b9 53
abbrev ahp:=sub b9 39
def abb:Ko [] f10:=by apply Subtype.mk; cbv
def b10:=abb.1
def aav:=eP.mk 2 [.tmp 4] (sub b10 0)
def ya:=by
 have h:=And.intro (fW b8 ko8.1) (And.intro (fW b9 ko9.1) (fW b10 abb.1));simp only[ko8,ko9,abb,yO,seval] at h;exact h
def E8:=ya.1
def E9:=ya.2.1
def E10:=ya.2.2
end Go.Proofs.YtcbopkblmebjiaaGreatDoor
set_option linter.defProp false
set_option maxRecDepth 100000
namespace Go.Proofs.YtcbopkblmebjiaaGreatDoor
open Go Go.Abs
def ab0:Ko [7] f67:=by apply Subtype.mk; cbv
def b67:=ab0.1
def Nt:=eP.mk 1 [.tmp 2,.tmp 3] (sub b67 0)
def ama:wj [7] f67 Nt:=fR
abbrev acE:=sub b67 27
def acj:Ko [] f88:=by apply Subtype.mk; cbv
def b88:=acj.1
def agF:=eP.mk 1 [.tmp 2] (sub b88 0)
abbrev acG:=sub b88 17
def abk:Ko [] f20:=by apply Subtype.mk; cbv
def b20:=abk.1
def af3:=eP.mk 2 [.tmp 4] (sub b20 0)
def abZ:Ko [] f66:=by apply Subtype.mk; cbv
def b66:=abZ.1
def agt:=eP.mk 2 [.tmp 4] (sub b66 0)
def abo:Ko [] f24:=by apply Subtype.mk; cbv
def b24:=abo.1
def af5:=eP.mk 2 [.tmp 4,.tmp 5] (sub b24 0)
def QL:Ko [13] f108:=by apply Subtype.mk; cbv
def UT:=QL.1
def CD:=eP.mk 4 [.tmp 8,.tmp 9,.tmp 10] (sub UT 0)
def aht:wj [13] f108 CD:=fR
abbrev VN:=sub UT 32
abbrev VO:=sub UT 24
def abm:Ko [] f22:=by apply Subtype.mk; cbv
def b22:=abm.1
def aaz:=eP.mk 2 [.tmp 4] (sub b22 0)
def Q5:Ko [] f132:=by apply Subtype.mk; cbv
def aeu:=Q5.1
def P6:=eP.mk 2 [.tmp 4] (sub aeu 0)
def o4:=by
 have h:=bQ (fW b67 ab0.1) (bQ (fW b88 acj.1) (bQ (fW b20 abk.1) (bQ (fW b66 abZ.1) (bQ (fW b24 abo.1) (bQ (fW UT QL.1) (bQ (fW b22 abm.1) (fW aeu Q5.1)))))));simp only[ab0,acj,abk,abZ,abo,QL,abm,Q5,yO,seval] at h;exact h
def OS:=o4.1
def E88:=o4.2.1
def E20:=o4.2.2.1
def E66:=o4.2.2.2.1
def E24:=o4.2.2.2.2.1
def vV:=o4.2.2.2.2.2.1
def E22:=o4.2.2.2.2.2.2.1
def O0:=o4.2.2.2.2.2.2.2
def QM:Ko [] f109:=by apply Subtype.mk; cbv
def aek:=QM.1
def Lx:=eP.mk 1 [.tmp 2,.tmp 3,.tmp 4] (sub aek 0)
def ZA:=by
 have h:=fW aek QM.1;simp only[QM,yO,seval] at h;exact h
end Go.Proofs.YtcbopkblmebjiaaGreatDoor
set_option linter.defProp false
set_option maxRecDepth 100000
namespace Go.Proofs.YtcbopkblmebjiaaGreatDoor
open Go Go.Abs
def abj:Ko [] f19:=by apply Subtype.mk; cbv
def b19:=abj.1
def af2:=eP.mk 2 [.tmp 4] (sub b19 0)
def E19:=by
 have h:=fW b19 abj.1;simp only[abj,yO,seval] at h;exact h
end Go.Proofs.YtcbopkblmebjiaaGreatDoor
set_option linter.defProp false
set_option maxRecDepth 100000
namespace Go.Proofs.YtcbopkblmebjiaaGreatDoor
open Go Go.Abs
def aca:Ko [] f77:=by apply Subtype.mk; cbv
def b77:=aca.1
def agz:=eP.mk 1 [.tmp 2] (sub b77 0)
def Re:Ko [] f140:=by apply Subtype.mk; cbv
def aeA:=Re.1
def Ye:=eP.mk 1 [.tmp 2] (sub aeA 0)
def Q1:Ko [] f127:=by apply Subtype.mk; cbv
def aer:=Q1.1
def X4:=eP.mk 1 [.tmp 2] (sub aer 0)
def Q2:Ko [5] f128:=by apply Subtype.mk; cbv
def Z7:=Q2.1
def Ly:=eP.mk 2 [.tmp 4] (sub Z7 0)
def ahx:wj [5] f128 Ly:=fR
abbrev LX:=sub Z7 9
def abX:Ko [] f64:=by apply Subtype.mk; cbv
def b64:=abX.1
def aaK:=eP.mk 2 [.tmp 4,.tmp 5] (sub b64 0)
def Q3:Ko [] f129:=by apply Subtype.mk; cbv
def aes:=Q3.1
def X5:=eP.mk 2 [.tmp 3] (sub aes 0)
def R9:Ko [] f225:=by apply Subtype.mk; cbv
def afe:=R9.1
def Qg:=eP.mk 2 [.tmp 4] (sub afe 0)
def Sk:Ko [] f251:=by apply Subtype.mk; cbv
def afp:=Sk.1
def YR:=eP.mk 2 [.tmp 3] (sub afp 0)
def o5:=by
 have h:=bQ (fW b77 aca.1) (bQ (fW aeA Re.1) (bQ (fW aer Q1.1) (bQ (fW Z7 Q2.1) (bQ (fW b64 abX.1) (bQ (fW aes Q3.1) (bQ (fW afe R9.1) (fW afp Sk.1)))))));simp only[aca,Re,Q1,Q2,abX,Q3,R9,Sk,yO,seval] at h;exact h
def E77:=o5.1
def aiD:=o5.2.1
def aiw:=o5.2.2.1
def GH:=o5.2.2.2.1
def E64:=o5.2.2.2.2.1
def aix:=o5.2.2.2.2.2.1
def ad0:=o5.2.2.2.2.2.2.1
def aiY:=o5.2.2.2.2.2.2.2
def Ru:Ko [] f157:=by apply Subtype.mk; cbv
def aeL:=Ru.1
def Yl:=eP.mk 2 [.tmp 4,.tmp 5] (sub aeL 0)
def R2:Ko [] f210:=by apply Subtype.mk; cbv
def ae8:=R2.1
def YG:=eP.mk 2 [.tmp 4] (sub ae8 0)
def ab7:Ko [1000145] f74:=by apply Subtype.mk; cbv
def b74:=ab7.1
def Vp:=eP.mk 1 [.tmp 2] (sub b74 0)
def amb:wj [1000145] f74 Vp:=fR
def Ra:Ko [] f137:=by apply Subtype.mk; cbv
def aex:=Ra.1
def Yb:=eP.mk 2 [.tmp 4] (sub aex 0)
def Rc:Ko [] f139:=by apply Subtype.mk; cbv
def aez:=Rc.1
def Yd:=eP.mk 1 [.tmp 2] (sub aez 0)
def Rf:Ko [] f141:=by apply Subtype.mk; cbv
def aeB:=Rf.1
def Yf:=eP.mk 2 [.tmp 4] (sub aeB 0)
def Rv:Ko [1000145] f158:=by apply Subtype.mk; cbv
def aeM:=Rv.1
def LA:=eP.mk 3 [.tmp 6] (sub aeM 0)
def ahD:wj [1000145] f158 LA:=fR
def acn:Ko [1000158,1000160] f91:=by apply Subtype.mk; cbv
def b91:=acn.1
def HA:=eP.mk 3 [.tmp 6,.tmp 7] (sub b91 0)
def ame:wj [1000158,1000160] f91 HA:=fR
def o6:=by
 have h:=bQ (fW aeL Ru.1) (bQ (fW ae8 R2.1) (bQ (fW b74 ab7.1) (bQ (fW aex Ra.1) (bQ (fW aez Rc.1) (bQ (fW aeB Rf.1) (bQ (fW aeM Rv.1) (fW b91 acn.1)))))));simp only[Ru,R2,ab7,Ra,Rc,Rf,Rv,acn,yO,seval] at h;exact h
def aiH:=o6.1
def aiQ:=o6.2.1
def E74:=o6.2.2.1
def aiz:=o6.2.2.2.1
def aiB:=o6.2.2.2.2.1
def aiE:=o6.2.2.2.2.2.1
def aiI:=o6.2.2.2.2.2.2.1
def E91:=o6.2.2.2.2.2.2.2
def Rx:Ko [] f159:=by apply Subtype.mk; cbv
def aeN:=Rx.1
def Ym:=eP.mk 2 [] (sub aeN 0)
def acp:Ko [1000158,1000163] f93:=by apply Subtype.mk; cbv
def b93:=acp.1
def J6:=eP.mk 2 [.tmp 4,.tmp 5] (sub b93 0)
def amf:wj [1000158,1000163] f93 J6:=fR
def Rz:Ko [] f162:=by apply Subtype.mk; cbv
def aeP:=Rz.1
def Yo:=eP.mk 2 [] (sub aeP 0)
def Rm:Ko [1000158] f150:=by apply Subtype.mk; cbv
def aeF:=Rm.1
def CE:=eP.mk 3 [.tmp 6,.tmp 7] (sub aeF 0)
def ahz:wj [1000158] f150 CE:=fR
def RX:Ko [] f205:=by apply Subtype.mk; cbv
def ae4:=RX.1
def YC:=eP.mk 2 [] (sub ae4 0)
def Q4:Ko [] f130:=by apply Subtype.mk; cbv
def aet:=Q4.1
def X6:=eP.mk 2 [.tmp 4] (sub aet 0)
def RT:Ko [] f195:=by apply Subtype.mk; cbv
def aae:=RT.1
def YA:=eP.mk 2 [.tmp 4] (sub aae 0)
abbrev V4:=sub aae 15
def ab5:Ko [] f72:=by apply Subtype.mk; cbv
def b72:=ab5.1
def aaL:=eP.mk 2 [.tmp 4] (sub b72 0)
def nM:=by
 have h:=bQ (fW aeN Rx.1) (bQ (fW b93 acp.1) (bQ (fW aeP Rz.1) (bQ (fW aeF Rm.1) (bQ (fW ae4 RX.1) (bQ (fW aet Q4.1) (bQ (fW aae RT.1) (fW b72 ab5.1)))))));simp only[Rx,acp,Rz,Rm,RX,Q4,RT,ab5,yO,seval] at h;exact h
def aiJ:=nM.1
def E93:=nM.2.1
def aiK:=nM.2.2.1
def O2:=nM.2.2.2.1
def aiO:=nM.2.2.2.2.1
def OZ:=nM.2.2.2.2.2.1
def Fz:=nM.2.2.2.2.2.2.1
def E72:=nM.2.2.2.2.2.2.2
def ab6:Ko [] f73:=by apply Subtype.mk; cbv
def b73:=ab6.1
def agx:=eP.mk 3 [.tmp 6] (sub b73 0)
def Rg:Ko [] f142:=by apply Subtype.mk; cbv
def aaa:=Rg.1
def Yg:=eP.mk 2 [.tmp 4] (sub aaa 0)
abbrev VY:=sub aaa 7
def Rh:Ko [] f143:=by apply Subtype.mk; cbv
def aeC:=Rh.1
def Yh:=eP.mk 2 [.tmp 4] (sub aeC 0)
def RU:Ko [] f200:=by apply Subtype.mk; cbv
def ae3:=RU.1
def YB:=eP.mk 2 [.tmp 4] (sub ae3 0)
def Ri:Ko [] f144:=by apply Subtype.mk; cbv
def aab:=Ri.1
def Yi:=eP.mk 2 [.tmp 4] (sub aab 0)
abbrev VZ:=sub aab 15
def R1:Ko [] f209:=by apply Subtype.mk; cbv
def aag:=R1.1
def YF:=eP.mk 3 [.tmp 6,.tmp 7] (sub aag 0)
abbrev V6:=sub aag 9
def qq:=by
 have h:=bQ (fW b73 ab6.1) (bQ (fW aaa Rg.1) (bQ (fW aeC Rh.1) (bQ (fW ae3 RU.1) (bQ (fW aab Ri.1) (fW aag R1.1)))));simp only[ab6,Rg,Rh,RU,Ri,R1,yO,seval] at h;exact h
def E73:=qq.1
def Uw:=qq.2.1
def aiF:=qq.2.2.1
def ZH:=qq.2.2.2.1
def MI:=qq.2.2.2.2.1
def GJ:=qq.2.2.2.2.2
end Go.Proofs.YtcbopkblmebjiaaGreatDoor
set_option linter.defProp false
set_option maxRecDepth 100000
namespace Go.Proofs.YtcbopkblmebjiaaGreatDoor
open Go Go.Abs
def aco:Ko [] f92:=by apply Subtype.mk; cbv
def b92:=aco.1
def agG:=eP.mk 1 [] (sub b92 0)
def abI:Ko [] f47:=by apply Subtype.mk; cbv
def b47:=abI.1
def agh:=eP.mk 2 [] (sub b47 0)
def abK:Ko [] f49:=by apply Subtype.mk; cbv
def b49:=abK.1
def agj:=eP.mk 2 [.tmp 4,.tmp 5] (sub b49 0)
def QJ:Ko [8000107] f105:=by apply Subtype.mk; cbv
def ZY:=QJ.1
def P2:=eP.mk 8 [] (sub ZY 0)
def ahs:wj [8000107] f105 P2:=fR
abbrev VM:=sub ZY 6
def abt:Ko [1002001011,11000004] f28:=by apply Subtype.mk; cbv
def b28:=abt.1
def aaC:=eP.mk 2 [.fD 4 4] (sub b28 0)
def al6:wj [1002001011,11000004] f28 aaC:=fR
def abh:Ko [1506000003] f17:=by apply Subtype.mk; cbv
def b17:=abh.1
def aax:=eP.mk 1 [.fD 2 3] (sub b17 0)
def al3:wj [1506000003] f17 aax:=fR
def aby:Ko [] f34:=by apply Subtype.mk; cbv
def b34:=aby.1
def aga:=eP.mk 1 [.fD 2 4] (sub b34 0)
def abw:Ko [] f31:=by apply Subtype.mk; cbv
def b31:=abw.1
def aaE:=eP.mk 1 [.tmp 2] (sub b31 0)
def o7:=by
 have h:=bQ (fW b92 aco.1) (bQ (fW b47 abI.1) (bQ (fW b49 abK.1) (bQ (fW ZY QJ.1) (bQ (fW b28 abt.1) (bQ (fW b17 abh.1) (bQ (fW b34 aby.1) (fW b31 abw.1)))))));simp only[aco,abI,abK,QJ,abt,abh,aby,abw,yO,seval] at h;exact h
def E92:=o7.1
def E47:=o7.2.1
def E49:=o7.2.2.1
def MH:=o7.2.2.2.1
def Xw:=o7.2.2.2.2.1
def E17:=o7.2.2.2.2.2.1
def E34:=o7.2.2.2.2.2.2.1
def E31:=o7.2.2.2.2.2.2.2
def abv:Ko [] f30:=by apply Subtype.mk; cbv
def b30:=abv.1
def aaD:=eP.mk 2 [.tmp 4] (sub b30 0)
def ab3:Ko [] f70:=by apply Subtype.mk; cbv
def b70:=ab3.1
def agv:=eP.mk 2 [.tmp 4] (sub b70 0)
def acm:Ko [] f90:=by apply Subtype.mk; cbv
def b90:=acm.1
def aaP:=eP.mk 2 [.fD 4 6] (sub b90 0)
def RD:Ko [] f169:=by apply Subtype.mk; cbv
def aeR:=RD.1
def Yp:=eP.mk 2 [.tmp 4,.tmp 5] (sub aeR 0)
def RH:Ko [] f173:=by apply Subtype.mk; cbv
def aeV:=RH.1
def Yt:=eP.mk 2 [] (sub aeV 0)
def RE:Ko [] f170:=by apply Subtype.mk; cbv
def aeS:=RE.1
def P9:=eP.mk 4 [] (sub aeS 0)
def acr:Ko [] f97:=by apply Subtype.mk; cbv
def b97:=acr.1
def aaR:=eP.mk 1 [] (sub b97 0)
def acs:Ko [] f98:=by apply Subtype.mk; cbv
def b98:=acs.1
def aaS:=eP.mk 1 [] (sub b98 0)
def o8:=by
 have h:=bQ (fW b30 abv.1) (bQ (fW b70 ab3.1) (bQ (fW b90 acm.1) (bQ (fW aeR RD.1) (bQ (fW aeV RH.1) (bQ (fW aeS RE.1) (bQ (fW b97 acr.1) (fW b98 acs.1)))))));simp only[abv,ab3,acm,RD,RH,RE,acr,acs,yO,seval] at h;exact h
def E30:=o8.1
def E70:=o8.2.1
def E90:=o8.2.2.1
def Uz:=o8.2.2.2.1
def ML:=o8.2.2.2.2.1
def adW:=o8.2.2.2.2.2.1
def E97:=o8.2.2.2.2.2.2.1
def E98:=o8.2.2.2.2.2.2.2
def acu:Ko [11000005] f99:=by apply Subtype.mk; cbv
def b99:=acu.1
def Qk:=eP.mk 1 [] (sub b99 0)
def amg:wj [11000005] f99 Qk:=fR
def QE:Ko [] f100:=by apply Subtype.mk; cbv
def aee:=QE.1
def Lw:=eP.mk 1 [] (sub aee 0)
def QF:Ko [] f101:=by apply Subtype.mk; cbv
def aef:=QF.1
def Hu:=eP.mk 1 [] (sub aef 0)
def QG:Ko [] f102:=by apply Subtype.mk; cbv
def aeg:=QG.1
def Hv:=eP.mk 1 [] (sub aeg 0)
def QH:Ko [] f103:=by apply Subtype.mk; cbv
def aeh:=QH.1
def Ea:=eP.mk 1 [] (sub aeh 0)
def abH:Ko [] f46:=by apply Subtype.mk; cbv
def b46:=abH.1
def agf:=eP.mk 0 [.tmp 0] (sub b46 0)
def abJ:Ko [] f48:=by apply Subtype.mk; cbv
def b48:=abJ.1
def agi:=eP.mk 1 [.fD 2 3] (sub b48 0)
def abG:Ko [] f45:=by apply Subtype.mk; cbv
def b45:=abG.1
def J4:=eP.mk 3 [] (sub b45 0)
def nN:=by
 have h:=bQ (fW b99 acu.1) (bQ (fW aee QE.1) (bQ (fW aef QF.1) (bQ (fW aeg QG.1) (bQ (fW aeh QH.1) (bQ (fW b46 abH.1) (bQ (fW b48 abJ.1) (fW b45 abG.1)))))));simp only[acu,QE,QF,QG,QH,abH,abJ,abG,yO,seval] at h;exact h
def ZQ:=nN.1
def Zz:=nN.2.1
def Ut:=nN.2.2.1
def Uu:=nN.2.2.2.1
def OX:=nN.2.2.2.2.1
def E46:=nN.2.2.2.2.2.1
def E48:=nN.2.2.2.2.2.2.1
def E45:=nN.2.2.2.2.2.2.2
def abf:Ko [] f15:=by apply Subtype.mk; cbv
def b15:=abf.1
def Vo:=eP.mk 2 [.fD 4 4,.fD 5 7] (sub b15 0)
def abl:Ko [7] f21:=by apply Subtype.mk; cbv
def b21:=abl.1
def aay:=eP.mk 2 [.tmp 4] (sub b21 0)
def al4:wj [7] f21 aay:=fR
def abW:Ko [] f62:=by apply Subtype.mk; cbv
def b62:=abW.1
def agr:=eP.mk 3 [] (sub b62 0)
def abE:Ko [] f42:=by apply Subtype.mk; cbv
def b42:=abE.1
def aaG:=eP.mk 3 [.fD 6 4,.tmp 7] (sub b42 0)
def ack:Ko [] f89:=by apply Subtype.mk; cbv
def b89:=ack.1
def Nv:=eP.mk 4 [] (sub b89 0)
def acq:Ko [] f94:=by apply Subtype.mk; cbv
def b94:=acq.1
def aaQ:=eP.mk 3 [.fD 6 4,.tmp 7] (sub b94 0)
def abF:Ko [] f43:=by apply Subtype.mk; cbv
def b43:=abF.1
def age:=eP.mk 2 [.fD 4 4,.tmp 5] (sub b43 0)
def ace:Ko [] f82:=by apply Subtype.mk; cbv
def b82:=ace.1
def agD:=eP.mk 3 [.fD 6 4,.tmp 7] (sub b82 0)
def nP:=by
 have h:=bQ (fW b15 abf.1) (bQ (fW b21 abl.1) (bQ (fW b62 abW.1) (bQ (fW b42 abE.1) (bQ (fW b89 ack.1) (bQ (fW b94 acq.1) (bQ (fW b43 abF.1) (fW b82 ace.1)))))));simp only[abf,abl,abW,abE,ack,acq,abF,ace,yO,seval] at h;exact h
def E15:=nP.1
def E21:=nP.2.1
def E62:=nP.2.2.1
def E42:=nP.2.2.2.1
def E89:=nP.2.2.2.2.1
def E94:=nP.2.2.2.2.2.1
def E43:=nP.2.2.2.2.2.2.1
def E82:=nP.2.2.2.2.2.2.2
end Go.Proofs.YtcbopkblmebjiaaGreatDoor
set_option linter.defProp false
set_option maxRecDepth 100000
namespace Go.Proofs.YtcbopkblmebjiaaGreatDoor
open Go Go.Abs
def ab1:Ko [] f68:=by apply Subtype.mk; cbv
def b68:=ab1.1
def Qj:=eP.mk 2 [.tmp 4] (sub b68 0)
def abu:Ko [] f29:=by apply Subtype.mk; cbv
def b29:=abu.1
def af8:=eP.mk 1 [.tmp 2] (sub b29 0)
set_option maxHeartbeats 4000000 in
def alX:Ko [] f79:=⟨_,stg rfl (by cbv) (by (repeat' first|apply sgs|apply sgb|apply sgl|apply sgc);all_goals first|cbv|(apply sgr;cbv;cbv;(repeat (apply sgk;cbv));exact sgn;cbv))⟩
def b79:=alX.1
def akP:=eP.mk 1 [.tmp 2] (sub b79 0)
def abp:Ko [] f25:=by apply Subtype.mk; cbv
def b25:=abp.1
def aaB:=eP.mk 2 [.tmp 4,.tmp 5] (sub b25 0)
def R0:Ko [5] f208:=by apply Subtype.mk; cbv
def ae7:=R0.1
def LC:=eP.mk 2 [.tmp 4] (sub ae7 0)
def ahJ:wj [5] f208 LC:=fR
def RY:Ko [] f206:=by apply Subtype.mk; cbv
def ae5:=RY.1
def YD:=eP.mk 2 [.tmp 4] (sub ae5 0)
def Rn:Ko [11] f151:=by apply Subtype.mk; cbv
def aeG:=Rn.1
def zd:=eP.mk 3 [.tmp 6,.tmp 7] (sub aeG 0)
def ahA:wj [11] f151 zd:=fR
def Ro:Ko [15] f152:=by apply Subtype.mk; cbv
def aeH:=Ro.1
def CF:=eP.mk 2 [.tmp 4,.tmp 5] (sub aeH 0)
def ahB:wj [15] f152 CF:=fR
def Rp:Ko [7000042] f153:=by apply Subtype.mk; cbv
def aeI:=Rp.1
def Ba:=eP.mk 3 [.tmp 6,.tmp 7] (sub aeI 0)
def ahC:wj [7000042] f153 Ba:=fR
def o9:=by
 have h:=bQ (fW b68 ab1.1) (bQ (fW b29 abu.1) (bQ (fW b25 abp.1) (bQ (fW ae7 R0.1) (bQ (fW ae5 RY.1) (bQ (fW aeG Rn.1) (bQ (fW aeH Ro.1) (fW aeI Rp.1)))))));simp only[ab1,abu,abp,R0,RY,Rn,Ro,Rp,yO,seval] at h;exact h
def ZM:=o9.1
def E29:=o9.2.1
def E25:=o9.2.2.1
def Jg:=o9.2.2.2.1
def UB:=o9.2.2.2.2.1
def DC:=o9.2.2.2.2.2.1
def Jc:=o9.2.2.2.2.2.2.1
def MJ:=o9.2.2.2.2.2.2.2
def abV:Ko [] f61:=by apply Subtype.mk; cbv
def b61:=abV.1
def agq:=eP.mk 2 [.tmp 4] (sub b61 0)
def abB:Ko [] f38:=by apply Subtype.mk; cbv
def b38:=abB.1
def agb:=eP.mk 2 [.tmp 4] (sub b38 0)
def abC:Ko [57] f40:=by apply Subtype.mk; cbv
def b40:=abC.1
def aaF:=eP.mk 2 [.tmp 4] (sub b40 0)
def al8:wj [57] f40 aaF:=fR
abbrev acC:=sub b40 26
abbrev acD:=sub b40 9
def Rl:Ko [5000016] f148:=by apply Subtype.mk; cbv
def UU:=Rl.1
def P7:=eP.mk 2 [.tmp 4] (sub UU 0)
def ahy:wj [5000016] f148 P7:=fR
abbrev V0:=sub UU 60
abbrev V1:=sub UU 48
def acd:Ko [] f81:=by apply Subtype.mk; cbv
def b81:=acd.1
def agC:=eP.mk 2 [.tmp 4] (sub b81 0)
def ab9:Ko [8,1002001005] f76:=by apply Subtype.mk; cbv
def b76:=ab9.1
def aaM:=eP.mk 2 [.fD 4 4] (sub b76 0)
def amc:wj [8,1002001005] f76 aaM:=fR
def abn:Ko [1006000003] f23:=by apply Subtype.mk; cbv
def b23:=abn.1
def aaA:=eP.mk 1 [.fD 2 3] (sub b23 0)
def al5:wj [1006000003] f23 aaA:=fR
abbrev acy:=sub b23 30
abbrev acz:=sub b23 18
abbrev acA:=sub b23 8
def abx:Ko [] f33:=by apply Subtype.mk; cbv
def b33:=abx.1
def af9:=eP.mk 1 [.fD 2 4] (sub b33 0)
def pb:=by
 have h:=bQ (fW b61 abV.1) (bQ (fW b38 abB.1) (bQ (fW b40 abC.1) (bQ (fW UU Rl.1) (bQ (fW b81 acd.1) (bQ (fW b76 ab9.1) (bQ (fW b23 abn.1) (fW b33 abx.1)))))));simp only[abV,abB,abC,Rl,acd,ab9,abn,abx,yO,seval] at h;exact h
def E61:=pb.1
def E38:=pb.2.1
def Jj:=pb.2.2.1
def xI:=pb.2.2.2.1
def Xx:=pb.2.2.2.2.1
def ZO:=pb.2.2.2.2.2.1
def Uo:=pb.2.2.2.2.2.2.1
def E33:=pb.2.2.2.2.2.2.2
def alS:Ko [] f35:=by apply Subtype.mk; cbv
def b35:=alS.1
def akN:=eP.mk 1 [.tmp 2] (sub b35 0)
def abi:Ko [] f18:=by apply Subtype.mk; cbv
def b18:=abi.1
def af1:=eP.mk 2 [.tmp 4] (sub b18 0)
def abM:Ko [] f51:=by apply Subtype.mk; cbv
def b51:=abM.1
def aaI:=eP.mk 2 [.tmp 4,.tmp 5,.tmp 6] (sub b51 0)
def abL:Ko [11] f50:=by apply Subtype.mk; cbv
def b50:=abL.1
def J5:=eP.mk 2 [.fD 4 7] (sub b50 0)
def al9:wj [11] f50 J5:=fR
def QQ:Ko [] f113:=by apply Subtype.mk; cbv
def aem:=QQ.1
def XV:=eP.mk 1 [.fD 2 3] (sub aem 0)
def abO:Ko [] f53:=by apply Subtype.mk; cbv
def b53:=abO.1
def aaJ:=eP.mk 4 [.fD 8 3,.fD 9 7] (sub b53 0)
def abg:Ko [] f16:=by apply Subtype.mk; cbv
def b16:=abg.1
def xL:=eP.mk 2 [.fD 4 3,.fD 5 7] (sub b16 0)
def Rq:Ko [] f154:=by apply Subtype.mk; cbv
def aeJ:=Rq.1
def P8:=eP.mk 1 [.tmp 2] (sub aeJ 0)
def RZ:Ko [] f207:=by apply Subtype.mk; cbv
def ae6:=RZ.1
def YE:=eP.mk 1 [.tmp 2] (sub ae6 0)
def nQ:=by
 have h:=bQ (fW b18 abi.1) (bQ (fW b51 abM.1) (bQ (fW b50 abL.1) (bQ (fW aem QQ.1) (bQ (fW b53 abO.1) (bQ (fW b16 abg.1) (bQ (fW aeJ Rq.1) (fW ae6 RZ.1)))))));simp only[abi,abM,abL,QQ,abO,abg,Rq,RZ,yO,seval] at h;exact h
def E18:=nQ.1
def E51:=nQ.2.1
def ZK:=nQ.2.2.1
def ZB:=nQ.2.2.2.1
def E53:=nQ.2.2.2.2.1
def Je:=nQ.2.2.2.2.2.1
def adV:=nQ.2.2.2.2.2.2.1
def aiP:=nQ.2.2.2.2.2.2.2
def Rr:Ko [] f155:=by apply Subtype.mk; cbv
def aeK:=Rr.1
def Lz:=eP.mk 3 [.tmp 6] (sub aeK 0)
def aci:Ko [] f86:=by apply Subtype.mk; cbv
def b86:=aci.1
def Hz:=eP.mk 2 [.fD 4 4,.fD 5 7] (sub b86 0)
def alZ:Ko [5000011] f87:=by apply Subtype.mk; cbv
def b87:=alZ.1
def agE:=eP.mk 2 [.tmp 4] (sub b87 0)
def amd:wj [5000011] f87 agE:=fR
def alT:Ko [7] f39:=by apply Subtype.mk; cbv
def b39:=alT.1
def agc:=eP.mk 2 [.tmp 4] (sub b39 0)
def al7:wj [7] f39 agc:=fR
def acf:Ko [] f83:=by apply Subtype.mk; cbv
def b83:=acf.1
def Nu:=eP.mk 3 [.fD 6 4,.tmp 7] (sub b83 0)
def acg:Ko [] f84:=by apply Subtype.mk; cbv
def b84:=acg.1
def aaN:=eP.mk 2 [.fD 4 4,.tmp 5] (sub b84 0)
def ach:Ko [] f85:=by apply Subtype.mk; cbv
def b85:=ach.1
def aaO:=eP.mk 3 [.fD 6 4,.tmp 7] (sub b85 0)
def sb:=by
 have h:=bQ (fW aeK Rr.1) (bQ (fW b86 aci.1) (bQ (fW b83 acf.1) (bQ (fW b84 acg.1) (fW b85 ach.1))));simp only[Rr,aci,acf,acg,ach,yO,seval] at h;exact h
def ZC:=sb.1
def ZP:=sb.2.1
def E83:=sb.2.2.1
def E84:=sb.2.2.2.1
def E85:=sb.2.2.2.2
end Go.Proofs.YtcbopkblmebjiaaGreatDoor
