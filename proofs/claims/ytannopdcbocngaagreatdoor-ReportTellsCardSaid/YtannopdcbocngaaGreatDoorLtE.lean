import Derived.KernelRfl
import Derived.Test.YtannopdcbocngaaGreatDoorLtD
set_option linter.unusedSimpArgs false
set_option linter.unusedVariables false
set_option linter.unusedSectionVars false
set_option linter.defProp false
namespace Go.Proofs.YtannopdcbocngaaGreatDoor
open Go Go.Abs
def q11_0:ACode :=
 (.seq (.region [
 ob 2 (.mv (.cst (.bool true)))] false [2]) (.ret))
def q11_1:ACode :=
 (.seq (.region [
 ob 2 (.mv (.cst (.bool true)))] false [2]) (.ret))
def q11_2:ACode :=
 (.region [
 ob 11 (.mv (.tmp 3)),
 ob 12 (.bin .add (.tmp 11) (.cst (.int .i64 1))),
 ob 3 (.mv (.tmp 12))] false [0,3])
def q11_3:ACode :=
 (.seq (.block 1 (.seq (.region [
 ob 13 (.mv (.tmp 0)),
 ob 14 (.mv (.tmp 3)),
 ob 15 (.iaddr 6 (.tmp 13) (.tmp 14)),
 ob 16 (.faddr 5 (.tmp 15)),
 ob 17 (.load1 (.tmp 16)),
 ob 18 (.lenV (.tmp 17)),
 ob 19 (.bin .gtr (.tmp 18) (.cst (.int .i64 5000)))] false [0,3,19]) (.cond (.tmp 19) q11_1 (.skip)))) q11_2)
def lb11_0:ACode :=
 (.seq (.seq (.region [
 ob 7 (.mv (.tmp 3)),
 ob 8 (.mv (.tmp 0)),
 ob 9 (.lenV (.tmp 8)),
 ob 10 (.bin .lss (.tmp 7) (.tmp 9))] false [0,3,10]) (.cond (.tmp 10) (.skip) (.exit 0))) q11_3)
def q11_4:ACode :=
 (.seq (.region [
 ob 2 (.mv (.cst (.bool false)))] false [2]) (.ret))
def q11_5:ACode :=
 (.seq (.seq (.region [
 ob 3 (.mv (.cst (.int .i64 0)))] false [0,3]) (.block 0 (.loop [0,3] lb11_0))) q11_4)
def q11_6:ACode :=
 (.seq (.seq (.region [
 ob 4 (.mv (.tmp 0)),
 ob 5 (.lenV (.tmp 4)),
 ob 6 (.bin .gtr (.tmp 5) (.cst (.int .i64 60)))] false [0,6]) (.cond (.tmp 6) q11_0 (.skip))) q11_5)
def E11:=And.intro (exK_head q11_0.eq_1) (And.intro (exK_head q11_1.eq_1) (And.intro (exK_head q11_2.eq_1) (And.intro (exK_head q11_3.eq_1) (And.intro (exK_head lb11_0.eq_1) (And.intro (exK_head q11_4.eq_1) (And.intro (exK_head q11_5.eq_1) (exK_head q11_6.eq_1)))))))
def ann11:Ann:={ n:=20,own:=[],lv:=[(0,[0]),(1,[0,6]),(2,[2]),(3,[0,3]),(4,[0,3,10]),(5,[0,3]),(6,[0,3,19]),(7,[2]),(8,[2])],lp:=[(4,[0,3])] }
def fn11:AFn:=AFn.mk 1 [.tmp 2]
 (.seq (.region [
 ob 2 (.mv (.cst (.bool false)))] false [0]) q11_6)
theorem ok11:compFn Tryz.prog ann11 Tryz.f11=some fn11:=by kernel_rfl
def q14_0:ACode :=
 (.region [
 ob 25 (.loadA 3 (.tmp 5)),
 ox (.store 3 (.tmp 3) (.tmp 25))] false [0,2,3,4])
def q14_1:ACode :=
 (.region [
 ob 13 (.mv (.tmp 4)),
 ob 14 (.bin .add (.tmp 13) (.cst (.int .i64 1))),
 ob 4 (.mv (.tmp 14))] false [0,2,3,4])
def q14_2:ACode :=
 (.seq (.block 1 (.seq (.region [
 ob 16 (.loadA 3 (.tmp 3)),
 ob 17 (.mv (.tmp 0)),
 ob 18 (.mv (.tmp 4)),
 ob 19 (.iaddr 6 (.tmp 17) (.tmp 18)),
 ob 20 (.loadA 6 (.tmp 19)),
 ⟨(some 21),.call 41 [(.tmp 16),(.tmp 20)],none,false,true,[]⟩,
 ob 15 (.mv (.tmp 21)),
 ob 22 (.extract (.tmp 15) 0),
 ob 23 (.extract (.tmp 15) 1),
 ob 24 (.extract (.tmp 15) 2),
 ⟨(some 5),.box0 [(.slice .c0 []),(.int .i64 0),(.int .i64 0)],none,true,false,[]⟩,
 ox (.store 3 (.tmp 5) (.tmp 22)),
 ob 6 (.mv (.tmp 23)),
 ob 7 (.mv (.tmp 24))] true [0,2,3,4,5]) q14_0)) q14_1)
def lb14_0:ACode :=
 (.seq (.seq (.region [
 ob 9 (.mv (.tmp 4)),
 ob 10 (.mv (.tmp 0)),
 ob 11 (.lenV (.tmp 10)),
 ob 12 (.bin .lss (.tmp 9) (.tmp 11))] false [0,2,3,4,12]) (.cond (.tmp 12) (.skip) (.exit 0))) q14_2)
def q14_3:ACode :=
 (.seq (.region [
 ob 26 (.loadA 3 (.tmp 3)),
 ox (.store 3 (.tmp 2) (.tmp 26))] false [2]) (.ret))
def q14_4:ACode :=
 (.seq (.seq (.region [
 ob 4 (.mv (.cst (.int .i64 0)))] false [0,2,3,4]) (.block 0 (.loop [0,2,3,4] lb14_0))) q14_3)
def q14_5:ACode :=
 (.seq (.region [
 ob 8 (.call 40 []),
 ob 3 (.box0 [(.slice .c0 []),(.int .i64 0),(.int .i64 0)]),
 ox (.store 3 (.tmp 3) (.tmp 8))] false [0,2,3]) q14_4)
def E14:=And.intro (exK_head q14_0.eq_1) (And.intro (exK_head q14_1.eq_1) (And.intro (exK_head q14_2.eq_1) (And.intro (exK_head lb14_0.eq_1) (And.intro (exK_head q14_3.eq_1) (And.intro (exK_head q14_4.eq_1) (exK_head q14_5.eq_1))))))
def ann14:Ann:={ n:=27,own:=[],lv:=[(0,[0,2]),(1,[0,2,3]),(2,[0,2,3,4]),(3,[0,2,3,4,12]),(4,[0,2,3,4]),(5,[0,2,3,4,5]),(6,[0,2,3,4]),(7,[2])],lp:=[(3,[0,2,3,4])] }
def fn14:AFn:=AFn.mk 1 [.cellA 2 3]
 (.seq (.region [
 ob 2 (.box0 [(.slice .c0 []),(.int .i64 0),(.int .i64 0)])] false [0,2]) q14_5)
theorem ok14:compFn Tryz.prog ann14 Tryz.f14=some fn14:=by kernel_rfl
def q40_0:ACode :=
 (.seq (.region [
 ob 1 (.build [(.int .i64 0),(.int .i64 0),(.int .i64 0),(.slice .c0 []),(.slice .c0 []),(.int .i64 0)] [(0,1,(.cst (.int .i64 1))),(1,1,(.cst (.int .i64 2))),(5,1,(.cst (.int .i64 1)))]),
 ob 2 (.lits 6 [(.tmp 1)]),
 ob 3 (.build [(.slice .c0 []),(.int .i64 0),(.int .i64 0)] [(0,1,(.tmp 2)),(1,1,(.cst (.int .i64 2))),(2,1,(.cst (.int .i64 1)))]),
 ox (.store 3 (.tmp 0) (.tmp 3))] false [0]) (.ret))
def E40:=exK_head q40_0.eq_1
def ann40:Ann:={ n:=4,own:=[],lv:=[(0,[0]),(1,[0])],lp:=[] }
def fn40:AFn:=AFn.mk 0 [.cellA 0 3]
 (.seq (.region [
 ob 0 (.box0 [(.slice .c0 []),(.int .i64 0),(.int .i64 0)])] false [0]) q40_0)
theorem ok40:compFn Tryz.prog ann40 Tryz.f40=some fn40:=by kernel_rfl
def q41_0:ACode :=
 (.region [
 ob 45 (.bin .eql (.tmp 42) (.cst (.int .u8 1))),
 ob 43 (.mv (.tmp 45))] false [2,3,4,7,8,9,10,42,43])
def q41_1:ACode :=
 (.seq (.region [
 ob 59 (.loadA 3 (.tmp 11)),
 ob 60 (.mv (.tmp 12)),
 ob 61 (.mv (.tmp 13)),
 ox (.store 3 (.tmp 4) (.tmp 59)),
 ob 5 (.mv (.tmp 60)),
 ob 6 (.mv (.tmp 61))] false [4,5,6]) (.ret))
def q41_2:ACode :=
 (.seq (.region [
 ob 47 (.loadA 3 (.tmp 2)),
 ob 48 (.mv (.tmp 7)),
 ob 49 (.mv (.tmp 9)),
 ob 50 (.faddr 4 (.tmp 3)),
 ob 51 (.load1 (.tmp 50)),
 ob 52 (.conv .i64 (.tmp 51)),
 ob 53 (.bin .rem (.tmp 52) (.cst (.int .i64 2))),
 ob 54 (.bin .add (.tmp 53) (.cst (.int .i64 1))),
 ob 55 (.call 81 [(.tmp 47),(.tmp 48),(.tmp 49),(.tmp 54)]),
 ob 46 (.mv (.tmp 55)),
 ob 56 (.extract (.tmp 46) 0),
 ob 57 (.extract (.tmp 46) 1),
 ob 58 (.extract (.tmp 46) 2),
 ob 11 (.box0 [(.slice .c0 []),(.int .i64 0),(.int .i64 0)]),
 ox (.store 3 (.tmp 11) (.tmp 56)),
 ob 12 (.mv (.tmp 57)),
 ob 13 (.mv (.tmp 58))] false [4,11,12,13]) q41_1)
def q41_3:ACode :=
 (.seq (.region [
 ob 72 (.loadA 3 (.tmp 14)),
 ob 73 (.mv (.tmp 15)),
 ox (.store 3 (.tmp 4) (.tmp 72)),
 ob 5 (.mv (.cst (.int .i64 0))),
 ob 6 (.mv (.tmp 73))] false [4,5,6]) (.ret))
def q41_4:ACode :=
 (.seq (.region [
 ob 65 (.loadA 3 (.tmp 2)),
 ob 66 (.mv (.tmp 8)),
 ob 67 (.mv (.tmp 7)),
 ob 68 (.mv (.tmp 9)),
 ob 69 (.call 82 [(.tmp 65),(.tmp 66),(.tmp 67),(.tmp 68)]),
 ob 64 (.mv (.tmp 69)),
 ob 70 (.extract (.tmp 64) 0),
 ob 71 (.extract (.tmp 64) 1),
 ob 14 (.box0 [(.slice .c0 []),(.int .i64 0),(.int .i64 0)]),
 ox (.store 3 (.tmp 14) (.tmp 70)),
 ob 15 (.mv (.tmp 71))] false [4,14,15]) q41_3)
def q41_5:ACode :=
 (.seq (.region [
 ob 84 (.loadA 3 (.tmp 16)),
 ob 85 (.mv (.tmp 17)),
 ob 86 (.mv (.tmp 18)),
 ox (.store 3 (.tmp 4) (.tmp 84)),
 ob 5 (.mv (.tmp 85)),
 ob 6 (.mv (.tmp 86))] false [4,5,6]) (.ret))
def q41_6:ACode :=
 (.seq (.region [
 ob 77 (.loadA 3 (.tmp 2)),
 ob 78 (.mv (.tmp 7)),
 ob 79 (.mv (.tmp 9)),
 ob 80 (.call 83 [(.tmp 77),(.tmp 78),(.tmp 79)]),
 ob 76 (.mv (.tmp 80)),
 ob 81 (.extract (.tmp 76) 0),
 ob 82 (.extract (.tmp 76) 1),
 ob 83 (.extract (.tmp 76) 2),
 ob 16 (.box0 [(.slice .c0 []),(.int .i64 0),(.int .i64 0)]),
 ox (.store 3 (.tmp 16) (.tmp 81)),
 ob 17 (.mv (.tmp 82)),
 ob 18 (.mv (.tmp 83))] false [4,16,17,18]) q41_5)
def q41_7:ACode :=
 (.region [
 ob 89 (.bin .eql (.tmp 42) (.cst (.int .u8 5))),
 ob 87 (.mv (.tmp 89))] false [2,3,4,7,8,9,10,42,87])
def q41_8:ACode :=
 (.seq (.region [
 ob 100 (.loadA 3 (.tmp 19)),
 ob 101 (.mv (.tmp 20)),
 ob 102 (.mv (.tmp 21)),
 ox (.store 3 (.tmp 4) (.tmp 100)),
 ob 5 (.mv (.tmp 101)),
 ob 6 (.mv (.tmp 102))] false [4,5,6]) (.ret))
def q41_9:ACode :=
 (.seq (.region [
 ob 91 (.loadA 3 (.tmp 2)),
 ob 92 (.mv (.tmp 7)),
 ob 93 (.mv (.tmp 9)),
 ob 94 (.mv (.tmp 8)),
 ob 95 (.mv (.tmp 10)),
 ob 96 (.call 84 [(.tmp 91),(.tmp 92),(.tmp 93),(.tmp 94),(.tmp 95)]),
 ob 90 (.mv (.tmp 96)),
 ob 97 (.extract (.tmp 90) 0),
 ob 98 (.extract (.tmp 90) 1),
 ob 99 (.extract (.tmp 90) 2),
 ob 19 (.box0 [(.slice .c0 []),(.int .i64 0),(.int .i64 0)]),
 ox (.store 3 (.tmp 19) (.tmp 97)),
 ob 20 (.mv (.tmp 98)),
 ob 21 (.mv (.tmp 99))] false [4,19,20,21]) q41_8)
def q41_10:ACode :=
 (.seq (.region [
 ob 113 (.loadA 3 (.tmp 22)),
 ob 114 (.mv (.tmp 23)),
 ox (.store 3 (.tmp 4) (.tmp 113)),
 ob 5 (.mv (.cst (.int .i64 0))),
 ob 6 (.mv (.tmp 114))] false [4,5,6]) (.ret))
def q41_11:ACode :=
 (.seq (.region [
 ob 106 (.loadA 3 (.tmp 2)),
 ob 107 (.mv (.tmp 7)),
 ob 108 (.faddr 5 (.tmp 3)),
 ob 109 (.load1 (.tmp 108)),
 ob 110 (.call 85 [(.tmp 106),(.tmp 107),(.tmp 109)]),
 ob 105 (.mv (.tmp 110)),
 ob 111 (.extract (.tmp 105) 0),
 ob 112 (.extract (.tmp 105) 1),
 ob 22 (.box0 [(.slice .c0 []),(.int .i64 0),(.int .i64 0)]),
 ox (.store 3 (.tmp 22) (.tmp 111)),
 ob 23 (.mv (.tmp 112))] false [4,22,23]) q41_10)
def q41_12:ACode :=
 (.seq (.region [
 ob 104 (.bin .eql (.tmp 42) (.cst (.int .u8 6))),
 ob 103 (.mv (.tmp 104))] false [2,3,4,7,103]) (.cond (.tmp 103) q41_11 (.skip)))
def q41_13:ACode :=
 (.seq (.seq (.region [
 ob 88 (.bin .eql (.tmp 42) (.cst (.int .u8 4))),
 ob 87 (.mv (.tmp 88))] false [2,3,4,7,8,9,10,42,87]) (.cond (.tmp 87) (.skip) q41_7)) (.cond (.tmp 87) q41_9 q41_12))
def q41_14:ACode :=
 (.seq (.region [
 ob 75 (.bin .eql (.tmp 42) (.cst (.int .u8 3))),
 ob 74 (.mv (.tmp 75))] false [2,3,4,7,8,9,10,42,74]) (.cond (.tmp 74) q41_6 q41_13))
def q41_15:ACode :=
 (.seq (.region [
 ob 63 (.bin .eql (.tmp 42) (.cst (.int .u8 2))),
 ob 62 (.mv (.tmp 63))] false [2,3,4,7,8,9,10,42,62]) (.cond (.tmp 62) q41_4 q41_14))
def q41_16:ACode :=
 (.block 0 (.seq (.seq (.region [
 ob 44 (.bin .eql (.tmp 42) (.cst (.int .u8 0))),
 ob 43 (.mv (.tmp 44))] false [2,3,4,7,8,9,10,42,43]) (.cond (.tmp 43) (.skip) q41_0)) (.cond (.tmp 43) q41_2 q41_15)))
def q41_17:ACode :=
 (.seq (.region [
 ob 121 (.loadA 3 (.tmp 24)),
 ob 122 (.mv (.tmp 25)),
 ox (.store 3 (.tmp 4) (.tmp 121)),
 ob 5 (.mv (.cst (.int .i64 0))),
 ob 6 (.mv (.tmp 122))] false [4,5,6]) (.ret))
def q41_18:ACode :=
 (.seq (.region [
 ob 116 (.loadA 3 (.tmp 2)),
 ob 117 (.mv (.tmp 7)),
 ob 118 (.call 86 [(.tmp 116),(.tmp 117)]),
 ob 115 (.mv (.tmp 118)),
 ob 119 (.extract (.tmp 115) 0),
 ob 120 (.extract (.tmp 115) 1),
 ob 24 (.box0 [(.slice .c0 []),(.int .i64 0),(.int .i64 0)]),
 ox (.store 3 (.tmp 24) (.tmp 119)),
 ob 25 (.mv (.tmp 120))] false [4,24,25]) q41_17)
def q41_19:ACode :=
 (.seq (.seq (.region [
 ob 40 (.faddr 0 (.tmp 3)),
 ob 41 (.load1 (.tmp 40)),
 ob 42 (.bin .rem (.tmp 41) (.cst (.int .u8 8)))] false [2,3,4,7,8,9,10,42]) q41_16) q41_18)
def q41_20:ACode :=
 (.seq (.region [
 ob 37 (.faddr 4 (.tmp 3)),
 ob 38 (.load1 (.tmp 37)),
 ob 39 (.call 80 [(.tmp 38)]),
 ob 10 (.mv (.tmp 39))] false [2,3,4,7,8,9,10]) q41_19)
def q41_21:ACode :=
 (.seq (.region [
 ob 34 (.faddr 3 (.tmp 3)),
 ob 35 (.load1 (.tmp 34)),
 ob 36 (.call 80 [(.tmp 35)]),
 ob 9 (.mv (.tmp 36))] false [2,3,4,7,8,9]) q41_20)
def q41_22:ACode :=
 (.seq (.region [
 ob 30 (.loadA 3 (.tmp 2)),
 ob 31 (.faddr 2 (.tmp 3)),
 ob 32 (.load1 (.tmp 31)),
 ob 33 (.call 79 [(.tmp 30),(.tmp 32)]),
 ob 8 (.mv (.tmp 33))] false [2,3,4,7,8]) q41_21)
def q41_23:ACode :=
 (.seq (.region [
 ob 26 (.loadA 3 (.tmp 2)),
 ob 27 (.faddr 1 (.tmp 3)),
 ob 28 (.load1 (.tmp 27)),
 ob 29 (.call 79 [(.tmp 26),(.tmp 28)]),
 ob 7 (.mv (.tmp 29))] false [2,3,4,7]) q41_22)
def E41:=And.intro (exK_head q41_0.eq_1) (And.intro (exK_head q41_1.eq_1) (And.intro (exK_head q41_2.eq_1) (And.intro (exK_head q41_3.eq_1) (And.intro (exK_head q41_4.eq_1) (And.intro (exK_head q41_5.eq_1) (And.intro (exK_head q41_6.eq_1) (And.intro (exK_head q41_7.eq_1) (And.intro (exK_head q41_8.eq_1) (And.intro (exK_head q41_9.eq_1) (And.intro (exK_head q41_10.eq_1) (And.intro (exK_head q41_11.eq_1) (And.intro (exK_head q41_12.eq_1) (And.intro (exK_head q41_13.eq_1) (And.intro (exK_head q41_14.eq_1) (And.intro (exK_head q41_15.eq_1) (And.intro (exK_head q41_16.eq_1) (And.intro (exK_head q41_17.eq_1) (And.intro (exK_head q41_18.eq_1) (And.intro (exK_head q41_19.eq_1) (And.intro (exK_head q41_20.eq_1) (And.intro (exK_head q41_21.eq_1) (And.intro (exK_head q41_22.eq_1) (exK_head q41_23.eq_1)))))))))))))))))))))))
def ann41:Ann:={ n:=123,own:=[],lv:=[(0,[2,3,4]),(1,[2,3,4,7]),(2,[2,3,4,7,8]),(3,[2,3,4,7,8,9]),(4,[2,3,4,7,8,9,10]),(5,[2,3,4,7,8,9,10,42]),(6,[2,3,4,7,8,9,10,42,43]),(7,[2,3,4,7,8,9,10,42,43]),(8,[4,11,12,13]),(9,[4,5,6]),(10,[2,3,4,7,8,9,10,42,62]),(11,[4,14,15]),(12,[4,5,6]),(13,[2,3,4,7,8,9,10,42,74]),(14,[4,16,17,18]),(15,[4,5,6]),(16,[2,3,4,7,8,9,10,42,87]),(17,[2,3,4,7,8,9,10,42,87]),(18,[4,19,20,21]),(19,[4,5,6]),(20,[2,3,4,7,103]),(21,[4,22,23]),(22,[4,5,6]),(23,[4,24,25]),(24,[4,5,6])],lp:=[] }
def fn41:AFn:=AFn.mk 2 [.cellA 4 3,.tmp 5,.tmp 6]
 (.seq (.region [
 ob 2 (.box (.tmp 0)),
 ob 3 (.box (.tmp 1)),
 ob 4 (.box0 [(.slice .c0 []),(.int .i64 0),(.int .i64 0)]),
 ob 5 (.mv (.cst (.int .i64 0))),
 ob 6 (.mv (.cst (.int .i64 0)))] false [2,3,4]) q41_23)
theorem ok41:compFn Tryz.prog ann41 Tryz.f41=some fn41:=by kernel_rfl
def q79_0:ACode :=
 (.seq (.region [
 ob 18 (.faddr 0 (.tmp 2)),
 ob 19 (.load1 (.tmp 18)),
 ob 20 (.mv (.tmp 5)),
 ob 21 (.iaddr 6 (.tmp 19) (.tmp 20)),
 ob 22 (.faddr 0 (.tmp 21)),
 ob 23 (.load1 (.tmp 22)),
 ob 4 (.mv (.tmp 23))] false [4]) (.ret))
def q79_1:ACode :=
 (.seq (.region [
 ob 24 (.faddr 1 (.tmp 2)),
 ob 25 (.load1 (.tmp 24)),
 ob 4 (.mv (.tmp 25))] false [4]) (.ret))
def q79_2:ACode :=
 (.seq (.seq (.region [
 ob 13 (.mv (.tmp 5)),
 ob 14 (.faddr 0 (.tmp 2)),
 ob 15 (.load1 (.tmp 14)),
 ob 16 (.lenV (.tmp 15)),
 ob 17 (.bin .lss (.tmp 13) (.tmp 16))] false [2,5,17]) (.cond (.tmp 17) q79_0 (.skip))) q79_1)
def q79_3:ACode :=
 (.seq (.region [
 ob 6 (.mv (.tmp 1)),
 ob 7 (.conv .i64 (.tmp 6)),
 ob 8 (.faddr 0 (.tmp 2)),
 ob 9 (.load1 (.tmp 8)),
 ob 10 (.lenV (.tmp 9)),
 ob 11 (.bin .add (.tmp 10) (.cst (.int .i64 1))),
 ob 12 (.bin .rem (.tmp 7) (.tmp 11)),
 ob 5 (.mv (.tmp 12))] false [2,5]) q79_2)
def E79:=And.intro (exK_head q79_0.eq_1) (And.intro (exK_head q79_1.eq_1) (And.intro (exK_head q79_2.eq_1) (exK_head q79_3.eq_1)))
def ann79:Ann:={ n:=26,own:=[],lv:=[(0,[1,2]),(1,[2,5]),(2,[2,5,17]),(3,[4]),(4,[4])],lp:=[] }
def fn79:AFn:=AFn.mk 2 [.tmp 4]
 (.seq (.region [
 ob 2 (.box (.tmp 0)),
 ob 4 (.mv (.cst (.int .i64 0)))] false [1,2]) q79_3)
theorem ok79:compFn Tryz.prog ann79 Tryz.f79=some fn79:=by kernel_rfl
def q80_0:ACode :=
 (.seq (.region [
 ob 5 (.mv (.tmp 3)),
 ob 6 (.mv (.tmp 0)),
 ob 7 (.conv .i64 (.tmp 6)),
 ob 8 (.bin .rem (.tmp 7) (.cst (.int .i64 6))),
 ob 9 (.iaddr 1 (.tmp 5) (.tmp 8)),
 ob 10 (.load1 (.tmp 9)),
 ob 2 (.mv (.tmp 10))] false [2]) (.ret))
def q80_1:ACode :=
 (.seq (.region [
 ob 4 (.lits 1 [(.cst (.str [97])),(.cst (.str [98])),(.cst (.str [99])),(.cst (.str [100])),(.cst (.str [101])),(.cst (.str [46,46]))]),
 ob 3 (.mv (.tmp 4))] false [0,3]) q80_0)
def E80:=And.intro (exK_head q80_0.eq_1) (exK_head q80_1.eq_1)
def ann80:Ann:={ n:=11,own:=[],lv:=[(0,[0]),(1,[0,3]),(2,[2])],lp:=[] }
def fn80:AFn:=AFn.mk 1 [.tmp 2]
 (.seq (.region [
 ob 2 (.mv (.cst (.str [])))] false [0]) q80_1)
theorem ok80:compFn Tryz.prog ann80 Tryz.f80=some fn80:=by kernel_rfl
def q81_0:ACode :=
 (.seq (.region [
 ob 19 (.loadA 3 (.tmp 4)),
 ox (.store 3 (.tmp 8) (.tmp 19)),
 ob 9 (.mv (.cst (.int .i64 0))),
 ob 10 (.mv (.cst (.int .i64 1)))] false [8,9,10]) (.ret))
def q81_1:ACode :=
 (.seq (.region [
 ob 26 (.loadA 3 (.tmp 4)),
 ob 27 (.mv (.tmp 11)),
 ox (.store 3 (.tmp 8) (.tmp 26)),
 ob 9 (.mv (.cst (.int .i64 0))),
 ob 10 (.mv (.tmp 27))] false [8,9,10]) (.ret))
def q81_2:ACode :=
 (.seq (.region [
 ob 37 (.loadA 3 (.tmp 4)),
 ox (.store 3 (.tmp 8) (.tmp 37)),
 ob 9 (.mv (.cst (.int .i64 0))),
 ob 10 (.mv (.cst (.int .i64 76)))] false [8,9,10]) (.ret))
def q81_3:ACode :=
 (.region [
 ob 44 (.mv (.tmp 1)),
 ob 45 (.faddr 5 (.tmp 12)),
 ox (.store 1 (.tmp 45) (.tmp 44))] false [1,2,4,8,12])
def q81_4:ACode :=
 (.seq (.region [
 ob 50 (.loadA 3 (.tmp 4)),
 ob 51 (.loadA 6 (.tmp 12)),
 ⟨(some 52),.call 113 [(.tmp 50),(.tmp 51)],none,true,false,[]⟩,
 ob 53 (.mv (.tmp 1)),
 ob 54 (.mv (.tmp 2)),
 ob 55 (.faddr 0 (.tmp 12)),
 ob 56 (.load1 (.tmp 55)),
 ⟨(some 57),.call 112 [(.tmp 52),(.tmp 53),(.tmp 54),(.tmp 56)],none,true,false,[]⟩,
 ob 58 (.faddr 0 (.tmp 12)),
 ob 59 (.load1 (.tmp 58)),
 ⟨none,.store 3 (.tmp 8) (.tmp 57),none,true,false,[58]⟩,
 ob 9 (.mv (.tmp 59)),
 ob 10 (.mv (.cst (.int .i64 0)))] true [8,9,10]) (.ret))
def q81_5:ACode :=
 (.seq (.region [
 ob 46 (.faddr 1 (.tmp 4)),
 ob 47 (.load1 (.tmp 46)),
 ob 48 (.bin .add (.tmp 47) (.cst (.int .i64 1))),
 ob 49 (.faddr 1 (.tmp 4)),
 ox (.store 1 (.tmp 49) (.tmp 48))] false [1,2,4,8,12]) q81_4)
def q81_6:ACode :=
 (.seq (.seq (.region [
 ob 42 (.mv (.tmp 3)),
 ob 43 (.bin .eql (.tmp 42) (.cst (.int .i64 2)))] false [1,2,4,8,12,43]) (.cond (.tmp 43) q81_3 (.skip))) q81_5)
def q81_7:ACode :=
 (.seq (.region [
 ob 38 (.faddr 1 (.tmp 4)),
 ob 39 (.load1 (.tmp 38)),
 ob 40 (.mv (.tmp 3)),
 ob 41 (.build [(.int .i64 0),(.int .i64 0),(.int .i64 0),(.slice .c0 []),(.slice .c0 []),(.int .i64 0)] [(0,1,(.tmp 39)),(1,1,(.tmp 40)),(2,1,(.cst (.int .i64 1)))]),
 ob 12 (.box0 [(.int .i64 0),(.int .i64 0),(.int .i64 0),(.slice .c0 []),(.slice .c0 []),(.int .i64 0)]),
 ox (.store 6 (.tmp 12) (.tmp 41))] false [1,2,3,4,8,12]) q81_6)
def q81_8:ACode :=
 (.seq (.seq (.region [
 ob 28 (.faddr 0 (.tmp 4)),
 ob 29 (.load1 (.tmp 28)),
 ob 30 (.lenV (.tmp 29)),
 ob 31 (.bin .geq (.tmp 30) (.cst (.int .i64 200))),
 ob 32 (.mv (.tmp 31)),
 og 33 32 false (.faddr 1 (.tmp 4)),
 og 34 32 false (.load1 (.tmp 33)),
 og 35 32 false (.bin .geq (.tmp 34) (.cst (.int .i64 1099511627776))),
 ob 36 (.pick (.tmp 32) (.cst (.bool true)) (.tmp 35))] false [1,2,3,4,8,36]) (.cond (.tmp 36) q81_2 (.skip))) q81_7)
def q81_9:ACode :=
 (.seq (.seq (.region [
 ob 24 (.mv (.tmp 11)),
 ob 25 (.bin .neq (.tmp 24) (.cst (.int .i64 0)))] false [1,2,3,4,8,11,25]) (.cond (.tmp 25) q81_1 (.skip))) q81_8)
def q81_10:ACode :=
 (.seq (.region [
 ob 20 (.loadA 3 (.tmp 4)),
 ob 21 (.mv (.tmp 1)),
 ob 22 (.mv (.tmp 2)),
 ob 23 (.call 111 [(.tmp 20),(.tmp 21),(.tmp 22)]),
 ob 11 (.mv (.tmp 23))] false [1,2,3,4,8,11]) q81_9)
def q81_11:ACode :=
 (.seq (.seq (.region [
 ob 13 (.mv (.tmp 3)),
 ob 14 (.bin .neq (.tmp 13) (.cst (.int .i64 1))),
 ob 15 (.mv (.tmp 14)),
 og 16 15 true (.mv (.tmp 3)),
 og 17 15 true (.bin .neq (.tmp 16) (.cst (.int .i64 2))),
 ob 18 (.pick (.tmp 15) (.tmp 17) (.cst (.bool false)))] false [1,2,3,4,8,18]) (.cond (.tmp 18) q81_0 (.skip))) q81_10)
def E81:=And.intro (exK_head q81_0.eq_1) (And.intro (exK_head q81_1.eq_1) (And.intro (exK_head q81_2.eq_1) (And.intro (exK_head q81_3.eq_1) (And.intro (exK_head q81_4.eq_1) (And.intro (exK_head q81_5.eq_1) (And.intro (exK_head q81_6.eq_1) (And.intro (exK_head q81_7.eq_1) (And.intro (exK_head q81_8.eq_1) (And.intro (exK_head q81_9.eq_1) (And.intro (exK_head q81_10.eq_1) (exK_head q81_11.eq_1)))))))))))
def ann81:Ann:={ n:=60,own:=[],lv:=[(0,[1,2,3,4,8]),(1,[1,2,3,4,8,18]),(2,[8,9,10]),(3,[1,2,3,4,8,11]),(4,[1,2,3,4,8,11,25]),(5,[8,9,10]),(6,[1,2,3,4,8,36]),(7,[8,9,10]),(8,[1,2,3,4,8,12]),(9,[1,2,4,8,12,43]),(10,[1,2,4,8,12]),(11,[1,2,4,8,12]),(12,[8,9,10])],lp:=[] }
def fn81:AFn:=AFn.mk 4 [.cellA 8 3,.tmp 9,.tmp 10]
 (.seq (.region [
 ob 4 (.box (.tmp 0)),
 ob 8 (.box0 [(.slice .c0 []),(.int .i64 0),(.int .i64 0)]),
 ob 9 (.mv (.cst (.int .i64 0))),
 ob 10 (.mv (.cst (.int .i64 0)))] false [1,2,3,4,8]) q81_11)
theorem ok81:compFn Tryz.prog ann81 Tryz.f81=some fn81:=by kernel_rfl
def q82_0:ACode :=
 (.seq (.region [
 ob 31 (.loadA 3 (.tmp 4)),
 ox (.store 3 (.tmp 8) (.tmp 31)),
 ob 9 (.mv (.cst (.int .i64 70)))] false [8,9]) (.ret))
def q82_1:ACode :=
 (.seq (.region [
 ob 35 (.loadA 3 (.tmp 4)),
 ox (.store 3 (.tmp 8) (.tmp 35)),
 ob 9 (.mv (.cst (.int .i64 72)))] false [8,9]) (.ret))
def q82_2:ACode :=
 (.seq (.region [
 ob 42 (.loadA 3 (.tmp 4)),
 ob 43 (.mv (.tmp 12)),
 ox (.store 3 (.tmp 8) (.tmp 42)),
 ob 9 (.mv (.tmp 43))] false [8,9]) (.ret))
def q82_3:ACode :=
 (.seq (.region [
 ob 48 (.loadA 3 (.tmp 4)),
 ob 49 (.loadA 6 (.tmp 10)),
 ob 50 (.call 113 [(.tmp 48),(.tmp 49)]),
 ob 51 (.mv (.tmp 2)),
 ob 52 (.mv (.tmp 3)),
 ob 53 (.mv (.tmp 1)),
 ob 54 (.call 112 [(.tmp 50),(.tmp 51),(.tmp 52),(.tmp 53)]),
 ox (.store 3 (.tmp 8) (.tmp 54)),
 ob 9 (.mv (.cst (.int .i64 0)))] false [8,9]) (.ret))
def q82_4:ACode :=
 (.seq (.region [
 ob 44 (.faddr 2 (.tmp 10)),
 ob 45 (.load1 (.tmp 44)),
 ob 46 (.bin .add (.tmp 45) (.cst (.int .i64 1))),
 ob 47 (.faddr 2 (.tmp 10)),
 ox (.store 1 (.tmp 47) (.tmp 46))] false [1,2,3,4,8,10]) q82_3)
def q82_5:ACode :=
 (.seq (.seq (.region [
 ob 40 (.mv (.tmp 12)),
 ob 41 (.bin .neq (.tmp 40) (.cst (.int .i64 0)))] false [1,2,3,4,8,10,12,41]) (.cond (.tmp 41) q82_2 (.skip))) q82_4)
def q82_6:ACode :=
 (.seq (.region [
 ob 36 (.loadA 3 (.tmp 4)),
 ob 37 (.mv (.tmp 2)),
 ob 38 (.mv (.tmp 3)),
 ob 39 (.call 111 [(.tmp 36),(.tmp 37),(.tmp 38)]),
 ob 12 (.mv (.tmp 39))] false [1,2,3,4,8,10,12]) q82_5)
def q82_7:ACode :=
 (.seq (.seq (.region [
 ob 32 (.faddr 1 (.tmp 10)),
 ob 33 (.load1 (.tmp 32)),
 ob 34 (.bin .eql (.tmp 33) (.cst (.int .i64 2)))] false [1,2,3,4,8,10,34]) (.cond (.tmp 34) q82_1 (.skip))) q82_6)
def q82_8:ACode :=
 (.seq (.seq (.region [
 ob 19 (.mv (.tmp 11)),
 ob 20 (.not (.tmp 19)),
 ob 21 (.mv (.tmp 20)),
 og 22 21 false (.faddr 1 (.tmp 10)),
 og 23 21 false (.load1 (.tmp 22)),
 og 24 21 false (.bin .eql (.tmp 23) (.cst (.int .i64 1))),
 og 25 21 false (.mv (.tmp 24)),
 og 26 25 true (.faddr 2 (.tmp 10)),
 og 27 25 true (.load1 (.tmp 26)),
 og 28 25 true (.bin .eql (.tmp 27) (.cst (.int .i64 0))),
 og 29 21 false (.pick (.tmp 25) (.tmp 28) (.cst (.bool false))),
 ob 30 (.pick (.tmp 21) (.cst (.bool true)) (.tmp 29))] false [1,2,3,4,8,10,30]) (.cond (.tmp 30) q82_0 (.skip))) q82_7)
def q82_9:ACode :=
 (.seq (.region [
 ob 14 (.loadA 3 (.tmp 4)),
 ob 15 (.mv (.tmp 1)),
 ob 16 (.call 114 [(.tmp 14),(.tmp 15)]),
 ob 13 (.mv (.tmp 16)),
 ob 17 (.extract (.tmp 13) 0),
 ob 18 (.extract (.tmp 13) 1),
 ob 10 (.box0 [(.int .i64 0),(.int .i64 0),(.int .i64 0),(.slice .c0 []),(.slice .c0 []),(.int .i64 0)]),
 ox (.store 6 (.tmp 10) (.tmp 17)),
 ob 11 (.mv (.tmp 18))] false [1,2,3,4,8,10,11]) q82_8)
def E82:=And.intro (exK_head q82_0.eq_1) (And.intro (exK_head q82_1.eq_1) (And.intro (exK_head q82_2.eq_1) (And.intro (exK_head q82_3.eq_1) (And.intro (exK_head q82_4.eq_1) (And.intro (exK_head q82_5.eq_1) (And.intro (exK_head q82_6.eq_1) (And.intro (exK_head q82_7.eq_1) (And.intro (exK_head q82_8.eq_1) (exK_head q82_9.eq_1)))))))))
def ann82:Ann:={ n:=55,own:=[],lv:=[(0,[1,2,3,4,8]),(1,[1,2,3,4,8,10,11]),(2,[1,2,3,4,8,10,30]),(3,[8,9]),(4,[1,2,3,4,8,10,34]),(5,[8,9]),(6,[1,2,3,4,8,10,12]),(7,[1,2,3,4,8,10,12,41]),(8,[8,9]),(9,[1,2,3,4,8,10]),(10,[8,9])],lp:=[] }
def fn82:AFn:=AFn.mk 4 [.cellA 8 3,.tmp 9]
 (.seq (.region [
 ob 4 (.box (.tmp 0)),
 ob 8 (.box0 [(.slice .c0 []),(.int .i64 0),(.int .i64 0)]),
 ob 9 (.mv (.cst (.int .i64 0)))] false [1,2,3,4,8]) q82_9)
theorem ok82:compFn Tryz.prog ann82 Tryz.f82=some fn82:=by kernel_rfl
def q83_0:ACode :=
 (.seq (.region [
 ob 22 (.loadA 3 (.tmp 3)),
 ob 23 (.mv (.tmp 10)),
 ox (.store 3 (.tmp 6) (.tmp 22)),
 ob 7 (.mv (.cst (.int .i64 0))),
 ob 8 (.mv (.tmp 23))] false [6,7,8]) (.ret))
def q83_1:ACode :=
 (.seq (.region [
 ob 34 (.loadA 3 (.tmp 3)),
 ox (.store 3 (.tmp 6) (.tmp 34)),
 ob 7 (.mv (.cst (.int .i64 0))),
 ob 8 (.mv (.cst (.int .i64 74)))] false [6,7,8]) (.ret))
def q83_2:ACode :=
 (.seq (.region [
 ob 35 (.loadA 3 (.tmp 3)),
 ob 36 (.mv (.tmp 1)),
 ob 37 (.mv (.tmp 2)),
 ob 38 (.call 117 [(.tmp 35),(.tmp 36),(.tmp 37)]),
 ob 39 (.mv (.tmp 9)),
 ob 40 (.call 116 [(.tmp 38),(.tmp 39)]),
 ob 41 (.mv (.tmp 9)),
 ox (.store 3 (.tmp 6) (.tmp 40)),
 ob 7 (.mv (.tmp 41)),
 ob 8 (.mv (.cst (.int .i64 0)))] false [6,7,8]) (.ret))
def q83_3:ACode :=
 (.seq (.seq (.region [
 ob 30 (.faddr 4 (.tmp 11)),
 ob 31 (.load1 (.tmp 30)),
 ob 32 (.lenV (.tmp 31)),
 ob 33 (.bin .gtr (.tmp 32) (.cst (.int .i64 0)))] false [1,2,3,6,9,33]) (.cond (.tmp 33) q83_1 (.skip))) q83_2)
def q83_4:ACode :=
 (.seq (.region [
 ob 25 (.loadA 3 (.tmp 3)),
 ob 26 (.mv (.tmp 9)),
 ob 27 (.call 114 [(.tmp 25),(.tmp 26)]),
 ob 24 (.mv (.tmp 27)),
 ob 28 (.extract (.tmp 24) 0),
 ob 29 (.extract (.tmp 24) 1),
 ob 11 (.box0 [(.int .i64 0),(.int .i64 0),(.int .i64 0),(.slice .c0 []),(.slice .c0 []),(.int .i64 0)]),
 ox (.store 6 (.tmp 11) (.tmp 28)),
 ob 12 (.mv (.tmp 29))] false [1,2,3,6,9,11]) q83_3)
def q83_5:ACode :=
 (.seq (.seq (.region [
 ob 20 (.mv (.tmp 10)),
 ob 21 (.bin .neq (.tmp 20) (.cst (.int .i64 0)))] false [1,2,3,6,9,10,21]) (.cond (.tmp 21) q83_0 (.skip))) q83_4)
def q83_6:ACode :=
 (.seq (.region [
 ob 14 (.loadA 3 (.tmp 3)),
 ob 15 (.mv (.tmp 1)),
 ob 16 (.mv (.tmp 2)),
 ob 17 (.call 115 [(.tmp 14),(.tmp 15),(.tmp 16)]),
 ob 13 (.mv (.tmp 17)),
 ob 18 (.extract (.tmp 13) 0),
 ob 19 (.extract (.tmp 13) 1),
 ob 9 (.mv (.tmp 18)),
 ob 10 (.mv (.tmp 19))] false [1,2,3,6,9,10]) q83_5)
def E83:=And.intro (exK_head q83_0.eq_1) (And.intro (exK_head q83_1.eq_1) (And.intro (exK_head q83_2.eq_1) (And.intro (exK_head q83_3.eq_1) (And.intro (exK_head q83_4.eq_1) (And.intro (exK_head q83_5.eq_1) (exK_head q83_6.eq_1))))))
def ann83:Ann:={ n:=42,own:=[],lv:=[(0,[1,2,3,6]),(1,[1,2,3,6,9,10]),(2,[1,2,3,6,9,10,21]),(3,[6,7,8]),(4,[1,2,3,6,9,11]),(5,[1,2,3,6,9,33]),(6,[6,7,8]),(7,[6,7,8])],lp:=[] }
def fn83:AFn:=AFn.mk 3 [.cellA 6 3,.tmp 7,.tmp 8]
 (.seq (.region [
 ob 3 (.box (.tmp 0)),
 ob 6 (.box0 [(.slice .c0 []),(.int .i64 0),(.int .i64 0)]),
 ob 7 (.mv (.cst (.int .i64 0))),
 ob 8 (.mv (.cst (.int .i64 0)))] false [1,2,3,6]) q83_6)
theorem ok83:compFn Tryz.prog ann83 Tryz.f83=some fn83:=by kernel_rfl
def q84_0:ACode :=
 (.seq (.region [
 ob 31 (.loadA 3 (.tmp 5)),
 ob 32 (.mv (.tmp 14)),
 ox (.store 3 (.tmp 10) (.tmp 31)),
 ob 11 (.mv (.cst (.int .i64 0))),
 ob 12 (.mv (.tmp 32))] false [10,11,12]) (.ret))
def q84_1:ACode :=
 (.seq (.region [
 ob 41 (.loadA 3 (.tmp 5)),
 ob 42 (.mv (.tmp 14)),
 ox (.store 3 (.tmp 10) (.tmp 41)),
 ob 11 (.mv (.cst (.int .i64 0))),
 ob 12 (.mv (.tmp 42))] false [10,11,12]) (.ret))
def q84_2:ACode :=
 (.seq (.region [
 ob 46 (.loadA 3 (.tmp 5)),
 ox (.store 3 (.tmp 10) (.tmp 46)),
 ob 11 (.mv (.cst (.int .i64 0))),
 ob 12 (.mv (.cst (.int .i64 60)))] false [10,11,12]) (.ret))
def q84_3:ACode :=
 (.region [
 ob 52 (.faddr 4 (.tmp 15)),
 ob 53 (.load1 (.tmp 52)),
 ob 54 (.mv (.tmp 17)),
 ob 55 (.iaddr 3 (.tmp 53) (.tmp 54)),
 ob 56 (.faddr 1 (.tmp 55)),
 ob 57 (.load1 (.tmp 56)),
 ob 16 (.mv (.tmp 57))] false [1,2,3,4,5,10,13,15,16])
def q84_4:ACode :=
 (.seq (.region [
 ob 61 (.loadA 3 (.tmp 5)),
 ox (.store 3 (.tmp 10) (.tmp 61)),
 ob 11 (.mv (.cst (.int .i64 0))),
 ob 12 (.mv (.cst (.int .i64 0)))] false [10,11,12]) (.ret))
def q84_5:ACode :=
 (.seq (.region [
 ob 77 (.loadA 3 (.tmp 5)),
 ox (.store 3 (.tmp 10) (.tmp 77)),
 ob 11 (.mv (.cst (.int .i64 0))),
 ob 12 (.mv (.cst (.int .i64 75)))] false [10,11,12]) (.ret))
def q84_6:ACode :=
 (.seq (.region [
 ob 84 (.loadA 3 (.tmp 5)),
 ob 85 (.mv (.tmp 14)),
 ox (.store 3 (.tmp 10) (.tmp 84)),
 ob 11 (.mv (.cst (.int .i64 0))),
 ob 12 (.mv (.tmp 85))] false [10,11,12]) (.ret))
def q84_7:ACode :=
 (.seq (.region [
 ob 124 (.loadA 3 (.tmp 5)),
 ox (.store 3 (.tmp 10) (.tmp 124)),
 ob 11 (.mv (.cst (.int .i64 0))),
 ob 12 (.mv (.cst (.int .i64 76)))] false [10,11,12]) (.ret))
def q84_8:ACode :=
 (.region [
 ob 131 (.loadA 3 (.tmp 21)),
 ob 132 (.mv (.tmp 3)),
 ob 133 (.mv (.tmp 4)),
 ob 134 (.call 117 [(.tmp 131),(.tmp 132),(.tmp 133)]),
 ob 135 (.mv (.tmp 16)),
 ob 136 (.call 116 [(.tmp 134),(.tmp 135)]),
 ox (.store 3 (.tmp 21) (.tmp 136))] false [3,4,10,13,16,18,21])
def q84_9:ACode :=
 (.region [
 ob 142 (.loadA 3 (.tmp 21)),
 ob 143 (.loadA 6 (.tmp 18)),
 ob 144 (.call 113 [(.tmp 142),(.tmp 143)]),
 ox (.store 3 (.tmp 21) (.tmp 144))] false [3,4,10,13,16,21])
def q84_10:ACode :=
 (.seq (.region [
 ob 140 (.mv (.tmp 3)),
 ob 141 (.faddr 5 (.tmp 18)),
 ox (.store 1 (.tmp 141) (.tmp 140))] false [3,4,10,13,16,18,21]) q84_9)
def q84_11:ACode :=
 (.seq (.region [
 ob 145 (.loadA 3 (.tmp 21)),
 ob 146 (.mv (.tmp 3)),
 ob 147 (.mv (.tmp 4)),
 ob 148 (.mv (.tmp 13)),
 ob 149 (.call 112 [(.tmp 145),(.tmp 146),(.tmp 147),(.tmp 148)]),
 ob 150 (.mv (.tmp 16)),
 ox (.store 3 (.tmp 10) (.tmp 149)),
 ob 11 (.mv (.tmp 150)),
 ob 12 (.mv (.cst (.int .i64 0)))] false [10,11,12]) (.ret))
def q84_12:ACode :=
 (.seq (.seq (.region [
 ob 137 (.faddr 1 (.tmp 18)),
 ob 138 (.load1 (.tmp 137)),
 ob 139 (.bin .eql (.tmp 138) (.cst (.int .i64 2)))] false [3,4,10,13,16,18,21,139]) (.cond (.tmp 139) q84_10 (.skip))) q84_11)
def q84_13:ACode :=
 (.seq (.seq (.region [
 ob 129 (.mv (.tmp 16)),
 ob 130 (.bin .neq (.tmp 129) (.cst (.int .i64 0)))] false [3,4,10,13,16,18,21,130]) (.cond (.tmp 130) q84_8 (.skip))) q84_12)
def q84_14:ACode :=
 (.seq (.region [
 ob 125 (.loadA 3 (.tmp 5)),
 ob 126 (.mv (.tmp 1)),
 ob 127 (.mv (.tmp 2)),
 ob 128 (.call 117 [(.tmp 125),(.tmp 126),(.tmp 127)]),
 ob 21 (.box0 [(.slice .c0 []),(.int .i64 0),(.int .i64 0)]),
 ox (.store 3 (.tmp 21) (.tmp 128))] false [3,4,10,13,16,18,21]) q84_13)
def q84_15:ACode :=
 (.seq (.seq (.region [
 ob 89 (.mv (.tmp 16)),
 ob 90 (.bin .eql (.tmp 89) (.cst (.int .i64 0))),
 ob 91 (.mv (.tmp 90)),
 og 92 91 true (.mv (.tmp 3)),
 og 93 91 true (.mv (.tmp 1)),
 og 94 91 true (.bin .neq (.tmp 92) (.tmp 93)),
 ob 95 (.pick (.tmp 91) (.tmp 94) (.cst (.bool false))),
 ob 96 (.mv (.tmp 95)),
 og 97 96 true (.faddr 4 (.tmp 15)),
 og 98 96 true (.load1 (.tmp 97)),
 og 99 96 true (.lenV (.tmp 98)),
 og 100 96 true (.bin .geq (.tmp 99) (.cst (.int .i64 64))),
 ob 101 (.pick (.tmp 96) (.tmp 100) (.cst (.bool false))),
 ob 102 (.mv (.tmp 101)),
 og 103 102 false (.mv (.tmp 20)),
 og 104 102 false (.bin .geq (.tmp 103) (.cst (.int .i64 12))),
 ob 105 (.pick (.tmp 102) (.cst (.bool true)) (.tmp 104)),
 ob 106 (.mv (.tmp 105)),
 og 107 106 false (.faddr 1 (.tmp 18)),
 og 108 106 false (.load1 (.tmp 107)),
 og 109 106 false (.bin .eql (.tmp 108) (.cst (.int .i64 2))),
 og 110 106 false (.mv (.tmp 109)),
 og 111 110 true (.loadA 3 (.tmp 5)),
 og 112 110 true (.mv (.tmp 13)),
 og 113 110 true (.mv (.tmp 20)),
 og 114 110 true (.bin .add (.tmp 113) (.cst (.int .i64 1))),
 og 115 110 true (.call 124 [(.tmp 111),(.tmp 112),(.tmp 114)]),
 og 116 110 true (.bin .gtr (.tmp 115) (.cst (.int .i64 12))),
 og 117 106 false (.pick (.tmp 110) (.tmp 116) (.cst (.bool false))),
 ob 118 (.pick (.tmp 106) (.cst (.bool true)) (.tmp 117)),
 ob 119 (.mv (.tmp 118)),
 og 120 119 false (.faddr 2 (.tmp 5)),
 og 121 119 false (.load1 (.tmp 120)),
 og 122 119 false (.bin .geq (.tmp 121) (.cst (.int .i64 1099511627776))),
 ob 123 (.pick (.tmp 119) (.cst (.bool true)) (.tmp 122))] false [1,2,3,4,5,10,13,16,18,123]) (.cond (.tmp 123) q84_7 (.skip))) q84_14)
def q84_16:ACode :=
 (.seq (.region [
 ob 86 (.loadA 3 (.tmp 5)),
 ob 87 (.mv (.tmp 3)),
 ob 88 (.call 123 [(.tmp 86),(.tmp 87)]),
 ob 20 (.mv (.tmp 88))] false [1,2,3,4,5,10,13,15,16,18,20]) q84_15)
def q84_17:ACode :=
 (.seq (.seq (.region [
 ob 82 (.mv (.tmp 14)),
 ob 83 (.bin .neq (.tmp 82) (.cst (.int .i64 0)))] false [1,2,3,4,5,10,13,14,15,16,18,83]) (.cond (.tmp 83) q84_6 (.skip))) q84_16)
def q84_18:ACode :=
 (.seq (.region [
 ob 78 (.loadA 3 (.tmp 5)),
 ob 79 (.loadA 6 (.tmp 18)),
 ob 80 (.mv (.tmp 16)),
 ob 81 (.call 122 [(.tmp 78),(.tmp 79),(.tmp 80)]),
 ob 14 (.mv (.tmp 81))] false [1,2,3,4,5,10,13,14,15,16,18]) q84_17)
def q84_19:ACode :=
 (.seq (.seq (.region [
 ob 68 (.faddr 1 (.tmp 18)),
 ob 69 (.load1 (.tmp 68)),
 ob 70 (.bin .eql (.tmp 69) (.cst (.int .i64 2))),
 ob 71 (.mv (.tmp 70)),
 og 72 71 true (.loadA 3 (.tmp 5)),
 og 73 71 true (.mv (.tmp 3)),
 og 74 71 true (.mv (.tmp 13)),
 og 75 71 true (.call 121 [(.tmp 72),(.tmp 73),(.tmp 74)]),
 ob 76 (.pick (.tmp 71) (.tmp 75) (.cst (.bool false)))] false [1,2,3,4,5,10,13,15,16,18,76]) (.cond (.tmp 76) q84_5 (.skip))) q84_18)
def q84_20:ACode :=
 (.seq (.region [
 ob 63 (.loadA 3 (.tmp 5)),
 ob 64 (.mv (.tmp 13)),
 ob 65 (.call 114 [(.tmp 63),(.tmp 64)]),
 ob 62 (.mv (.tmp 65)),
 ob 66 (.extract (.tmp 62) 0),
 ob 67 (.extract (.tmp 62) 1),
 ob 18 (.box0 [(.int .i64 0),(.int .i64 0),(.int .i64 0),(.slice .c0 []),(.slice .c0 []),(.int .i64 0)]),
 ox (.store 6 (.tmp 18) (.tmp 66)),
 ob 19 (.mv (.tmp 67))] false [1,2,3,4,5,10,13,15,16,18]) q84_19)
def q84_21:ACode :=
 (.seq (.seq (.region [
 ob 58 (.mv (.tmp 16)),
 ob 59 (.mv (.tmp 13)),
 ob 60 (.bin .eql (.tmp 58) (.tmp 59))] false [1,2,3,4,5,10,13,15,16,60]) (.cond (.tmp 60) q84_4 (.skip))) q84_20)
def q84_22:ACode :=
 (.seq (.seq (.region [
 ob 50 (.mv (.tmp 17)),
 ob 51 (.bin .geq (.tmp 50) (.cst (.int .i64 0)))] false [1,2,3,4,5,10,13,15,16,17,51]) (.cond (.tmp 51) q84_3 (.skip))) q84_21)
def q84_23:ACode :=
 (.seq (.region [
 ob 47 (.loadA 6 (.tmp 15)),
 ob 48 (.mv (.tmp 4)),
 ob 49 (.call 120 [(.tmp 47),(.tmp 48)]),
 ob 17 (.mv (.tmp 49))] false [1,2,3,4,5,10,13,15,16,17]) q84_22)
def q84_24:ACode :=
 (.seq (.region [
 ob 16 (.mv (.cst (.int .i64 0)))] false [1,2,3,4,5,10,13,15,16]) q84_23)
def q84_25:ACode :=
 (.seq (.seq (.region [
 ob 43 (.mv (.tmp 4)),
 ob 44 (.call 119 [(.tmp 43)]),
 ob 45 (.not (.tmp 44))] false [1,2,3,4,5,10,13,15,45]) (.cond (.tmp 45) q84_2 (.skip))) q84_24)
def q84_26:ACode :=
 (.seq (.seq (.region [
 ob 39 (.mv (.tmp 14)),
 ob 40 (.bin .neq (.tmp 39) (.cst (.int .i64 0)))] false [1,2,3,4,5,10,13,14,15,40]) (.cond (.tmp 40) q84_1 (.skip))) q84_25)
def q84_27:ACode :=
 (.seq (.region [
 ob 34 (.loadA 3 (.tmp 5)),
 ob 35 (.mv (.tmp 3)),
 ob 36 (.call 118 [(.tmp 34),(.tmp 35)]),
 ob 33 (.mv (.tmp 36)),
 ob 37 (.extract (.tmp 33) 0),
 ob 38 (.extract (.tmp 33) 1),
 ob 15 (.box0 [(.int .i64 0),(.int .i64 0),(.int .i64 0),(.slice .c0 []),(.slice .c0 []),(.int .i64 0)]),
 ox (.store 6 (.tmp 15) (.tmp 37)),
 ob 14 (.mv (.tmp 38))] false [1,2,3,4,5,10,13,14,15]) q84_26)
def q84_28:ACode :=
 (.seq (.seq (.region [
 ob 29 (.mv (.tmp 14)),
 ob 30 (.bin .neq (.tmp 29) (.cst (.int .i64 0)))] false [1,2,3,4,5,10,13,14,30]) (.cond (.tmp 30) q84_0 (.skip))) q84_27)
def q84_29:ACode :=
 (.seq (.region [
 ob 23 (.loadA 3 (.tmp 5)),
 ob 24 (.mv (.tmp 1)),
 ob 25 (.mv (.tmp 2)),
 ob 26 (.call 115 [(.tmp 23),(.tmp 24),(.tmp 25)]),
 ob 22 (.mv (.tmp 26)),
 ob 27 (.extract (.tmp 22) 0),
 ob 28 (.extract (.tmp 22) 1),
 ob 13 (.mv (.tmp 27)),
 ob 14 (.mv (.tmp 28))] false [1,2,3,4,5,10,13,14]) q84_28)
def E84:=And.intro (exK_head q84_0.eq_1) (And.intro (exK_head q84_1.eq_1) (And.intro (exK_head q84_2.eq_1) (And.intro (exK_head q84_3.eq_1) (And.intro (exK_head q84_4.eq_1) (And.intro (exK_head q84_5.eq_1) (And.intro (exK_head q84_6.eq_1) (And.intro (exK_head q84_7.eq_1) (And.intro (exK_head q84_8.eq_1) (And.intro (exK_head q84_9.eq_1) (And.intro (exK_head q84_10.eq_1) (And.intro (exK_head q84_11.eq_1) (And.intro (exK_head q84_12.eq_1) (And.intro (exK_head q84_13.eq_1) (And.intro (exK_head q84_14.eq_1) (And.intro (exK_head q84_15.eq_1) (And.intro (exK_head q84_16.eq_1) (And.intro (exK_head q84_17.eq_1) (And.intro (exK_head q84_18.eq_1) (And.intro (exK_head q84_19.eq_1) (And.intro (exK_head q84_20.eq_1) (And.intro (exK_head q84_21.eq_1) (And.intro (exK_head q84_22.eq_1) (And.intro (exK_head q84_23.eq_1) (And.intro (exK_head q84_24.eq_1) (And.intro (exK_head q84_25.eq_1) (And.intro (exK_head q84_26.eq_1) (And.intro (exK_head q84_27.eq_1) (And.intro (exK_head q84_28.eq_1) (exK_head q84_29.eq_1)))))))))))))))))))))))))))))
def ann84:Ann:={ n:=151,own:=[],lv:=[(0,[1,2,3,4,5,10]),(1,[1,2,3,4,5,10,13,14]),(2,[1,2,3,4,5,10,13,14,30]),(3,[10,11,12]),(4,[1,2,3,4,5,10,13,14,15]),(5,[1,2,3,4,5,10,13,14,15,40]),(6,[10,11,12]),(7,[1,2,3,4,5,10,13,15,45]),(8,[10,11,12]),(9,[1,2,3,4,5,10,13,15,16]),(10,[1,2,3,4,5,10,13,15,16,17]),(11,[1,2,3,4,5,10,13,15,16,17,51]),(12,[1,2,3,4,5,10,13,15,16]),(13,[1,2,3,4,5,10,13,15,16,60]),(14,[10,11,12]),(15,[1,2,3,4,5,10,13,15,16,18]),(16,[1,2,3,4,5,10,13,15,16,18,76]),(17,[10,11,12]),(18,[1,2,3,4,5,10,13,14,15,16,18]),(19,[1,2,3,4,5,10,13,14,15,16,18,83]),(20,[10,11,12]),(21,[1,2,3,4,5,10,13,15,16,18,20]),(22,[1,2,3,4,5,10,13,16,18,123]),(23,[10,11,12]),(24,[3,4,10,13,16,18,21]),(25,[3,4,10,13,16,18,21,130]),(26,[3,4,10,13,16,18,21]),(27,[3,4,10,13,16,18,21,139]),(28,[3,4,10,13,16,18,21]),(29,[3,4,10,13,16,21]),(30,[10,11,12])],lp:=[] }
def fn84:AFn:=AFn.mk 5 [.cellA 10 3,.tmp 11,.tmp 12]
 (.seq (.region [
 ob 5 (.box (.tmp 0)),
 ob 10 (.box0 [(.slice .c0 []),(.int .i64 0),(.int .i64 0)]),
 ob 11 (.mv (.cst (.int .i64 0))),
 ob 12 (.mv (.cst (.int .i64 0)))] false [1,2,3,4,5,10]) q84_29)
theorem ok84:compFn Tryz.prog ann84 Tryz.f84=some fn84:=by kernel_rfl
def q85_0:ACode :=
 (.seq (.region [
 ob 18 (.loadA 3 (.tmp 3)),
 ox (.store 3 (.tmp 6) (.tmp 18)),
 ob 7 (.mv (.cst (.int .i64 70)))] false [6,7]) (.ret))
def q85_1:ACode :=
 (.seq (.region [
 ob 22 (.loadA 3 (.tmp 3)),
 ox (.store 3 (.tmp 6) (.tmp 22)),
 ob 7 (.mv (.cst (.int .i64 72)))] false [6,7]) (.ret))
def q85_2:ACode :=
 (.seq (.region [
 ob 26 (.loadA 3 (.tmp 3)),
 ox (.store 3 (.tmp 6) (.tmp 26)),
 ob 7 (.mv (.cst (.int .i64 2)))] false [6,7]) (.ret))
def q85_3:ACode :=
 (.seq (.region [
 ob 31 (.loadA 3 (.tmp 3)),
 ob 32 (.loadA 6 (.tmp 8)),
 ob 33 (.call 113 [(.tmp 31),(.tmp 32)]),
 ox (.store 3 (.tmp 6) (.tmp 33)),
 ob 7 (.mv (.cst (.int .i64 0)))] false [6,7]) (.ret))
def q85_4:ACode :=
 (.seq (.region [
 ob 27 (.litsO 1 []),
 ob 28 (.mv (.tmp 2)),
 ob 29 (.append 1 1 (.tmp 27) (.tmp 28)),
 ob 30 (.faddr 3 (.tmp 8)),
 ox (.store 1 (.tmp 30) (.tmp 29))] false [3,6,8]) q85_3)
def q85_5:ACode :=
 (.seq (.seq (.region [
 ob 23 (.mv (.tmp 2)),
 ob 24 (.lenV (.tmp 23)),
 ob 25 (.bin .gtr (.tmp 24) (.cst (.int .i64 4096)))] false [2,3,6,8,25]) (.cond (.tmp 25) q85_2 (.skip))) q85_4)
def q85_6:ACode :=
 (.seq (.seq (.region [
 ob 19 (.faddr 1 (.tmp 8)),
 ob 20 (.load1 (.tmp 19)),
 ob 21 (.bin .eql (.tmp 20) (.cst (.int .i64 2)))] false [2,3,6,8,21]) (.cond (.tmp 21) q85_1 (.skip))) q85_5)
def q85_7:ACode :=
 (.seq (.seq (.region [
 ob 16 (.mv (.tmp 9)),
 ob 17 (.not (.tmp 16))] false [2,3,6,8,17]) (.cond (.tmp 17) q85_0 (.skip))) q85_6)
def q85_8:ACode :=
 (.seq (.region [
 ob 11 (.loadA 3 (.tmp 3)),
 ob 12 (.mv (.tmp 1)),
 ob 13 (.call 114 [(.tmp 11),(.tmp 12)]),
 ob 10 (.mv (.tmp 13)),
 ob 14 (.extract (.tmp 10) 0),
 ob 15 (.extract (.tmp 10) 1),
 ob 8 (.box0 [(.int .i64 0),(.int .i64 0),(.int .i64 0),(.slice .c0 []),(.slice .c0 []),(.int .i64 0)]),
 ox (.store 6 (.tmp 8) (.tmp 14)),
 ob 9 (.mv (.tmp 15))] false [2,3,6,8,9]) q85_7)
def E85:=And.intro (exK_head q85_0.eq_1) (And.intro (exK_head q85_1.eq_1) (And.intro (exK_head q85_2.eq_1) (And.intro (exK_head q85_3.eq_1) (And.intro (exK_head q85_4.eq_1) (And.intro (exK_head q85_5.eq_1) (And.intro (exK_head q85_6.eq_1) (And.intro (exK_head q85_7.eq_1) (exK_head q85_8.eq_1))))))))
def ann85:Ann:={ n:=34,own:=[27],lv:=[(0,[1,2,3,6]),(1,[2,3,6,8,9]),(2,[2,3,6,8,17]),(3,[6,7]),(4,[2,3,6,8,21]),(5,[6,7]),(6,[2,3,6,8,25]),(7,[6,7]),(8,[3,6,8]),(9,[6,7])],lp:=[] }
def fn85:AFn:=AFn.mk 3 [.cellA 6 3,.tmp 7]
 (.seq (.region [
 ob 3 (.box (.tmp 0)),
 ob 6 (.box0 [(.slice .c0 []),(.int .i64 0),(.int .i64 0)]),
 ob 7 (.mv (.cst (.int .i64 0)))] false [1,2,3,6]) q85_8)
theorem ok85:compFn Tryz.prog ann85 Tryz.f85=some fn85:=by kernel_rfl
def q86_0:ACode :=
 (.seq (.region [
 ob 16 (.loadA 3 (.tmp 2)),
 ox (.store 3 (.tmp 4) (.tmp 16)),
 ob 5 (.mv (.cst (.int .i64 70)))] false [4,5]) (.ret))
def q86_1:ACode :=
 (.seq (.region [
 ob 20 (.loadA 3 (.tmp 2)),
 ox (.store 3 (.tmp 4) (.tmp 20)),
 ob 5 (.mv (.cst (.int .i64 72)))] false [4,5]) (.ret))
def q86_2:ACode :=
 (.seq (.region [
 ob 24 (.loadA 3 (.tmp 2)),
 ox (.store 3 (.tmp 4) (.tmp 24)),
 ob 5 (.mv (.cst (.int .i64 71)))] false [4,5]) (.ret))
def q86_3:ACode :=
 (.seq (.region [
 ob 25 (.loadA 3 (.tmp 2)),
 ob 26 (.mv (.tmp 1)),
 ob 27 (.call 125 [(.tmp 25),(.tmp 26)]),
 ox (.store 3 (.tmp 4) (.tmp 27)),
 ob 5 (.mv (.cst (.int .i64 0)))] false [4,5]) (.ret))
def q86_4:ACode :=
 (.seq (.seq (.region [
 ob 21 (.faddr 2 (.tmp 6)),
 ob 22 (.load1 (.tmp 21)),
 ob 23 (.bin .gtr (.tmp 22) (.cst (.int .i64 0)))] false [1,2,4,23]) (.cond (.tmp 23) q86_2 (.skip))) q86_3)
def q86_5:ACode :=
 (.seq (.seq (.region [
 ob 17 (.faddr 1 (.tmp 6)),
 ob 18 (.load1 (.tmp 17)),
 ob 19 (.bin .eql (.tmp 18) (.cst (.int .i64 2)))] false [1,2,4,6,19]) (.cond (.tmp 19) q86_1 (.skip))) q86_4)
def q86_6:ACode :=
 (.seq (.seq (.region [
 ob 14 (.mv (.tmp 7)),
 ob 15 (.not (.tmp 14))] false [1,2,4,6,15]) (.cond (.tmp 15) q86_0 (.skip))) q86_5)
def q86_7:ACode :=
 (.seq (.region [
 ob 9 (.loadA 3 (.tmp 2)),
 ob 10 (.mv (.tmp 1)),
 ob 11 (.call 114 [(.tmp 9),(.tmp 10)]),
 ob 8 (.mv (.tmp 11)),
 ob 12 (.extract (.tmp 8) 0),
 ob 13 (.extract (.tmp 8) 1),
 ob 6 (.box0 [(.int .i64 0),(.int .i64 0),(.int .i64 0),(.slice .c0 []),(.slice .c0 []),(.int .i64 0)]),
 ox (.store 6 (.tmp 6) (.tmp 12)),
 ob 7 (.mv (.tmp 13))] false [1,2,4,6,7]) q86_6)
def E86:=And.intro (exK_head q86_0.eq_1) (And.intro (exK_head q86_1.eq_1) (And.intro (exK_head q86_2.eq_1) (And.intro (exK_head q86_3.eq_1) (And.intro (exK_head q86_4.eq_1) (And.intro (exK_head q86_5.eq_1) (And.intro (exK_head q86_6.eq_1) (exK_head q86_7.eq_1)))))))
def ann86:Ann:={ n:=28,own:=[],lv:=[(0,[1,2,4]),(1,[1,2,4,6,7]),(2,[1,2,4,6,15]),(3,[4,5]),(4,[1,2,4,6,19]),(5,[4,5]),(6,[1,2,4,23]),(7,[4,5]),(8,[4,5])],lp:=[] }
def fn86:AFn:=AFn.mk 2 [.cellA 4 3,.tmp 5]
 (.seq (.region [
 ob 2 (.box (.tmp 0)),
 ob 4 (.box0 [(.slice .c0 []),(.int .i64 0),(.int .i64 0)]),
 ob 5 (.mv (.cst (.int .i64 0)))] false [1,2,4]) q86_7)
theorem ok86:compFn Tryz.prog ann86 Tryz.f86=some fn86:=by kernel_rfl
def q111_0:ACode :=
 (.seq (.region [
 ob 17 (.mv (.tmp 8)),
 ob 6 (.mv (.tmp 17))] false [6]) (.ret))
def q111_1:ACode :=
 (.seq (.region [
 ob 6 (.mv (.cst (.int .i64 60)))] false [6]) (.ret))
def q111_2:ACode :=
 (.seq (.region [
 ob 6 (.mv (.cst (.int .i64 71)))] false [6]) (.ret))
def q111_3:ACode :=
 (.seq (.region [
 ob 6 (.mv (.cst (.int .i64 76)))] false [6]) (.ret))
def q111_4:ACode :=
 (.seq (.region [
 ob 6 (.mv (.cst (.int .i64 0)))] false [6]) (.ret))
def q111_5:ACode :=
 (.seq (.seq (.region [
 ob 25 (.loadA 3 (.tmp 3)),
 ob 26 (.loadA 6 (.tmp 7)),
 ob 27 (.call 155 [(.tmp 25),(.tmp 26)])] false [27]) (.cond (.tmp 27) q111_3 (.skip))) q111_4)
def q111_6:ACode :=
 (.seq (.seq (.region [
 ob 21 (.loadA 6 (.tmp 7)),
 ob 22 (.mv (.tmp 2)),
 ob 23 (.call 120 [(.tmp 21),(.tmp 22)]),
 ob 24 (.bin .geq (.tmp 23) (.cst (.int .i64 0)))] false [3,7,24]) (.cond (.tmp 24) q111_2 (.skip))) q111_5)
def q111_7:ACode :=
 (.seq (.seq (.region [
 ob 18 (.mv (.tmp 2)),
 ob 19 (.call 119 [(.tmp 18)]),
 ob 20 (.not (.tmp 19))] false [2,3,7,20]) (.cond (.tmp 20) q111_1 (.skip))) q111_6)
def q111_8:ACode :=
 (.seq (.seq (.region [
 ob 15 (.mv (.tmp 8)),
 ob 16 (.bin .neq (.tmp 15) (.cst (.int .i64 0)))] false [2,3,7,8,16]) (.cond (.tmp 16) q111_0 (.skip))) q111_7)
def q111_9:ACode :=
 (.seq (.region [
 ob 10 (.loadA 3 (.tmp 3)),
 ob 11 (.mv (.tmp 1)),
 ob 12 (.call 118 [(.tmp 10),(.tmp 11)]),
 ob 9 (.mv (.tmp 12)),
 ob 13 (.extract (.tmp 9) 0),
 ob 14 (.extract (.tmp 9) 1),
 ob 7 (.box0 [(.int .i64 0),(.int .i64 0),(.int .i64 0),(.slice .c0 []),(.slice .c0 []),(.int .i64 0)]),
 ox (.store 6 (.tmp 7) (.tmp 13)),
 ob 8 (.mv (.tmp 14))] false [2,3,7,8]) q111_8)
def E111:=And.intro (exK_head q111_0.eq_1) (And.intro (exK_head q111_1.eq_1) (And.intro (exK_head q111_2.eq_1) (And.intro (exK_head q111_3.eq_1) (And.intro (exK_head q111_4.eq_1) (And.intro (exK_head q111_5.eq_1) (And.intro (exK_head q111_6.eq_1) (And.intro (exK_head q111_7.eq_1) (And.intro (exK_head q111_8.eq_1) (exK_head q111_9.eq_1)))))))))
def ann111:Ann:={ n:=28,own:=[],lv:=[(0,[1,2,3]),(1,[2,3,7,8]),(2,[2,3,7,8,16]),(3,[6]),(4,[2,3,7,20]),(5,[6]),(6,[3,7,24]),(7,[6]),(8,[27]),(9,[6]),(10,[6])],lp:=[] }
def fn111:AFn:=AFn.mk 3 [.tmp 6]
 (.seq (.region [
 ob 3 (.box (.tmp 0)),
 ob 6 (.mv (.cst (.int .i64 0)))] false [1,2,3]) q111_9)
theorem ok111:compFn Tryz.prog ann111 Tryz.f111=some fn111:=by kernel_rfl
def q112_0:ACode :=
 (.region [
 ob 13 (.mv (.cst (.bool true)))] false [2,4,8,9,11,12,13,14])
def q112_1:ACode :=
 (.seq (.region [
 ob 45 (.mv (.tmp 12)),
 ob 46 (.loadA 3 (.tmp 11)),
 ob 47 (.lits 3 [(.tmp 46)]),
 ob 48 (.append 3 32 (.tmp 45) (.tmp 47)),
 ob 12 (.mv (.tmp 48))] false [2,4,8,9,11,12,14]) q112_0)
def q112_2:ACode :=
 (.region [
 ob 49 (.mv (.tmp 12)),
 ob 50 (.faddr 4 (.tmp 9)),
 ob 51 (.load1 (.tmp 50)),
 ob 52 (.mv (.tmp 14)),
 ob 53 (.iaddr 3 (.tmp 51) (.tmp 52)),
 ob 54 (.loadA 3 (.tmp 53)),
 ob 55 (.lits 3 [(.tmp 54)]),
 ob 56 (.append 3 32 (.tmp 49) (.tmp 55)),
 ob 12 (.mv (.tmp 56))] false [2,4,8,9,11,12,13,14])
def q112_3:ACode :=
 (.region [
 ob 31 (.mv (.tmp 14)),
 ob 32 (.bin .add (.tmp 31) (.cst (.int .i64 1))),
 ob 14 (.mv (.tmp 32))] false [2,4,8,9,11,12,13,14])
def q112_4:ACode :=
 (.seq (.block 1 (.seq (.seq (.region [
 ob 33 (.mv (.tmp 13)),
 ob 34 (.not (.tmp 33)),
 ob 35 (.mv (.tmp 34)),
 og 36 35 true (.faddr 4 (.tmp 9)),
 og 37 35 true (.load1 (.tmp 36)),
 og 38 35 true (.mv (.tmp 14)),
 og 39 35 true (.iaddr 3 (.tmp 37) (.tmp 38)),
 og 40 35 true (.faddr 0 (.tmp 39)),
 og 41 35 true (.load1 (.tmp 40)),
 og 42 35 true (.mv (.tmp 2)),
 og 43 35 true (.bin .gtr (.tmp 41) (.tmp 42)),
 ob 44 (.pick (.tmp 35) (.tmp 43) (.cst (.bool false)))] false [2,4,8,9,11,12,13,14,44]) (.cond (.tmp 44) q112_1 (.skip))) q112_2)) q112_3)
def lb112_0:ACode :=
 (.seq (.seq (.region [
 ob 26 (.mv (.tmp 14)),
 ob 27 (.faddr 4 (.tmp 9)),
 ob 28 (.load1 (.tmp 27)),
 ob 29 (.lenV (.tmp 28)),
 ob 30 (.bin .lss (.tmp 26) (.tmp 29))] false [2,4,8,9,11,12,13,14,30]) (.cond (.tmp 30) (.skip) (.exit 0))) q112_4)
def q112_5:ACode :=
 (.block 0 (.loop [2,4,8,9,11,12,13,14] lb112_0))
def q112_6:ACode :=
 (.region [
 ob 59 (.mv (.tmp 12)),
 ob 60 (.loadA 3 (.tmp 11)),
 ob 61 (.lits 3 [(.tmp 60)]),
 ob 62 (.append 3 32 (.tmp 59) (.tmp 61)),
 ob 12 (.mv (.tmp 62))] false [4,8,9,12])
def q112_7:ACode :=
 (.seq (.region [
 ob 69 (.loadA 3 (.tmp 4)),
 ob 70 (.loadA 6 (.tmp 9)),
 ob 71 (.call 113 [(.tmp 69),(.tmp 70)]),
 ox (.store 3 (.tmp 8) (.tmp 71))] false [8]) (.ret))
def q112_8:ACode :=
 (.seq (.region [
 ob 65 (.faddr 2 (.tmp 4)),
 ob 66 (.load1 (.tmp 65)),
 ob 67 (.bin .add (.tmp 66) (.cst (.int .i64 1))),
 ob 68 (.faddr 2 (.tmp 4)),
 ox (.store 1 (.tmp 68) (.tmp 67))] false [4,8,9]) q112_7)
def q112_9:ACode :=
 (.seq (.region [
 ob 63 (.mv (.tmp 12)),
 ob 64 (.faddr 4 (.tmp 9)),
 ox (.store 1 (.tmp 64) (.tmp 63))] false [4,8,9]) q112_8)
def q112_10:ACode :=
 (.seq (.seq (.region [
 ob 57 (.mv (.tmp 13)),
 ob 58 (.not (.tmp 57))] false [4,8,9,11,12,58]) (.cond (.tmp 58) q112_6 (.skip))) q112_9)
def q112_11:ACode :=
 (.seq (.seq (.region [
 ob 14 (.mv (.cst (.int .i64 0)))] false [2,4,8,9,11,12,13,14]) q112_5) q112_10)
def q112_12:ACode :=
 (.seq (.region [
 ob 13 (.mv (.cst (.bool false)))] false [2,4,8,9,11,12,13]) q112_11)
def q112_13:ACode :=
 (.seq (.region [
 ob 12 (.own 3 (.cst (.slice .c0 [])))] false [2,4,8,9,11,12]) q112_12)
def q112_14:ACode :=
 (.seq (.region [
 ob 21 (.mv (.tmp 2)),
 ob 22 (.mv (.tmp 3)),
 ob 23 (.faddr 2 (.tmp 4)),
 ob 24 (.load1 (.tmp 23)),
 ob 25 (.build [(.str []),(.int .i64 0),(.int .i64 0)] [(0,1,(.tmp 21)),(1,1,(.tmp 22)),(2,1,(.tmp 24))]),
 ob 11 (.box0 [(.str []),(.int .i64 0),(.int .i64 0)]),
 ox (.store 3 (.tmp 11) (.tmp 25))] false [2,4,8,9,11]) q112_13)
def q112_15:ACode :=
 (.seq (.region [
 ob 16 (.loadA 3 (.tmp 4)),
 ob 17 (.mv (.tmp 1)),
 ob 18 (.call 114 [(.tmp 16),(.tmp 17)]),
 ob 15 (.mv (.tmp 18)),
 ob 19 (.extract (.tmp 15) 0),
 ob 20 (.extract (.tmp 15) 1),
 ob 9 (.box0 [(.int .i64 0),(.int .i64 0),(.int .i64 0),(.slice .c0 []),(.slice .c0 []),(.int .i64 0)]),
 ox (.store 6 (.tmp 9) (.tmp 19)),
 ob 10 (.mv (.tmp 20))] false [2,3,4,8,9]) q112_14)
def E112:=And.intro (exK_head q112_0.eq_1) (And.intro (exK_head q112_1.eq_1) (And.intro (exK_head q112_2.eq_1) (And.intro (exK_head q112_3.eq_1) (And.intro (exK_head q112_4.eq_1) (And.intro (exK_head lb112_0.eq_1) (And.intro (exK_head q112_5.eq_1) (And.intro (exK_head q112_6.eq_1) (And.intro (exK_head q112_7.eq_1) (And.intro (exK_head q112_8.eq_1) (And.intro (exK_head q112_9.eq_1) (And.intro (exK_head q112_10.eq_1) (And.intro (exK_head q112_11.eq_1) (And.intro (exK_head q112_12.eq_1) (And.intro (exK_head q112_13.eq_1) (And.intro (exK_head q112_14.eq_1) (exK_head q112_15.eq_1))))))))))))))))
def ann112:Ann:={ n:=72,own:=[12],lv:=[(0,[1,2,3,4,8]),(1,[2,3,4,8,9]),(2,[2,4,8,9,11]),(3,[2,4,8,9,11,12]),(4,[2,4,8,9,11,12,13]),(5,[2,4,8,9,11,12,13,14]),(6,[2,4,8,9,11,12,13,14,30]),(7,[2,4,8,9,11,12,13,14]),(8,[2,4,8,9,11,12,13,14,44]),(9,[2,4,8,9,11,12,14]),(10,[2,4,8,9,11,12,13,14]),(11,[2,4,8,9,11,12,13,14]),(12,[4,8,9,11,12,58]),(13,[4,8,9,12]),(14,[4,8,9]),(15,[4,8,9]),(16,[8])],lp:=[(6,[2,4,8,9,11,12,13,14])] }
def fn112:AFn:=AFn.mk 4 [.cellA 8 3]
 (.seq (.region [
 ob 4 (.box (.tmp 0)),
 ob 8 (.box0 [(.slice .c0 []),(.int .i64 0),(.int .i64 0)])] false [1,2,3,4,8]) q112_15)
theorem ok112:compFn Tryz.prog ann112 Tryz.f112=some fn112:=by kernel_rfl
def q113_0:ACode :=
 (.region [
 ob 6 (.mv (.cst (.bool true)))] false [2,3,4,5,6,7])
def q113_1:ACode :=
 (.seq (.region [
 ob 28 (.mv (.tmp 5)),
 ob 29 (.loadA 6 (.tmp 3)),
 ob 30 (.lits 6 [(.tmp 29)]),
 ob 31 (.append 6 80 (.tmp 28) (.tmp 30)),
 ob 5 (.mv (.tmp 31))] false [2,3,4,5,7]) q113_0)
def q113_2:ACode :=
 (.region [
 ob 41 (.mv (.tmp 5)),
 ob 42 (.faddr 0 (.tmp 2)),
 ob 43 (.load1 (.tmp 42)),
 ob 44 (.mv (.tmp 7)),
 ob 45 (.iaddr 6 (.tmp 43) (.tmp 44)),
 ob 46 (.loadA 6 (.tmp 45)),
 ob 47 (.lits 6 [(.tmp 46)]),
 ob 48 (.append 6 80 (.tmp 41) (.tmp 47)),
 ob 5 (.mv (.tmp 48))] false [2,3,4,5,6,7])
def q113_3:ACode :=
 (.seq (.region [
 ob 32 (.faddr 0 (.tmp 2)),
 ob 33 (.load1 (.tmp 32)),
 ob 34 (.mv (.tmp 7)),
 ob 35 (.iaddr 6 (.tmp 33) (.tmp 34)),
 ob 36 (.faddr 0 (.tmp 35)),
 ob 37 (.load1 (.tmp 36)),
 ob 38 (.faddr 0 (.tmp 3)),
 ob 39 (.load1 (.tmp 38)),
 ob 40 (.bin .neq (.tmp 37) (.tmp 39))] true [2,3,4,5,6,7,40]) (.cond (.tmp 40) q113_2 (.skip)))
def q113_4:ACode :=
 (.region [
 ob 13 (.mv (.tmp 7)),
 ob 14 (.bin .add (.tmp 13) (.cst (.int .i64 1))),
 ob 7 (.mv (.tmp 14))] false [2,3,4,5,6,7])
def q113_5:ACode :=
 (.seq (.block 1 (.seq (.seq (.region [
 ob 15 (.mv (.tmp 6)),
 ob 16 (.not (.tmp 15)),
 ob 17 (.mv (.tmp 16)),
 og 18 17 true (.faddr 0 (.tmp 2)),
 og 19 17 true (.load1 (.tmp 18)),
 og 20 17 true (.mv (.tmp 7)),
 og 21 17 true (.iaddr 6 (.tmp 19) (.tmp 20)),
 og 22 17 true (.faddr 0 (.tmp 21)),
 og 23 17 true (.load1 (.tmp 22)),
 og 24 17 true (.faddr 0 (.tmp 3)),
 og 25 17 true (.load1 (.tmp 24)),
 og 26 17 true (.bin .geq (.tmp 23) (.tmp 25)),
 ob 27 (.pick (.tmp 17) (.tmp 26) (.cst (.bool false)))] true [2,3,4,5,6,7,27]) (.cond (.tmp 27) q113_1 (.skip))) q113_3)) q113_4)
def lb113_0:ACode :=
 (.seq (.seq (.region [
 ob 8 (.mv (.tmp 7)),
 ob 9 (.faddr 0 (.tmp 2)),
 ob 10 (.load1 (.tmp 9)),
 ob 11 (.lenV (.tmp 10)),
 ob 12 (.bin .lss (.tmp 8) (.tmp 11))] false [2,3,4,5,6,7,12]) (.cond (.tmp 12) (.skip) (.exit 0))) q113_5)
def q113_6:ACode :=
 (.block 0 (.loop [2,3,4,5,6,7] lb113_0))
def q113_7:ACode :=
 (.region [
 ob 51 (.mv (.tmp 5)),
 ob 52 (.loadA 6 (.tmp 3)),
 ob 53 (.lits 6 [(.tmp 52)]),
 ob 54 (.append 6 80 (.tmp 51) (.tmp 53)),
 ob 5 (.mv (.tmp 54))] false [2,4,5])
def q113_8:ACode :=
 (.seq (.region [
 ob 57 (.loadA 3 (.tmp 2)),
 ox (.store 3 (.tmp 4) (.tmp 57))] false [4]) (.ret))
def q113_9:ACode :=
 (.seq (.region [
 ob 55 (.mv (.tmp 5)),
 ob 56 (.faddr 0 (.tmp 2)),
 ox (.store 1 (.tmp 56) (.tmp 55))] false [2,4]) q113_8)
def q113_10:ACode :=
 (.seq (.seq (.region [
 ob 49 (.mv (.tmp 6)),
 ob 50 (.not (.tmp 49))] false [2,3,4,5,50]) (.cond (.tmp 50) q113_7 (.skip))) q113_9)
def q113_11:ACode :=
 (.seq (.seq (.region [
 ob 7 (.mv (.cst (.int .i64 0)))] false [2,3,4,5,6,7]) q113_6) q113_10)
def q113_12:ACode :=
 (.seq (.region [
 ob 6 (.mv (.cst (.bool false)))] false [2,3,4,5,6]) q113_11)
def q113_13:ACode :=
 (.seq (.region [
 ob 5 (.own 6 (.cst (.slice .c0 [])))] false [2,3,4,5]) q113_12)
def E113:=And.intro (exK_head q113_0.eq_1) (And.intro (exK_head q113_1.eq_1) (And.intro (exK_head q113_2.eq_1) (And.intro (exK_head q113_3.eq_1) (And.intro (exK_head q113_4.eq_1) (And.intro (exK_head q113_5.eq_1) (And.intro (exK_head lb113_0.eq_1) (And.intro (exK_head q113_6.eq_1) (And.intro (exK_head q113_7.eq_1) (And.intro (exK_head q113_8.eq_1) (And.intro (exK_head q113_9.eq_1) (And.intro (exK_head q113_10.eq_1) (And.intro (exK_head q113_11.eq_1) (And.intro (exK_head q113_12.eq_1) (exK_head q113_13.eq_1))))))))))))))
def ann113:Ann:={ n:=58,own:=[5],lv:=[(0,[2,3,4]),(1,[2,3,4,5]),(2,[2,3,4,5,6]),(3,[2,3,4,5,6,7]),(4,[2,3,4,5,6,7,12]),(5,[2,3,4,5,6,7]),(6,[2,3,4,5,6,7,27]),(7,[2,3,4,5,7]),(8,[2,3,4,5,6,7]),(9,[2,3,4,5,6,7,40]),(10,[2,3,4,5,6,7]),(11,[2,3,4,5,50]),(12,[2,4,5]),(13,[2,4]),(14,[4])],lp:=[(4,[2,3,4,5,6,7])] }
def fn113:AFn:=AFn.mk 2 [.cellA 4 3]
 (.seq (.region [
 ob 2 (.box (.tmp 0)),
 ob 3 (.box (.tmp 1)),
 ob 4 (.box0 [(.slice .c0 []),(.int .i64 0),(.int .i64 0)])] false [2,3,4]) q113_13)
theorem ok113:compFn Tryz.prog ann113 Tryz.f113=some fn113:=by kernel_rfl
def q114_0:ACode :=
 (.seq (.region [
 ob 12 (.build [(.int .i64 0),(.int .i64 0),(.int .i64 0),(.slice .c0 []),(.slice .c0 []),(.int .i64 0)] []),
 ox (.store 6 (.tmp 4) (.tmp 12)),
 ob 5 (.mv (.cst (.bool false)))] false [4,5]) (.ret))
def q114_1:ACode :=
 (.seq (.region [
 ob 13 (.faddr 0 (.tmp 2)),
 ob 14 (.load1 (.tmp 13)),
 ob 15 (.mv (.tmp 6)),
 ob 16 (.iaddr 6 (.tmp 14) (.tmp 15)),
 ob 17 (.loadA 6 (.tmp 16)),
 ox (.store 6 (.tmp 4) (.tmp 17)),
 ob 5 (.mv (.cst (.bool true)))] false [4,5]) (.ret))
def q114_2:ACode :=
 (.seq (.seq (.region [
 ob 10 (.mv (.tmp 6)),
 ob 11 (.bin .lss (.tmp 10) (.cst (.int .i64 0)))] false [2,4,6,11]) (.cond (.tmp 11) q114_0 (.skip))) q114_1)
def q114_3:ACode :=
 (.seq (.region [
 ob 7 (.loadA 3 (.tmp 2)),
 ob 8 (.mv (.tmp 1)),
 ob 9 (.call 156 [(.tmp 7),(.tmp 8)]),
 ob 6 (.mv (.tmp 9))] false [2,4,6]) q114_2)
def E114:=And.intro (exK_head q114_0.eq_1) (And.intro (exK_head q114_1.eq_1) (And.intro (exK_head q114_2.eq_1) (exK_head q114_3.eq_1)))
def ann114:Ann:={ n:=18,own:=[],lv:=[(0,[1,2,4]),(1,[2,4,6]),(2,[2,4,6,11]),(3,[4,5]),(4,[4,5])],lp:=[] }
def fn114:AFn:=AFn.mk 2 [.cellA 4 6,.tmp 5]
 (.seq (.region [
 ob 2 (.box (.tmp 0)),
 ob 4 (.box0 [(.int .i64 0),(.int .i64 0),(.int .i64 0),(.slice .c0 []),(.slice .c0 []),(.int .i64 0)]),
 ob 5 (.mv (.cst (.bool false)))] false [1,2,4]) q114_3)
theorem ok114:compFn Tryz.prog ann114 Tryz.f114=some fn114:=by kernel_rfl
def q115_0:ACode :=
 (.seq (.region [
 ob 19 (.mv (.tmp 9)),
 ob 6 (.mv (.cst (.int .i64 0))),
 ob 7 (.mv (.tmp 19))] false [6,7]) (.ret))
def q115_1:ACode :=
 (.seq (.region [
 ob 6 (.mv (.cst (.int .i64 0))),
 ob 7 (.mv (.cst (.int .i64 60)))] false [6,7]) (.ret))
def q115_2:ACode :=
 (.seq (.region [
 ob 6 (.mv (.cst (.int .i64 0))),
 ob 7 (.mv (.cst (.int .i64 70)))] false [6,7]) (.ret))
def q115_3:ACode :=
 (.seq (.region [
 ob 28 (.faddr 4 (.tmp 8)),
 ob 29 (.load1 (.tmp 28)),
 ob 30 (.mv (.tmp 10)),
 ob 31 (.iaddr 3 (.tmp 29) (.tmp 30)),
 ob 32 (.faddr 1 (.tmp 31)),
 ob 33 (.load1 (.tmp 32)),
 ob 6 (.mv (.tmp 33)),
 ob 7 (.mv (.cst (.int .i64 0)))] false [6,7]) (.ret))
def q115_4:ACode :=
 (.seq (.seq (.region [
 ob 26 (.mv (.tmp 10)),
 ob 27 (.bin .lss (.tmp 26) (.cst (.int .i64 0)))] false [8,10,27]) (.cond (.tmp 27) q115_2 (.skip))) q115_3)
def q115_5:ACode :=
 (.seq (.region [
 ob 23 (.loadA 6 (.tmp 8)),
 ob 24 (.mv (.tmp 2)),
 ob 25 (.call 120 [(.tmp 23),(.tmp 24)]),
 ob 10 (.mv (.tmp 25))] false [8,10]) q115_4)
def q115_6:ACode :=
 (.seq (.seq (.region [
 ob 20 (.mv (.tmp 2)),
 ob 21 (.call 119 [(.tmp 20)]),
 ob 22 (.not (.tmp 21))] false [2,8,22]) (.cond (.tmp 22) q115_1 (.skip))) q115_5)
def q115_7:ACode :=
 (.seq (.seq (.region [
 ob 17 (.mv (.tmp 9)),
 ob 18 (.bin .neq (.tmp 17) (.cst (.int .i64 0)))] false [2,8,9,18]) (.cond (.tmp 18) q115_0 (.skip))) q115_6)
def q115_8:ACode :=
 (.seq (.region [
 ob 12 (.loadA 3 (.tmp 3)),
 ob 13 (.mv (.tmp 1)),
 ob 14 (.call 118 [(.tmp 12),(.tmp 13)]),
 ob 11 (.mv (.tmp 14)),
 ob 15 (.extract (.tmp 11) 0),
 ob 16 (.extract (.tmp 11) 1),
 ob 8 (.box0 [(.int .i64 0),(.int .i64 0),(.int .i64 0),(.slice .c0 []),(.slice .c0 []),(.int .i64 0)]),
 ox (.store 6 (.tmp 8) (.tmp 15)),
 ob 9 (.mv (.tmp 16))] false [2,8,9]) q115_7)
def E115:=And.intro (exK_head q115_0.eq_1) (And.intro (exK_head q115_1.eq_1) (And.intro (exK_head q115_2.eq_1) (And.intro (exK_head q115_3.eq_1) (And.intro (exK_head q115_4.eq_1) (And.intro (exK_head q115_5.eq_1) (And.intro (exK_head q115_6.eq_1) (And.intro (exK_head q115_7.eq_1) (exK_head q115_8.eq_1))))))))
def ann115:Ann:={ n:=34,own:=[],lv:=[(0,[1,2,3]),(1,[2,8,9]),(2,[2,8,9,18]),(3,[6,7]),(4,[2,8,22]),(5,[6,7]),(6,[8,10]),(7,[8,10,27]),(8,[6,7]),(9,[6,7])],lp:=[] }
def fn115:AFn:=AFn.mk 3 [.tmp 6,.tmp 7]
 (.seq (.region [
 ob 3 (.box (.tmp 0)),
 ob 6 (.mv (.cst (.int .i64 0))),
 ob 7 (.mv (.cst (.int .i64 0)))] false [1,2,3]) q115_8)
theorem ok115:compFn Tryz.prog ann115 Tryz.f115=some fn115:=by kernel_rfl
def q116_0:ACode :=
 (.seq (.region [
 ob 16 (.loadA 3 (.tmp 2)),
 ob 17 (.mv (.tmp 1)),
 ob 18 (.call 125 [(.tmp 16),(.tmp 17)]),
 ox (.store 3 (.tmp 4) (.tmp 18))] false [4]) (.ret))
def q116_1:ACode :=
 (.seq (.region [
 ob 23 (.loadA 3 (.tmp 2)),
 ob 24 (.loadA 6 (.tmp 5)),
 ob 25 (.call 113 [(.tmp 23),(.tmp 24)]),
 ox (.store 3 (.tmp 4) (.tmp 25))] false [4]) (.ret))
def q116_2:ACode :=
 (.seq (.region [
 ob 19 (.faddr 2 (.tmp 5)),
 ob 20 (.load1 (.tmp 19)),
 ob 21 (.bin .sub (.tmp 20) (.cst (.int .i64 1))),
 ob 22 (.faddr 2 (.tmp 5)),
 ox (.store 1 (.tmp 22) (.tmp 21))] false [2,4,5]) q116_1)
def q116_3:ACode :=
 (.seq (.seq (.region [
 ob 13 (.faddr 1 (.tmp 5)),
 ob 14 (.load1 (.tmp 13)),
 ob 15 (.bin .eql (.tmp 14) (.cst (.int .i64 2)))] false [1,2,4,5,15]) (.cond (.tmp 15) q116_0 (.skip))) q116_2)
def q116_4:ACode :=
 (.seq (.region [
 ob 8 (.loadA 3 (.tmp 2)),
 ob 9 (.mv (.tmp 1)),
 ob 10 (.call 114 [(.tmp 8),(.tmp 9)]),
 ob 7 (.mv (.tmp 10)),
 ob 11 (.extract (.tmp 7) 0),
 ob 12 (.extract (.tmp 7) 1),
 ob 5 (.box0 [(.int .i64 0),(.int .i64 0),(.int .i64 0),(.slice .c0 []),(.slice .c0 []),(.int .i64 0)]),
 ox (.store 6 (.tmp 5) (.tmp 11)),
 ob 6 (.mv (.tmp 12))] false [1,2,4,5]) q116_3)
def E116:=And.intro (exK_head q116_0.eq_1) (And.intro (exK_head q116_1.eq_1) (And.intro (exK_head q116_2.eq_1) (And.intro (exK_head q116_3.eq_1) (exK_head q116_4.eq_1))))
def ann116:Ann:={ n:=26,own:=[],lv:=[(0,[1,2,4]),(1,[1,2,4,5]),(2,[1,2,4,5,15]),(3,[4]),(4,[2,4,5]),(5,[4])],lp:=[] }
def fn116:AFn:=AFn.mk 2 [.cellA 4 3]
 (.seq (.region [
 ob 2 (.box (.tmp 0)),
 ob 4 (.box0 [(.slice .c0 []),(.int .i64 0),(.int .i64 0)])] false [1,2,4]) q116_4)
theorem ok116:compFn Tryz.prog ann116 Tryz.f116=some fn116:=by kernel_rfl
def q117_0:ACode :=
 (.region [
 ob 32 (.mv (.tmp 9)),
 ob 33 (.faddr 4 (.tmp 7)),
 ob 34 (.load1 (.tmp 33)),
 ob 35 (.mv (.tmp 10)),
 ob 36 (.iaddr 3 (.tmp 34) (.tmp 35)),
 ob 37 (.loadA 3 (.tmp 36)),
 ob 38 (.lits 3 [(.tmp 37)]),
 ob 39 (.append 3 32 (.tmp 32) (.tmp 38)),
 ob 9 (.mv (.tmp 39))] false [2,3,6,7,9,10])
def q117_1:ACode :=
 (.region [
 ob 22 (.mv (.tmp 10)),
 ob 23 (.bin .add (.tmp 22) (.cst (.int .i64 1))),
 ob 10 (.mv (.tmp 23))] false [2,3,6,7,9,10])
def q117_2:ACode :=
 (.seq (.block 1 (.seq (.region [
 ob 24 (.faddr 4 (.tmp 7)),
 ob 25 (.load1 (.tmp 24)),
 ob 26 (.mv (.tmp 10)),
 ob 27 (.iaddr 3 (.tmp 25) (.tmp 26)),
 ob 28 (.faddr 0 (.tmp 27)),
 ob 29 (.load1 (.tmp 28)),
 ob 30 (.mv (.tmp 2)),
 ob 31 (.bin .neq (.tmp 29) (.tmp 30))] false [2,3,6,7,9,10,31]) (.cond (.tmp 31) q117_0 (.skip)))) q117_1)
def lb117_0:ACode :=
 (.seq (.seq (.region [
 ob 17 (.mv (.tmp 10)),
 ob 18 (.faddr 4 (.tmp 7)),
 ob 19 (.load1 (.tmp 18)),
 ob 20 (.lenV (.tmp 19)),
 ob 21 (.bin .lss (.tmp 17) (.tmp 20))] false [2,3,6,7,9,10,21]) (.cond (.tmp 21) (.skip) (.exit 0))) q117_2)
def q117_3:ACode :=
 (.block 0 (.loop [2,3,6,7,9,10] lb117_0))
def q117_4:ACode :=
 (.seq (.region [
 ob 42 (.loadA 3 (.tmp 3)),
 ob 43 (.loadA 6 (.tmp 7)),
 ob 44 (.call 113 [(.tmp 42),(.tmp 43)]),
 ox (.store 3 (.tmp 6) (.tmp 44))] false [6]) (.ret))
def q117_5:ACode :=
 (.seq (.region [
 ob 40 (.mv (.tmp 9)),
 ob 41 (.faddr 4 (.tmp 7)),
 ox (.store 1 (.tmp 41) (.tmp 40))] false [3,6,7]) q117_4)
def q117_6:ACode :=
 (.seq (.seq (.region [
 ob 10 (.mv (.cst (.int .i64 0)))] false [2,3,6,7,9,10]) q117_3) q117_5)
def q117_7:ACode :=
 (.seq (.region [
 ob 9 (.own 3 (.cst (.slice .c0 [])))] false [2,3,6,7,9]) q117_6)
def q117_8:ACode :=
 (.seq (.region [
 ob 12 (.loadA 3 (.tmp 3)),
 ob 13 (.mv (.tmp 1)),
 ob 14 (.call 114 [(.tmp 12),(.tmp 13)]),
 ob 11 (.mv (.tmp 14)),
 ob 15 (.extract (.tmp 11) 0),
 ob 16 (.extract (.tmp 11) 1),
 ob 7 (.box0 [(.int .i64 0),(.int .i64 0),(.int .i64 0),(.slice .c0 []),(.slice .c0 []),(.int .i64 0)]),
 ox (.store 6 (.tmp 7) (.tmp 15)),
 ob 8 (.mv (.tmp 16))] false [2,3,6,7]) q117_7)
def E117:=And.intro (exK_head q117_0.eq_1) (And.intro (exK_head q117_1.eq_1) (And.intro (exK_head q117_2.eq_1) (And.intro (exK_head lb117_0.eq_1) (And.intro (exK_head q117_3.eq_1) (And.intro (exK_head q117_4.eq_1) (And.intro (exK_head q117_5.eq_1) (And.intro (exK_head q117_6.eq_1) (And.intro (exK_head q117_7.eq_1) (exK_head q117_8.eq_1)))))))))
def ann117:Ann:={ n:=45,own:=[9],lv:=[(0,[1,2,3,6]),(1,[2,3,6,7]),(2,[2,3,6,7,9]),(3,[2,3,6,7,9,10]),(4,[2,3,6,7,9,10,21]),(5,[2,3,6,7,9,10]),(6,[2,3,6,7,9,10,31]),(7,[2,3,6,7,9,10]),(8,[3,6,7]),(9,[6])],lp:=[(4,[2,3,6,7,9,10])] }
def fn117:AFn:=AFn.mk 3 [.cellA 6 3]
 (.seq (.region [
 ob 3 (.box (.tmp 0)),
 ob 6 (.box0 [(.slice .c0 []),(.int .i64 0),(.int .i64 0)])] false [1,2,3,6]) q117_8)
theorem ok117:compFn Tryz.prog ann117 Tryz.f117=some fn117:=by kernel_rfl
def q118_0:ACode :=
 (.seq (.region [
 ob 16 (.build [(.int .i64 0),(.int .i64 0),(.int .i64 0),(.slice .c0 []),(.slice .c0 []),(.int .i64 0)] []),
 ox (.store 6 (.tmp 4) (.tmp 16)),
 ob 5 (.mv (.cst (.int .i64 70)))] false [4,5]) (.ret))
def q118_1:ACode :=
 (.seq (.region [
 ob 20 (.build [(.int .i64 0),(.int .i64 0),(.int .i64 0),(.slice .c0 []),(.slice .c0 []),(.int .i64 0)] []),
 ox (.store 6 (.tmp 4) (.tmp 20)),
 ob 5 (.mv (.cst (.int .i64 73)))] false [4,5]) (.ret))
def q118_2:ACode :=
 (.seq (.region [
 ob 21 (.loadA 6 (.tmp 6)),
 ox (.store 6 (.tmp 4) (.tmp 21)),
 ob 5 (.mv (.cst (.int .i64 0)))] false [4,5]) (.ret))
def q118_3:ACode :=
 (.seq (.seq (.region [
 ob 17 (.faddr 1 (.tmp 6)),
 ob 18 (.load1 (.tmp 17)),
 ob 19 (.bin .neq (.tmp 18) (.cst (.int .i64 2)))] false [4,6,19]) (.cond (.tmp 19) q118_1 (.skip))) q118_2)
def q118_4:ACode :=
 (.seq (.seq (.region [
 ob 14 (.mv (.tmp 7)),
 ob 15 (.not (.tmp 14))] false [4,6,15]) (.cond (.tmp 15) q118_0 (.skip))) q118_3)
def q118_5:ACode :=
 (.seq (.region [
 ob 9 (.loadA 3 (.tmp 2)),
 ob 10 (.mv (.tmp 1)),
 ob 11 (.call 114 [(.tmp 9),(.tmp 10)]),
 ob 8 (.mv (.tmp 11)),
 ob 12 (.extract (.tmp 8) 0),
 ob 13 (.extract (.tmp 8) 1),
 ob 6 (.box0 [(.int .i64 0),(.int .i64 0),(.int .i64 0),(.slice .c0 []),(.slice .c0 []),(.int .i64 0)]),
 ox (.store 6 (.tmp 6) (.tmp 12)),
 ob 7 (.mv (.tmp 13))] false [4,6,7]) q118_4)
def E118:=And.intro (exK_head q118_0.eq_1) (And.intro (exK_head q118_1.eq_1) (And.intro (exK_head q118_2.eq_1) (And.intro (exK_head q118_3.eq_1) (And.intro (exK_head q118_4.eq_1) (exK_head q118_5.eq_1)))))
def ann118:Ann:={ n:=22,own:=[],lv:=[(0,[1,2,4]),(1,[4,6,7]),(2,[4,6,15]),(3,[4,5]),(4,[4,6,19]),(5,[4,5]),(6,[4,5])],lp:=[] }
def fn118:AFn:=AFn.mk 2 [.cellA 4 6,.tmp 5]
 (.seq (.region [
 ob 2 (.box (.tmp 0)),
 ob 4 (.box0 [(.int .i64 0),(.int .i64 0),(.int .i64 0),(.slice .c0 []),(.slice .c0 []),(.int .i64 0)]),
 ob 5 (.mv (.cst (.int .i64 0)))] false [1,2,4]) q118_5)
theorem ok118:compFn Tryz.prog ann118 Tryz.f118=some fn118:=by kernel_rfl
def q119_0:ACode :=
 (.seq (.region [
 ob 2 (.mv (.cst (.bool false)))] false [2]) (.ret))
def q119_1:ACode :=
 (.seq (.region [
 ob 2 (.mv (.cst (.bool false)))] false [2]) (.ret))
def q119_2:ACode :=
 (.region [
 ob 24 (.mv (.tmp 3)),
 ob 25 (.bin .add (.tmp 24) (.cst (.int .i64 1))),
 ob 3 (.mv (.tmp 25))] false [0,3])
def q119_3:ACode :=
 (.seq (.block 1 (.seq (.region [
 ob 26 (.mv (.tmp 0)),
 ob 27 (.mv (.tmp 3)),
 ob 28 (.indexS (.tmp 26) (.tmp 27)),
 ob 29 (.bin .lss (.tmp 28) (.cst (.int .u8 32))),
 ob 30 (.mv (.tmp 29)),
 og 31 30 false (.mv (.tmp 0)),
 og 32 30 false (.mv (.tmp 3)),
 og 33 30 false (.indexS (.tmp 31) (.tmp 32)),
 og 34 30 false (.bin .eql (.tmp 33) (.cst (.int .u8 47))),
 ob 35 (.pick (.tmp 30) (.cst (.bool true)) (.tmp 34))] false [0,3,35]) (.cond (.tmp 35) q119_1 (.skip)))) q119_2)
def lb119_0:ACode :=
 (.seq (.seq (.region [
 ob 20 (.mv (.tmp 3)),
 ob 21 (.mv (.tmp 0)),
 ob 22 (.lenS (.tmp 21)),
 ob 23 (.bin .lss (.tmp 20) (.tmp 22))] false [0,3,23]) (.cond (.tmp 23) (.skip) (.exit 0))) q119_3)
def q119_4:ACode :=
 (.seq (.region [
 ob 2 (.mv (.cst (.bool true)))] false [2]) (.ret))
def q119_5:ACode :=
 (.seq (.seq (.region [
 ob 3 (.mv (.cst (.int .i64 0)))] false [0,3]) (.block 0 (.loop [0,3] lb119_0))) q119_4)
def q119_6:ACode :=
 (.seq (.seq (.region [
 ob 4 (.mv (.tmp 0)),
 ob 5 (.lenS (.tmp 4)),
 ob 6 (.bin .lss (.tmp 5) (.cst (.int .i64 1))),
 ob 7 (.mv (.tmp 6)),
 og 8 7 false (.mv (.tmp 0)),
 og 9 7 false (.lenS (.tmp 8)),
 og 10 7 false (.bin .gtr (.tmp 9) (.cst (.int .i64 32))),
 ob 11 (.pick (.tmp 7) (.cst (.bool true)) (.tmp 10)),
 ob 12 (.mv (.tmp 11)),
 og 13 12 false (.mv (.tmp 0)),
 og 14 12 false (.bin .eql (.tmp 13) (.cst (.str [46]))),
 ob 15 (.pick (.tmp 12) (.cst (.bool true)) (.tmp 14)),
 ob 16 (.mv (.tmp 15)),
 og 17 16 false (.mv (.tmp 0)),
 og 18 16 false (.bin .eql (.tmp 17) (.cst (.str [46,46]))),
 ob 19 (.pick (.tmp 16) (.cst (.bool true)) (.tmp 18))] false [0,19]) (.cond (.tmp 19) q119_0 (.skip))) q119_5)
def E119:=And.intro (exK_head q119_0.eq_1) (And.intro (exK_head q119_1.eq_1) (And.intro (exK_head q119_2.eq_1) (And.intro (exK_head q119_3.eq_1) (And.intro (exK_head lb119_0.eq_1) (And.intro (exK_head q119_4.eq_1) (And.intro (exK_head q119_5.eq_1) (exK_head q119_6.eq_1)))))))
def ann119:Ann:={ n:=36,own:=[],lv:=[(0,[0]),(1,[0,19]),(2,[2]),(3,[0,3]),(4,[0,3,23]),(5,[0,3]),(6,[0,3,35]),(7,[2]),(8,[2])],lp:=[(4,[0,3])] }
def fn119:AFn:=AFn.mk 1 [.tmp 2]
 (.seq (.region [
 ob 2 (.mv (.cst (.bool false)))] false [0]) q119_6)
theorem ok119:compFn Tryz.prog ann119 Tryz.f119=some fn119:=by kernel_rfl
def q120_0:ACode :=
 (.seq (.region [
 ob 21 (.mv (.tmp 5)),
 ob 4 (.mv (.tmp 21))] false [4]) (.ret))
def q120_1:ACode :=
 (.region [
 ob 11 (.mv (.tmp 5)),
 ob 12 (.bin .add (.tmp 11) (.cst (.int .i64 1))),
 ob 5 (.mv (.tmp 12))] false [1,2,5])
def q120_2:ACode :=
 (.seq (.block 1 (.seq (.region [
 ob 13 (.faddr 4 (.tmp 2)),
 ob 14 (.load1 (.tmp 13)),
 ob 15 (.mv (.tmp 5)),
 ob 16 (.iaddr 3 (.tmp 14) (.tmp 15)),
 ob 17 (.faddr 0 (.tmp 16)),
 ob 18 (.load1 (.tmp 17)),
 ob 19 (.mv (.tmp 1)),
 ob 20 (.bin .eql (.tmp 18) (.tmp 19))] false [1,2,5,20]) (.cond (.tmp 20) q120_0 (.skip)))) q120_1)
def lb120_0:ACode :=
 (.seq (.seq (.region [
 ob 6 (.mv (.tmp 5)),
 ob 7 (.faddr 4 (.tmp 2)),
 ob 8 (.load1 (.tmp 7)),
 ob 9 (.lenV (.tmp 8)),
 ob 10 (.bin .lss (.tmp 6) (.tmp 9))] false [1,2,5,10]) (.cond (.tmp 10) (.skip) (.exit 0))) q120_2)
def q120_3:ACode :=
 (.seq (.region [
 ob 4 (.mv (.cst (.int .i64 (-1))))] false [4]) (.ret))
def q120_4:ACode :=
 (.seq (.seq (.region [
 ob 5 (.mv (.cst (.int .i64 0)))] false [1,2,5]) (.block 0 (.loop [1,2,5] lb120_0))) q120_3)
def E120:=And.intro (exK_head q120_0.eq_1) (And.intro (exK_head q120_1.eq_1) (And.intro (exK_head q120_2.eq_1) (And.intro (exK_head lb120_0.eq_1) (And.intro (exK_head q120_3.eq_1) (exK_head q120_4.eq_1)))))
def ann120:Ann:={ n:=22,own:=[],lv:=[(0,[1,2]),(1,[1,2,5]),(2,[1,2,5,10]),(3,[1,2,5]),(4,[1,2,5,20]),(5,[4]),(6,[4])],lp:=[(2,[1,2,5])] }
def fn120:AFn:=AFn.mk 2 [.tmp 4]
 (.seq (.region [
 ob 2 (.box (.tmp 0)),
 ob 4 (.mv (.cst (.int .i64 0)))] false [1,2]) q120_4)
theorem ok120:compFn Tryz.prog ann120 Tryz.f120=some fn120:=by kernel_rfl
def q121_0:ACode :=
 (.seq (.region [
 ob 6 (.mv (.cst (.bool true)))] false [6]) (.ret))
def q121_1:ACode :=
 (.seq (.region [
 ob 6 (.mv (.cst (.bool false)))] false [6]) (.ret))
def q121_2:ACode :=
 (.region [
 ob 28 (.faddr 5 (.tmp 8)),
 ob 29 (.load1 (.tmp 28)),
 ob 1 (.mv (.tmp 29))] false [1,2,3,7])
def q121_3:ACode :=
 (.seq (.region [
 ob 23 (.loadA 3 (.tmp 3)),
 ob 24 (.mv (.tmp 1)),
 ob 25 (.call 114 [(.tmp 23),(.tmp 24)]),
 ob 22 (.mv (.tmp 25)),
 ob 26 (.extract (.tmp 22) 0),
 ob 27 (.extract (.tmp 22) 1),
 ob 8 (.box0 [(.int .i64 0),(.int .i64 0),(.int .i64 0),(.slice .c0 []),(.slice .c0 []),(.int .i64 0)]),
 ox (.store 6 (.tmp 8) (.tmp 26)),
 ob 9 (.mv (.tmp 27))] false [2,3,7,8]) q121_2)
def q121_4:ACode :=
 (.seq (.seq (.region [
 ob 20 (.mv (.tmp 1)),
 ob 21 (.bin .eql (.tmp 20) (.cst (.int .i64 1)))] false [1,2,3,7,21]) (.cond (.tmp 21) q121_1 (.skip))) q121_3)
def q121_5:ACode :=
 (.region [
 ob 15 (.mv (.tmp 7)),
 ob 16 (.bin .add (.tmp 15) (.cst (.int .i64 1))),
 ob 7 (.mv (.tmp 16))] false [1,2,3,7])
def q121_6:ACode :=
 (.seq (.block 1 (.seq (.seq (.region [
 ob 17 (.mv (.tmp 1)),
 ob 18 (.mv (.tmp 2)),
 ob 19 (.bin .eql (.tmp 17) (.tmp 18))] false [1,2,3,7,19]) (.cond (.tmp 19) q121_0 (.skip))) q121_4)) q121_5)
def lb121_0:ACode :=
 (.seq (.seq (.region [
 ob 10 (.mv (.tmp 7)),
 ob 11 (.faddr 0 (.tmp 3)),
 ob 12 (.load1 (.tmp 11)),
 ob 13 (.lenV (.tmp 12)),
 ob 14 (.bin .leq (.tmp 10) (.tmp 13))] false [1,2,3,7,14]) (.cond (.tmp 14) (.skip) (.exit 0))) q121_6)
def q121_7:ACode :=
 (.seq (.region [
 ob 6 (.mv (.cst (.bool false)))] false [6]) (.ret))
def q121_8:ACode :=
 (.seq (.seq (.region [
 ob 7 (.mv (.cst (.int .i64 0)))] false [1,2,3,7]) (.block 0 (.loop [1,2,3,7] lb121_0))) q121_7)
def E121:=And.intro (exK_head q121_0.eq_1) (And.intro (exK_head q121_1.eq_1) (And.intro (exK_head q121_2.eq_1) (And.intro (exK_head q121_3.eq_1) (And.intro (exK_head q121_4.eq_1) (And.intro (exK_head q121_5.eq_1) (And.intro (exK_head q121_6.eq_1) (And.intro (exK_head lb121_0.eq_1) (And.intro (exK_head q121_7.eq_1) (exK_head q121_8.eq_1)))))))))
def ann121:Ann:={ n:=30,own:=[],lv:=[(0,[1,2,3]),(1,[1,2,3,7]),(2,[1,2,3,7,14]),(3,[1,2,3,7]),(4,[1,2,3,7,19]),(5,[6]),(6,[1,2,3,7,21]),(7,[6]),(8,[2,3,7,8]),(9,[1,2,3,7]),(10,[6])],lp:=[(2,[1,2,3,7])] }
def fn121:AFn:=AFn.mk 3 [.tmp 6]
 (.seq (.region [
 ob 3 (.box (.tmp 0)),
 ob 6 (.mv (.cst (.bool false)))] false [1,2,3]) q121_8)
theorem ok121:compFn Tryz.prog ann121 Tryz.f121=some fn121:=by kernel_rfl
def q122_0:ACode :=
 (.seq (.region [
 ob 6 (.mv (.cst (.int .i64 0)))] false [6]) (.ret))
def q122_1:ACode :=
 (.seq (.region [
 ob 6 (.mv (.cst (.int .i64 73)))] false [6]) (.ret))
def q122_2:ACode :=
 (.seq (.region [
 ob 6 (.mv (.cst (.int .i64 72)))] false [6]) (.ret))
def q122_3:ACode :=
 (.seq (.region [
 ob 6 (.mv (.cst (.int .i64 74)))] false [6]) (.ret))
def q122_4:ACode :=
 (.seq (.region [
 ob 6 (.mv (.cst (.int .i64 0)))] false [6]) (.ret))
def q122_5:ACode :=
 (.seq (.seq (.region [
 ob 33 (.faddr 4 (.tmp 7)),
 ob 34 (.load1 (.tmp 33)),
 ob 35 (.lenV (.tmp 34)),
 ob 36 (.bin .gtr (.tmp 35) (.cst (.int .i64 0)))] false [36]) (.cond (.tmp 36) q122_3 (.skip))) q122_4)
def q122_6:ACode :=
 (.seq (.seq (.region [
 ob 25 (.faddr 1 (.tmp 4)),
 ob 26 (.load1 (.tmp 25)),
 ob 27 (.bin .neq (.tmp 26) (.cst (.int .i64 2))),
 ob 28 (.mv (.tmp 27)),
 og 29 28 true (.faddr 1 (.tmp 7)),
 og 30 28 true (.load1 (.tmp 29)),
 og 31 28 true (.bin .eql (.tmp 30) (.cst (.int .i64 2))),
 ob 32 (.pick (.tmp 28) (.tmp 31) (.cst (.bool false)))] false [7,32]) (.cond (.tmp 32) q122_2 (.skip))) q122_5)
def q122_7:ACode :=
 (.seq (.seq (.region [
 ob 17 (.faddr 1 (.tmp 4)),
 ob 18 (.load1 (.tmp 17)),
 ob 19 (.bin .eql (.tmp 18) (.cst (.int .i64 2))),
 ob 20 (.mv (.tmp 19)),
 og 21 20 true (.faddr 1 (.tmp 7)),
 og 22 20 true (.load1 (.tmp 21)),
 og 23 20 true (.bin .neq (.tmp 22) (.cst (.int .i64 2))),
 ob 24 (.pick (.tmp 20) (.tmp 23) (.cst (.bool false)))] false [4,7,24]) (.cond (.tmp 24) q122_1 (.skip))) q122_6)
def q122_8:ACode :=
 (.seq (.seq (.region [
 ob 15 (.mv (.tmp 8)),
 ob 16 (.not (.tmp 15))] false [4,7,16]) (.cond (.tmp 16) q122_0 (.skip))) q122_7)
def q122_9:ACode :=
 (.seq (.region [
 ob 10 (.loadA 3 (.tmp 3)),
 ob 11 (.mv (.tmp 2)),
 ob 12 (.call 114 [(.tmp 10),(.tmp 11)]),
 ob 9 (.mv (.tmp 12)),
 ob 13 (.extract (.tmp 9) 0),
 ob 14 (.extract (.tmp 9) 1),
 ob 7 (.box0 [(.int .i64 0),(.int .i64 0),(.int .i64 0),(.slice .c0 []),(.slice .c0 []),(.int .i64 0)]),
 ox (.store 6 (.tmp 7) (.tmp 13)),
 ob 8 (.mv (.tmp 14))] false [4,7,8]) q122_8)
def E122:=And.intro (exK_head q122_0.eq_1) (And.intro (exK_head q122_1.eq_1) (And.intro (exK_head q122_2.eq_1) (And.intro (exK_head q122_3.eq_1) (And.intro (exK_head q122_4.eq_1) (And.intro (exK_head q122_5.eq_1) (And.intro (exK_head q122_6.eq_1) (And.intro (exK_head q122_7.eq_1) (And.intro (exK_head q122_8.eq_1) (exK_head q122_9.eq_1)))))))))
def ann122:Ann:={ n:=37,own:=[],lv:=[(0,[2,3,4]),(1,[4,7,8]),(2,[4,7,16]),(3,[6]),(4,[4,7,24]),(5,[6]),(6,[7,32]),(7,[6]),(8,[36]),(9,[6]),(10,[6])],lp:=[] }
def fn122:AFn:=AFn.mk 3 [.tmp 6]
 (.seq (.region [
 ob 3 (.box (.tmp 0)),
 ob 4 (.box (.tmp 1)),
 ob 6 (.mv (.cst (.int .i64 0)))] false [2,3,4]) q122_9)
theorem ok122:compFn Tryz.prog ann122 Tryz.f122=some fn122:=by kernel_rfl
def q123_0:ACode :=
 (.region [
 ob 22 (.mv (.tmp 5)),
 ob 23 (.bin .add (.tmp 22) (.cst (.int .i64 1))),
 ob 5 (.mv (.tmp 23))] false [1,2,5])
def q123_1:ACode :=
 (.seq (.region [
 ob 20 (.faddr 5 (.tmp 6)),
 ob 21 (.load1 (.tmp 20)),
 ob 1 (.mv (.tmp 21))] false [1,2,5]) q123_0)
def q123_2:ACode :=
 (.block 1 (.seq (.region [
 ob 15 (.loadA 3 (.tmp 2)),
 ob 16 (.mv (.tmp 1)),
 ob 17 (.call 114 [(.tmp 15),(.tmp 16)]),
 ob 14 (.mv (.tmp 17)),
 ob 18 (.extract (.tmp 14) 0),
 ob 19 (.extract (.tmp 14) 1),
 ob 6 (.box0 [(.int .i64 0),(.int .i64 0),(.int .i64 0),(.slice .c0 []),(.slice .c0 []),(.int .i64 0)]),
 ox (.store 6 (.tmp 6) (.tmp 18)),
 ob 7 (.mv (.tmp 19))] false [2,5,6]) q123_1))
def lb123_0:ACode :=
 (.seq (.seq (.region [
 ob 8 (.mv (.tmp 1)),
 ob 9 (.bin .neq (.tmp 8) (.cst (.int .i64 1))),
 ob 10 (.mv (.tmp 9)),
 og 11 10 true (.mv (.tmp 5)),
 og 12 10 true (.bin .leq (.tmp 11) (.cst (.int .i64 200))),
 ob 13 (.pick (.tmp 10) (.tmp 12) (.cst (.bool false)))] false [1,2,5,13]) (.cond (.tmp 13) (.skip) (.exit 0))) q123_2)
def q123_3:ACode :=
 (.seq (.region [
 ob 24 (.mv (.tmp 5)),
 ob 4 (.mv (.tmp 24))] false [4]) (.ret))
def q123_4:ACode :=
 (.seq (.block 0 (.loop [1,2,5] lb123_0)) q123_3)
def q123_5:ACode :=
 (.seq (.region [
 ob 5 (.mv (.cst (.int .i64 0)))] false [1,2,5]) q123_4)
def E123:=And.intro (exK_head q123_0.eq_1) (And.intro (exK_head q123_1.eq_1) (And.intro (exK_head q123_2.eq_1) (And.intro (exK_head lb123_0.eq_1) (And.intro (exK_head q123_3.eq_1) (And.intro (exK_head q123_4.eq_1) (exK_head q123_5.eq_1))))))
def ann123:Ann:={ n:=25,own:=[],lv:=[(0,[1,2]),(1,[1,2,5]),(2,[1,2,5,13]),(3,[2,5,6]),(4,[1,2,5]),(5,[1,2,5]),(6,[4])],lp:=[(2,[1,2,5])] }
def fn123:AFn:=AFn.mk 2 [.tmp 4]
 (.seq (.region [
 ob 2 (.box (.tmp 0)),
 ob 4 (.mv (.cst (.int .i64 0)))] false [1,2]) q123_5)
theorem ok123:compFn Tryz.prog ann123 Tryz.f123=some fn123:=by kernel_rfl
def q124_0:ACode :=
 (.region [
 ob 49 (.mv (.tmp 11)),
 ob 50 (.bin .add (.tmp 49) (.cst (.int .i64 1))),
 ob 11 (.mv (.tmp 50))] false [1,2,3,7,8,9,11])
def q124_1:ACode :=
 (.region [
 ob 51 (.mv (.tmp 7)),
 ob 52 (.mv (.tmp 11)),
 ob 53 (.minmax true (.tmp 51) (.tmp 52)),
 ob 7 (.mv (.tmp 53))] false [1,2,3,7,8,9])
def q124_2:ACode :=
 (.seq (.seq (.region [
 ob 45 (.faddr 4 (.tmp 10)),
 ob 46 (.load1 (.tmp 45)),
 ob 47 (.lenV (.tmp 46)),
 ob 48 (.bin .gtr (.tmp 47) (.cst (.int .i64 0)))] false [1,2,3,7,8,9,11,48]) (.cond (.tmp 48) q124_0 (.skip))) q124_1)
def q124_3:ACode :=
 (.seq (.region [
 ob 37 (.mv (.tmp 2)),
 ob 38 (.loadA 3 (.tmp 3)),
 ob 39 (.faddr 0 (.tmp 10)),
 ob 40 (.load1 (.tmp 39)),
 ob 41 (.call 123 [(.tmp 38),(.tmp 40)]),
 ob 42 (.bin .add (.tmp 37) (.tmp 41)),
 ob 43 (.mv (.tmp 8)),
 ob 44 (.bin .sub (.tmp 42) (.tmp 43)),
 ob 11 (.mv (.tmp 44))] false [1,2,3,7,8,9,10,11]) q124_2)
def q124_4:ACode :=
 (.seq (.region [
 ob 27 (.faddr 1 (.tmp 10)),
 ob 28 (.load1 (.tmp 27)),
 ob 29 (.bin .eql (.tmp 28) (.cst (.int .i64 2))),
 ob 30 (.mv (.tmp 29)),
 og 31 30 true (.loadA 3 (.tmp 3)),
 og 32 30 true (.faddr 0 (.tmp 10)),
 og 33 30 true (.load1 (.tmp 32)),
 og 34 30 true (.mv (.tmp 1)),
 og 35 30 true (.call 121 [(.tmp 31),(.tmp 33),(.tmp 34)]),
 ob 36 (.pick (.tmp 30) (.tmp 35) (.cst (.bool false)))] false [1,2,3,7,8,9,10,36]) (.cond (.tmp 36) q124_3 (.skip)))
def q124_5:ACode :=
 (.region [
 ob 20 (.mv (.tmp 9)),
 ob 21 (.bin .add (.tmp 20) (.cst (.int .i64 1))),
 ob 9 (.mv (.tmp 21))] false [1,2,3,7,8,9])
def q124_6:ACode :=
 (.seq (.block 1 (.seq (.region [
 ob 22 (.faddr 0 (.tmp 3)),
 ob 23 (.load1 (.tmp 22)),
 ob 24 (.mv (.tmp 9)),
 ob 25 (.iaddr 6 (.tmp 23) (.tmp 24)),
 ob 26 (.loadA 6 (.tmp 25)),
 ob 10 (.box0 [(.int .i64 0),(.int .i64 0),(.int .i64 0),(.slice .c0 []),(.slice .c0 []),(.int .i64 0)]),
 ox (.store 6 (.tmp 10) (.tmp 26))] false [1,2,3,7,8,9,10]) q124_4)) q124_5)
def lb124_0:ACode :=
 (.seq (.seq (.region [
 ob 15 (.mv (.tmp 9)),
 ob 16 (.faddr 0 (.tmp 3)),
 ob 17 (.load1 (.tmp 16)),
 ob 18 (.lenV (.tmp 17)),
 ob 19 (.bin .lss (.tmp 15) (.tmp 18))] false [1,2,3,7,8,9,19]) (.cond (.tmp 19) (.skip) (.exit 0))) q124_6)
def q124_7:ACode :=
 (.block 0 (.loop [1,2,3,7,8,9] lb124_0))
def q124_8:ACode :=
 (.seq (.region [
 ob 54 (.mv (.tmp 7)),
 ob 6 (.mv (.tmp 54))] false [6]) (.ret))
def q124_9:ACode :=
 (.seq (.seq (.region [
 ob 9 (.mv (.cst (.int .i64 0)))] false [1,2,3,7,8,9]) q124_7) q124_8)
def q124_10:ACode :=
 (.seq (.region [
 ob 12 (.loadA 3 (.tmp 3)),
 ob 13 (.mv (.tmp 1)),
 ob 14 (.call 123 [(.tmp 12),(.tmp 13)]),
 ob 8 (.mv (.tmp 14))] false [1,2,3,7,8]) q124_9)
def q124_11:ACode :=
 (.seq (.region [
 ob 7 (.mv (.cst (.int .i64 0)))] false [1,2,3,7]) q124_10)
def E124:=And.intro (exK_head q124_0.eq_1) (And.intro (exK_head q124_1.eq_1) (And.intro (exK_head q124_2.eq_1) (And.intro (exK_head q124_3.eq_1) (And.intro (exK_head q124_4.eq_1) (And.intro (exK_head q124_5.eq_1) (And.intro (exK_head q124_6.eq_1) (And.intro (exK_head lb124_0.eq_1) (And.intro (exK_head q124_7.eq_1) (And.intro (exK_head q124_8.eq_1) (And.intro (exK_head q124_9.eq_1) (And.intro (exK_head q124_10.eq_1) (exK_head q124_11.eq_1))))))))))))
def ann124:Ann:={ n:=55,own:=[],lv:=[(0,[1,2,3]),(1,[1,2,3,7]),(2,[1,2,3,7,8]),(3,[1,2,3,7,8,9]),(4,[1,2,3,7,8,9,19]),(5,[1,2,3,7,8,9]),(6,[1,2,3,7,8,9,10]),(7,[1,2,3,7,8,9,10,36]),(8,[1,2,3,7,8,9,10,11]),(9,[1,2,3,7,8,9,11,48]),(10,[1,2,3,7,8,9,11]),(11,[1,2,3,7,8,9]),(12,[6])],lp:=[(4,[1,2,3,7,8,9])] }
def fn124:AFn:=AFn.mk 3 [.tmp 6]
 (.seq (.region [
 ob 3 (.box (.tmp 0)),
 ob 6 (.mv (.cst (.int .i64 0)))] false [1,2,3]) q124_11)
theorem ok124:compFn Tryz.prog ann124 Tryz.f124=some fn124:=by kernel_rfl
def q125_0:ACode :=
 (.region [
 ob 22 (.mv (.tmp 5)),
 ob 23 (.faddr 0 (.tmp 2)),
 ob 24 (.load1 (.tmp 23)),
 ob 25 (.mv (.tmp 6)),
 ob 26 (.iaddr 6 (.tmp 24) (.tmp 25)),
 ob 27 (.loadA 6 (.tmp 26)),
 ob 28 (.lits 6 [(.tmp 27)]),
 ob 29 (.append 6 80 (.tmp 22) (.tmp 28)),
 ob 5 (.mv (.tmp 29))] false [1,2,4,5,6])
def q125_1:ACode :=
 (.region [
 ob 12 (.mv (.tmp 6)),
 ob 13 (.bin .add (.tmp 12) (.cst (.int .i64 1))),
 ob 6 (.mv (.tmp 13))] false [1,2,4,5,6])
def q125_2:ACode :=
 (.seq (.block 1 (.seq (.region [
 ob 14 (.faddr 0 (.tmp 2)),
 ob 15 (.load1 (.tmp 14)),
 ob 16 (.mv (.tmp 6)),
 ob 17 (.iaddr 6 (.tmp 15) (.tmp 16)),
 ob 18 (.faddr 0 (.tmp 17)),
 ob 19 (.load1 (.tmp 18)),
 ob 20 (.mv (.tmp 1)),
 ob 21 (.bin .neq (.tmp 19) (.tmp 20))] false [1,2,4,5,6,21]) (.cond (.tmp 21) q125_0 (.skip)))) q125_1)
def lb125_0:ACode :=
 (.seq (.seq (.region [
 ob 7 (.mv (.tmp 6)),
 ob 8 (.faddr 0 (.tmp 2)),
 ob 9 (.load1 (.tmp 8)),
 ob 10 (.lenV (.tmp 9)),
 ob 11 (.bin .lss (.tmp 7) (.tmp 10))] false [1,2,4,5,6,11]) (.cond (.tmp 11) (.skip) (.exit 0))) q125_2)
def q125_3:ACode :=
 (.block 0 (.loop [1,2,4,5,6] lb125_0))
def q125_4:ACode :=
 (.seq (.region [
 ob 32 (.loadA 3 (.tmp 2)),
 ox (.store 3 (.tmp 4) (.tmp 32))] false [4]) (.ret))
def q125_5:ACode :=
 (.seq (.region [
 ob 30 (.mv (.tmp 5)),
 ob 31 (.faddr 0 (.tmp 2)),
 ox (.store 1 (.tmp 31) (.tmp 30))] false [2,4]) q125_4)
def q125_6:ACode :=
 (.seq (.seq (.region [
 ob 6 (.mv (.cst (.int .i64 0)))] false [1,2,4,5,6]) q125_3) q125_5)
def q125_7:ACode :=
 (.seq (.region [
 ob 5 (.own 6 (.cst (.slice .c0 [])))] false [1,2,4,5]) q125_6)
def E125:=And.intro (exK_head q125_0.eq_1) (And.intro (exK_head q125_1.eq_1) (And.intro (exK_head q125_2.eq_1) (And.intro (exK_head lb125_0.eq_1) (And.intro (exK_head q125_3.eq_1) (And.intro (exK_head q125_4.eq_1) (And.intro (exK_head q125_5.eq_1) (And.intro (exK_head q125_6.eq_1) (exK_head q125_7.eq_1))))))))
def ann125:Ann:={ n:=33,own:=[5],lv:=[(0,[1,2,4]),(1,[1,2,4,5]),(2,[1,2,4,5,6]),(3,[1,2,4,5,6,11]),(4,[1,2,4,5,6]),(5,[1,2,4,5,6,21]),(6,[1,2,4,5,6]),(7,[2,4]),(8,[4])],lp:=[(3,[1,2,4,5,6])] }
def fn125:AFn:=AFn.mk 2 [.cellA 4 3]
 (.seq (.region [
 ob 2 (.box (.tmp 0)),
 ob 4 (.box0 [(.slice .c0 []),(.int .i64 0),(.int .i64 0)])] false [1,2,4]) q125_7)
theorem ok125:compFn Tryz.prog ann125 Tryz.f125=some fn125:=by kernel_rfl
def q155_0:ACode :=
 (.seq (.region [
 ob 5 (.faddr 4 (.tmp 3)),
 ob 6 (.load1 (.tmp 5)),
 ob 7 (.lenV (.tmp 6)),
 ob 8 (.bin .geq (.tmp 7) (.cst (.int .i64 64))),
 ob 9 (.mv (.tmp 8)),
 og 10 9 false (.loadA 3 (.tmp 2)),
 og 11 9 false (.faddr 0 (.tmp 3)),
 og 12 9 false (.load1 (.tmp 11)),
 og 13 9 false (.call 123 [(.tmp 10),(.tmp 12)]),
 og 14 9 false (.bin .geq (.tmp 13) (.cst (.int .i64 12))),
 ob 15 (.pick (.tmp 9) (.cst (.bool true)) (.tmp 14)),
 ob 16 (.mv (.tmp 15)),
 og 17 16 false (.faddr 2 (.tmp 2)),
 og 18 16 false (.load1 (.tmp 17)),
 og 19 16 false (.bin .geq (.tmp 18) (.cst (.int .i64 1099511627776))),
 ob 20 (.pick (.tmp 16) (.cst (.bool true)) (.tmp 19)),
 ob 4 (.mv (.tmp 20))] false [4]) (.ret))
def E155:=exK_head q155_0.eq_1
def ann155:Ann:={ n:=21,own:=[],lv:=[(0,[2,3]),(1,[4])],lp:=[] }
def fn155:AFn:=AFn.mk 2 [.tmp 4]
 (.seq (.region [
 ob 2 (.box (.tmp 0)),
 ob 3 (.box (.tmp 1)),
 ob 4 (.mv (.cst (.bool false)))] false [2,3]) q155_0)
theorem ok155:compFn Tryz.prog ann155 Tryz.f155=some fn155:=by kernel_rfl
def q156_0:ACode :=
 (.seq (.region [
 ob 21 (.mv (.tmp 5)),
 ob 4 (.mv (.tmp 21))] false [4]) (.ret))
def q156_1:ACode :=
 (.region [
 ob 11 (.mv (.tmp 5)),
 ob 12 (.bin .add (.tmp 11) (.cst (.int .i64 1))),
 ob 5 (.mv (.tmp 12))] false [1,2,5])
def q156_2:ACode :=
 (.seq (.block 1 (.seq (.region [
 ob 13 (.faddr 0 (.tmp 2)),
 ob 14 (.load1 (.tmp 13)),
 ob 15 (.mv (.tmp 5)),
 ob 16 (.iaddr 6 (.tmp 14) (.tmp 15)),
 ob 17 (.faddr 0 (.tmp 16)),
 ob 18 (.load1 (.tmp 17)),
 ob 19 (.mv (.tmp 1)),
 ob 20 (.bin .eql (.tmp 18) (.tmp 19))] false [1,2,5,20]) (.cond (.tmp 20) q156_0 (.skip)))) q156_1)
def lb156_0:ACode :=
 (.seq (.seq (.region [
 ob 6 (.mv (.tmp 5)),
 ob 7 (.faddr 0 (.tmp 2)),
 ob 8 (.load1 (.tmp 7)),
 ob 9 (.lenV (.tmp 8)),
 ob 10 (.bin .lss (.tmp 6) (.tmp 9))] false [1,2,5,10]) (.cond (.tmp 10) (.skip) (.exit 0))) q156_2)
def q156_3:ACode :=
 (.seq (.region [
 ob 4 (.mv (.cst (.int .i64 (-1))))] false [4]) (.ret))
def q156_4:ACode :=
 (.seq (.seq (.region [
 ob 5 (.mv (.cst (.int .i64 0)))] false [1,2,5]) (.block 0 (.loop [1,2,5] lb156_0))) q156_3)
def E156:=And.intro (exK_head q156_0.eq_1) (And.intro (exK_head q156_1.eq_1) (And.intro (exK_head q156_2.eq_1) (And.intro (exK_head lb156_0.eq_1) (And.intro (exK_head q156_3.eq_1) (exK_head q156_4.eq_1)))))
def ann156:Ann:={ n:=22,own:=[],lv:=[(0,[1,2]),(1,[1,2,5]),(2,[1,2,5,10]),(3,[1,2,5]),(4,[1,2,5,20]),(5,[4]),(6,[4])],lp:=[(2,[1,2,5])] }
def fn156:AFn:=AFn.mk 2 [.tmp 4]
 (.seq (.region [
 ob 2 (.box (.tmp 0)),
 ob 4 (.mv (.cst (.int .i64 0)))] false [1,2]) q156_4)
theorem ok156:compFn Tryz.prog ann156 Tryz.f156=some fn156:=by kernel_rfl
def q3_0:ACode :=
 (.seq (.region [
 ob 16 (.mv (.tmp 9)),
 ob 8 (.mv (.tmp 16))] false [8]) (.ret))
def q3_1:ACode :=
 (.seq (.region [
 ob 23 (.mv (.tmp 9)),
 ob 24 (.mv (.tmp 23)),
 og 25 24 true (.loadA 8 (.tmp 10)),
 ⟨(some 26),.call 15 [(.tmp 25)],(some (24,true)),true,false,[]⟩,
 og 27 24 true (.loadA 8 (.tmp 10)),
 og 28 24 true (.call 16 [(.tmp 27)]),
 og 29 24 true (.bin .eql (.tmp 26) (.tmp 28)),
 ob 30 (.pick (.tmp 24) (.tmp 29) (.cst (.bool false))),
 ob 31 (.mv (.tmp 30)),
 og 32 31 true (.loadA 7 (.tmp 11)),
 ⟨(some 33),.call 17 [(.tmp 32)],(some (31,true)),true,false,[]⟩,
 og 34 31 true (.loadA 7 (.tmp 11)),
 og 35 31 true (.call 18 [(.tmp 34)]),
 og 36 31 true (.bin .eql (.tmp 33) (.tmp 35)),
 ob 37 (.pick (.tmp 31) (.tmp 36) (.cst (.bool false))),
 ob 38 (.mv (.tmp 37)),
 og 39 38 true (.mv (.tmp 2)),
 og 40 38 true (.call 20 [(.tmp 39)]),
 og 41 38 true (.call 19 [(.tmp 40)]),
 og 42 38 true (.mv (.tmp 2)),
 og 43 38 true (.call 20 [(.tmp 42)]),
 og 44 38 true (.call 21 [(.tmp 43)]),
 og 45 38 true (.bin .eql (.tmp 41) (.tmp 44)),
 ob 46 (.pick (.tmp 38) (.tmp 45) (.cst (.bool false))),
 ob 47 (.mv (.tmp 46)),
 og 48 47 true (.loadA 3 (.tmp 12)),
 ⟨(some 49),.call 22 [(.tmp 48)],(some (47,true)),true,false,[]⟩,
 og 50 47 true (.loadA 3 (.tmp 12)),
 og 51 47 true (.call 23 [(.tmp 50)]),
 og 52 47 true (.bin .eql (.tmp 49) (.tmp 51)),
 ob 53 (.pick (.tmp 47) (.tmp 52) (.cst (.bool false))),
 ob 8 (.mv (.tmp 53))] true [8]) (.ret))
def q3_2:ACode :=
 (.seq (.region [
 ob 21 (.mv (.tmp 3)),
 ob 22 (.call 14 [(.tmp 21)]),
 ob 12 (.box0 [(.slice .c0 []),(.int .i64 0),(.int .i64 0)]),
 ox (.store 3 (.tmp 12) (.tmp 22))] false [2,9,10,11,12]) q3_1)
def q3_3:ACode :=
 (.seq (.region [
 ob 19 (.loadA 7 (.tmp 5)),
 ob 20 (.call 13 [(.tmp 19)]),
 ob 11 (.box0 [(.int .i64 0),(.int .i64 0),(.int .i64 0),(.int .i64 0),(.int .i64 0),(.slice .c0 []),(.slice .c0 [])]),
 ox (.store 7 (.tmp 11) (.tmp 20))] false [2,3,9,10,11]) q3_2)
def q3_4:ACode :=
 (.seq (.region [
 ob 17 (.loadA 8 (.tmp 4)),
 ob 18 (.call 12 [(.tmp 17)]),
 ob 10 (.box0 [(.int .i64 0),(.int .i64 0),(.str []),(.str []),(.int .i64 0),(.int .i64 0),(.int .i64 0),(.slice .c0 [])]),
 ox (.store 8 (.tmp 10) (.tmp 18))] false [2,3,5,9,10]) q3_3)
def q3_5:ACode :=
 (.seq (.seq (.region [
 ob 14 (.mv (.tmp 3)),
 ob 15 (.call 11 [(.tmp 14)])] false [2,3,4,5,9,15]) (.cond (.tmp 15) q3_0 (.skip))) q3_4)
def q3_6:ACode :=
 (.seq (.region [
 ob 13 (.call 10 []),
 ob 9 (.mv (.tmp 13))] false [2,3,4,5,9]) q3_5)
def E3:=And.intro (exK_head q3_0.eq_1) (And.intro (exK_head q3_1.eq_1) (And.intro (exK_head q3_2.eq_1) (And.intro (exK_head q3_3.eq_1) (And.intro (exK_head q3_4.eq_1) (And.intro (exK_head q3_5.eq_1) (exK_head q3_6.eq_1))))))
def ann3:Ann:={ n:=54,own:=[],lv:=[(0,[2,3,4,5]),(1,[2,3,4,5,9]),(2,[2,3,4,5,9,15]),(3,[8]),(4,[2,3,5,9,10]),(5,[2,3,9,10,11]),(6,[2,9,10,11,12]),(7,[8])],lp:=[] }
def fn3:AFn:=AFn.mk 4 [.tmp 8]
 (.seq (.region [
 ob 4 (.box (.tmp 0)),
 ob 5 (.box (.tmp 1)),
 ob 8 (.mv (.cst (.bool false)))] false [2,3,4,5]) q3_6)
theorem ok3:compFn Tryz.prog ann3 Tryz.f3=some fn3:=by kernel_rfl
def q23_0:ACode :=
 (.region [
 ob 29 (.mv (.tmp 3)),
 ob 30 (.bin .add (.tmp 29) (.cst (.str [45,32,102,105,108,101,32]))),
 ob 31 (.faddr 0 (.tmp 5)),
 ob 32 (.load1 (.tmp 31)),
 ⟨(some 33),.call 37 [(.tmp 32)],none,true,false,[]⟩,
 ob 34 (.bin .add (.tmp 30) (.tmp 33)),
 ob 35 (.faddr 3 (.tmp 5)),
 ob 36 (.load1 (.tmp 35)),
 ob 37 (.b2s (.tmp 36)),
 ob 38 (.call 47 [(.cst (.str [100,97,116,97])),(.tmp 37)]),
 ob 39 (.bin .add (.tmp 34) (.tmp 38)),
 ob 40 (.bin .add (.tmp 39) (.cst (.str [10]))),
 ob 3 (.mv (.tmp 40))] true [1,3,4])
def q23_1:ACode :=
 (.seq (.region [
 ob 21 (.faddr 1 (.tmp 5)),
 ob 22 (.load1 (.tmp 21)),
 ob 23 (.bin .eql (.tmp 22) (.cst (.int .i64 1))),
 ob 24 (.mv (.tmp 23)),
 og 25 24 true (.faddr 2 (.tmp 5)),
 og 26 24 true (.load1 (.tmp 25)),
 og 27 24 true (.bin .eql (.tmp 26) (.cst (.int .i64 0))),
 ob 28 (.pick (.tmp 24) (.tmp 27) (.cst (.bool false)))] false [1,3,4,5,28]) (.cond (.tmp 28) q23_0 (.skip)))
def q23_2:ACode :=
 (.region [
 ob 14 (.mv (.tmp 4)),
 ob 15 (.bin .add (.tmp 14) (.cst (.int .i64 1))),
 ob 4 (.mv (.tmp 15))] false [1,3,4])
def q23_3:ACode :=
 (.seq (.block 1 (.seq (.region [
 ob 16 (.faddr 0 (.tmp 1)),
 ob 17 (.load1 (.tmp 16)),
 ob 18 (.mv (.tmp 4)),
 ob 19 (.iaddr 6 (.tmp 17) (.tmp 18)),
 ob 20 (.loadA 6 (.tmp 19)),
 ob 5 (.box0 [(.int .i64 0),(.int .i64 0),(.int .i64 0),(.slice .c0 []),(.slice .c0 []),(.int .i64 0)]),
 ox (.store 6 (.tmp 5) (.tmp 20))] false [1,3,4,5]) q23_1)) q23_2)
def lb23_0:ACode :=
 (.seq (.seq (.region [
 ob 9 (.mv (.tmp 4)),
 ob 10 (.faddr 0 (.tmp 1)),
 ob 11 (.load1 (.tmp 10)),
 ob 12 (.lenV (.tmp 11)),
 ob 13 (.bin .lss (.tmp 9) (.tmp 12))] false [1,3,4,13]) (.cond (.tmp 13) (.skip) (.exit 0))) q23_3)
def q23_4:ACode :=
 (.seq (.region [
 ob 41 (.mv (.tmp 3)),
 ob 2 (.mv (.tmp 41))] false [2]) (.ret))
def q23_5:ACode :=
 (.seq (.seq (.region [
 ob 4 (.mv (.cst (.int .i64 0)))] false [1,3,4]) (.block 0 (.loop [1,3,4] lb23_0))) q23_4)
def q23_6:ACode :=
 (.seq (.region [
 ob 6 (.loadA 3 (.tmp 1)),
 ob 7 (.call 54 [(.tmp 6),(.cst (.int .i64 1)),(.cst (.str []))]),
 ob 8 (.bin .add (.cst (.str [47,32,100,105,114,32,49,10])) (.tmp 7)),
 ob 3 (.mv (.tmp 8))] false [1,3]) q23_5)
def E23:=And.intro (exK_head q23_0.eq_1) (And.intro (exK_head q23_1.eq_1) (And.intro (exK_head q23_2.eq_1) (And.intro (exK_head q23_3.eq_1) (And.intro (exK_head lb23_0.eq_1) (And.intro (exK_head q23_4.eq_1) (And.intro (exK_head q23_5.eq_1) (exK_head q23_6.eq_1)))))))
def ann23:Ann:={ n:=42,own:=[],lv:=[(0,[1]),(1,[1,3]),(2,[1,3,4]),(3,[1,3,4,13]),(4,[1,3,4]),(5,[1,3,4,5]),(6,[1,3,4,5,28]),(7,[1,3,4]),(8,[2])],lp:=[(3,[1,3,4])] }
def fn23:AFn:=AFn.mk 1 [.tmp 2]
 (.seq (.region [
 ob 1 (.box (.tmp 0)),
 ob 2 (.mv (.cst (.str [])))] false [1]) q23_6)
theorem ok23:compFn Tryz.prog ann23 Tryz.f23=some fn23:=by kernel_rfl
def q54_0:ACode :=
 (.region [
 ob 52 (.mv (.tmp 7)),
 ob 53 (.loadA 3 (.tmp 3)),
 ob 54 (.faddr 0 (.tmp 10)),
 ob 55 (.load1 (.tmp 54)),
 ob 56 (.mv (.tmp 11)),
 ob 57 (.call 54 [(.tmp 53),(.tmp 55),(.tmp 56)]),
 ob 58 (.bin .add (.tmp 52) (.tmp 57)),
 ob 7 (.mv (.tmp 58))] false [2,3,7,8,9])
def q54_1:ACode :=
 (.seq (.region [
 ob 42 (.mv (.tmp 7)),
 ob 43 (.mv (.tmp 11)),
 ⟨(some 44),.call 49 [(.tmp 43)],none,true,false,[]⟩,
 ob 45 (.bin .add (.tmp 42) (.tmp 44)),
 ob 46 (.bin .add (.tmp 45) (.cst (.str [32,100,105,114,32]))),
 ob 47 (.faddr 0 (.tmp 10)),
 ob 48 (.load1 (.tmp 47)),
 ob 49 (.call 37 [(.tmp 48)]),
 ob 50 (.bin .add (.tmp 46) (.tmp 49)),
 ob 51 (.bin .add (.tmp 50) (.cst (.str [10]))),
 ob 7 (.mv (.tmp 51))] true [2,3,7,8,9,10,11]) q54_0)
def q54_2:ACode :=
 (.region [
 ob 59 (.mv (.tmp 7)),
 ob 60 (.mv (.tmp 11)),
 ⟨(some 61),.call 49 [(.tmp 60)],none,true,false,[]⟩,
 ob 62 (.bin .add (.tmp 59) (.tmp 61)),
 ob 63 (.bin .add (.tmp 62) (.cst (.str [32,102,105,108,101,32]))),
 ob 64 (.faddr 0 (.tmp 10)),
 ob 65 (.load1 (.tmp 64)),
 ⟨(some 66),.call 37 [(.tmp 65)],none,true,false,[]⟩,
 ob 67 (.bin .add (.tmp 63) (.tmp 66)),
 ob 68 (.faddr 2 (.tmp 10)),
 ob 69 (.load1 (.tmp 68)),
 ⟨(some 70),.call 46 [(.cst (.str [108,105,110,107,115])),(.tmp 69)],none,true,false,[]⟩,
 ob 71 (.bin .add (.tmp 67) (.tmp 70)),
 ob 72 (.faddr 3 (.tmp 10)),
 ob 73 (.load1 (.tmp 72)),
 ob 74 (.b2s (.tmp 73)),
 ob 75 (.call 47 [(.cst (.str [100,97,116,97])),(.tmp 74)]),
 ob 76 (.bin .add (.tmp 71) (.tmp 75)),
 ob 77 (.bin .add (.tmp 76) (.cst (.str [10]))),
 ob 7 (.mv (.tmp 77))] true [2,3,7,8,9])
def q54_3:ACode :=
 (.seq (.region [
 ob 39 (.faddr 1 (.tmp 10)),
 ob 40 (.load1 (.tmp 39)),
 ob 41 (.bin .eql (.tmp 40) (.cst (.int .i64 2)))] false [2,3,7,8,9,10,11,41]) (.cond (.tmp 41) q54_1 q54_2))
def q54_4:ACode :=
 (.seq (.region [
 ob 30 (.mv (.tmp 2)),
 ob 31 (.bin .add (.tmp 30) (.cst (.str [47]))),
 ob 32 (.faddr 4 (.tmp 8)),
 ob 33 (.load1 (.tmp 32)),
 ob 34 (.mv (.tmp 9)),
 ob 35 (.iaddr 3 (.tmp 33) (.tmp 34)),
 ob 36 (.faddr 0 (.tmp 35)),
 ob 37 (.load1 (.tmp 36)),
 ob 38 (.bin .add (.tmp 31) (.tmp 37)),
 ob 11 (.mv (.tmp 38))] false [2,3,7,8,9,10,11]) q54_3)
def q54_5:ACode :=
 (.region [
 ob 20 (.mv (.tmp 9)),
 ob 21 (.bin .add (.tmp 20) (.cst (.int .i64 1))),
 ob 9 (.mv (.tmp 21))] false [2,3,7,8,9])
def q54_6:ACode :=
 (.seq (.block 1 (.seq (.region [
 ob 22 (.loadA 3 (.tmp 3)),
 ob 23 (.faddr 4 (.tmp 8)),
 ob 24 (.load1 (.tmp 23)),
 ob 25 (.mv (.tmp 9)),
 ob 26 (.iaddr 3 (.tmp 24) (.tmp 25)),
 ob 27 (.faddr 1 (.tmp 26)),
 ob 28 (.load1 (.tmp 27)),
 ⟨(some 29),.call 92 [(.tmp 22),(.tmp 28)],none,false,true,[]⟩,
 ⟨(some 10),.box0 [(.int .i64 0),(.int .i64 0),(.int .i64 0),(.slice .c0 []),(.slice .c0 []),(.int .i64 0)],none,true,false,[]⟩,
 ox (.store 6 (.tmp 10) (.tmp 29))] true [2,3,7,8,9,10]) q54_4)) q54_5)
def lb54_0:ACode :=
 (.seq (.seq (.region [
 ob 15 (.mv (.tmp 9)),
 ob 16 (.faddr 4 (.tmp 8)),
 ob 17 (.load1 (.tmp 16)),
 ob 18 (.lenV (.tmp 17)),
 ob 19 (.bin .lss (.tmp 15) (.tmp 18))] false [2,3,7,8,9,19]) (.cond (.tmp 19) (.skip) (.exit 0))) q54_6)
def q54_7:ACode :=
 (.seq (.region [
 ob 78 (.mv (.tmp 7)),
 ob 6 (.mv (.tmp 78))] false [6]) (.ret))
def q54_8:ACode :=
 (.seq (.seq (.region [
 ob 9 (.mv (.cst (.int .i64 0)))] false [2,3,7,8,9]) (.block 0 (.loop [2,3,7,8,9] lb54_0))) q54_7)
def q54_9:ACode :=
 (.seq (.region [
 ob 12 (.loadA 3 (.tmp 3)),
 ob 13 (.mv (.tmp 1)),
 ob 14 (.call 92 [(.tmp 12),(.tmp 13)]),
 ob 8 (.box0 [(.int .i64 0),(.int .i64 0),(.int .i64 0),(.slice .c0 []),(.slice .c0 []),(.int .i64 0)]),
 ox (.store 6 (.tmp 8) (.tmp 14))] false [2,3,7,8]) q54_8)
def q54_10:ACode :=
 (.seq (.region [
 ob 7 (.mv (.cst (.str [])))] false [1,2,3,7]) q54_9)
def E54:=And.intro (exK_head q54_0.eq_1) (And.intro (exK_head q54_1.eq_1) (And.intro (exK_head q54_2.eq_1) (And.intro (exK_head q54_3.eq_1) (And.intro (exK_head q54_4.eq_1) (And.intro (exK_head q54_5.eq_1) (And.intro (exK_head q54_6.eq_1) (And.intro (exK_head lb54_0.eq_1) (And.intro (exK_head q54_7.eq_1) (And.intro (exK_head q54_8.eq_1) (And.intro (exK_head q54_9.eq_1) (exK_head q54_10.eq_1)))))))))))
def ann54:Ann:={ n:=79,own:=[],lv:=[(0,[1,2,3]),(1,[1,2,3,7]),(2,[2,3,7,8]),(3,[2,3,7,8,9]),(4,[2,3,7,8,9,19]),(5,[2,3,7,8,9]),(6,[2,3,7,8,9,10]),(7,[2,3,7,8,9,10,11]),(8,[2,3,7,8,9,10,11,41]),(9,[2,3,7,8,9,10,11]),(10,[2,3,7,8,9]),(11,[2,3,7,8,9]),(12,[6])],lp:=[(4,[2,3,7,8,9])] }
def fn54:AFn:=AFn.mk 3 [.tmp 6]
 (.seq (.region [
 ob 3 (.box (.tmp 0)),
 ob 6 (.mv (.cst (.str [])))] false [1,2,3]) q54_10)
theorem ok54:compFn Tryz.prog ann54 Tryz.f54=some fn54:=by kernel_rfl
def q92_0:ACode :=
 (.seq (.region [
 ob 21 (.faddr 0 (.tmp 2)),
 ob 22 (.load1 (.tmp 21)),
 ob 23 (.mv (.tmp 5)),
 ob 24 (.iaddr 6 (.tmp 22) (.tmp 23)),
 ob 25 (.loadA 6 (.tmp 24)),
 ox (.store 6 (.tmp 4) (.tmp 25))] false [4]) (.ret))
def q92_1:ACode :=
 (.region [
 ob 11 (.mv (.tmp 5)),
 ob 12 (.bin .add (.tmp 11) (.cst (.int .i64 1))),
 ob 5 (.mv (.tmp 12))] false [1,2,4,5])
def q92_2:ACode :=
 (.seq (.block 1 (.seq (.region [
 ob 13 (.faddr 0 (.tmp 2)),
 ob 14 (.load1 (.tmp 13)),
 ob 15 (.mv (.tmp 5)),
 ob 16 (.iaddr 6 (.tmp 14) (.tmp 15)),
 ob 17 (.faddr 0 (.tmp 16)),
 ob 18 (.load1 (.tmp 17)),
 ob 19 (.mv (.tmp 1)),
 ob 20 (.bin .eql (.tmp 18) (.tmp 19))] false [1,2,4,5,20]) (.cond (.tmp 20) q92_0 (.skip)))) q92_1)
def lb92_0:ACode :=
 (.seq (.seq (.region [
 ob 6 (.mv (.tmp 5)),
 ob 7 (.faddr 0 (.tmp 2)),
 ob 8 (.load1 (.tmp 7)),
 ob 9 (.lenV (.tmp 8)),
 ob 10 (.bin .lss (.tmp 6) (.tmp 9))] false [1,2,4,5,10]) (.cond (.tmp 10) (.skip) (.exit 0))) q92_2)
def q92_3:ACode :=
 (.seq (.region [
 ob 26 (.build [(.int .i64 0),(.int .i64 0),(.int .i64 0),(.slice .c0 []),(.slice .c0 []),(.int .i64 0)] []),
 ox (.store 6 (.tmp 4) (.tmp 26))] false [4]) (.ret))
def q92_4:ACode :=
 (.seq (.seq (.region [
 ob 5 (.mv (.cst (.int .i64 0)))] false [1,2,4,5]) (.block 0 (.loop [1,2,4,5] lb92_0))) q92_3)
def E92:=And.intro (exK_head q92_0.eq_1) (And.intro (exK_head q92_1.eq_1) (And.intro (exK_head q92_2.eq_1) (And.intro (exK_head lb92_0.eq_1) (And.intro (exK_head q92_3.eq_1) (exK_head q92_4.eq_1)))))
def ann92:Ann:={ n:=27,own:=[],lv:=[(0,[1,2,4]),(1,[1,2,4,5]),(2,[1,2,4,5,10]),(3,[1,2,4,5]),(4,[1,2,4,5,20]),(5,[4]),(6,[4])],lp:=[(2,[1,2,4,5])] }
def fn92:AFn:=AFn.mk 2 [.cellA 4 6]
 (.seq (.region [
 ob 2 (.box (.tmp 0)),
 ob 4 (.box0 [(.int .i64 0),(.int .i64 0),(.int .i64 0),(.slice .c0 []),(.slice .c0 []),(.int .i64 0)])] false [1,2,4]) q92_4)
theorem ok92:compFn Tryz.prog ann92 Tryz.f92=some fn92:=by kernel_rfl
end Go.Proofs.YtannopdcbocngaaGreatDoor
namespace Go.Proofs.YtannopdcbocngaaGreatDoor
open Go Go.Abs
noncomputable def tabX (c:Nat→Option AFn):Tab:=⟨fun f=>match c f with
 |some fn=>some fn
 |none=>code f,primS⟩
structure ExtOk (c:Nat→Option AFn):Prop where
 ok:∀f fn,c f=some fn→∃A func,Tryz.prog.funcs[f]?=some func∧compFn Tryz.prog A func=some fn
 new:∀f fn,c f=some fn→code f=none∧primS f=none
theorem tabX_ok {c:Nat→Option AFn} (h:ExtOk c):TabOk Tryz.prog (tabX c):=by
 refine ⟨fun f fn hf=>?_,tabS_ok.2⟩
 simp only [tabX] at hf
 split at hf
 ·rename_i fn' hc
  injection hf with hf; subst hf
  exact h.ok f _ hc
 ·exact code_ok f fn hf
theorem soundX {c:Nat→Option AFn} (h:ExtOk c):SoundC Tryz.prog (acall (tabX c)):=acall_sound (by kernel_rfl) (tabX_ok h)
theorem tabX_leN {c:Nat→Option AFn} (hc:ExtOk c):∀n,CallLe (acallN tabS n) (acallN (tabX c) n)
 |0,f,a,M,x,h=>by
  rw [acallN] at h ⊢
  exact h
 |n+1,f,a,M,x,h=>by
  have hp:(tabX c).prim f=tabS.prim f:=rfl
  rw [acallN] at h ⊢
  rw [hp]
  split at h
  ·rename_i g hg; exact h
  ·rename_i hg
   cases hcf:c f with
   |some fn =>
    obtain ⟨h1,_⟩:=hc.new f fn hcf
    have h2:tabS.code f=none:=h1
    rw [h2] at h
    cases h
   |none =>
    have hcc:(tabX c).code f=tabS.code f:=by simp only [tabX,hcf,tabS]
    rw [hcc]
    split at h
    ·cases h
    ·rename_i fn hfn
     split at h
     ·rename_i hl
      simp only [if_pos hl]
      obtain ⟨o,ho,h⟩:=obind_inv h
      rw [aexec_mono (tabX_leN hc n) _ ho,obind_some]
      exact h
     ·cases h
theorem tabX_leS {c:Nat→Option AFn} (hc:ExtOk c) {f:Nat} {a:List AVal} {M:AMem} {x:AVal×AMem} (h:acall tabS f a M=some x):acall (tabX c) f a M=some x:=by
 obtain ⟨n,hn⟩:=lim_ex h
 exact lim_some (fun n x h=>acallN_up (tabX c) n f a M x h) (tabX_leN hc n f a M x hn)
theorem kX {c:Nat→Option AFn} (hc:ExtOk c) {f:Nat} {vs:List AVal} {M:AMem} {x:AVal×AMem} (h:callOp (acall tab) f vs M=some x):callOp (acall (tabX c)) f vs M=some x:=by
 obtain ⟨a,B,y,h1,h2⟩:=callOp_inv h
 exact h2 _ (tabX_leS hc (tab_leS h1))
theorem kXS {c:Nat→Option AFn} (hc:ExtOk c) {f:Nat} {vs:List AVal} {M:AMem} {x:AVal×AMem} (h:callOp (acall tabS) f vs M=some x):callOp (acall (tabX c)) f vs M=some x:=by
 obtain ⟨a,B,y,h1,h2⟩:=callOp_inv h
 exact h2 _ (tabX_leS hc h1)
def cT:Nat→Option AFn
 |11=>some fn11
 |14=>some fn14
 |40=>some fn40
 |41=>some fn41
 |79=>some fn79
 |80=>some fn80
 |81=>some fn81
 |82=>some fn82
 |83=>some fn83
 |84=>some fn84
 |85=>some fn85
 |86=>some fn86
 |111=>some fn111
 |112=>some fn112
 |113=>some fn113
 |114=>some fn114
 |115=>some fn115
 |116=>some fn116
 |117=>some fn117
 |118=>some fn118
 |119=>some fn119
 |120=>some fn120
 |121=>some fn121
 |122=>some fn122
 |123=>some fn123
 |124=>some fn124
 |125=>some fn125
 |155=>some fn155
 |156=>some fn156
 |3=>some fn3
 |23=>some fn23
 |54=>some fn54
 |92=>some fn92
 |_=>none
theorem xT:ExtOk cT:=by
 refine ⟨fun f fn h=>?_,fun f fn h=>?_⟩
 ·unfold cT at h
  split at h
  ·injection h with h; subst h; exact ⟨_,_,Tryz.func11,ok11⟩
  ·injection h with h; subst h; exact ⟨_,_,Tryz.func14,ok14⟩
  ·injection h with h; subst h; exact ⟨_,_,Tryz.func40,ok40⟩
  ·injection h with h; subst h; exact ⟨_,_,Tryz.func41,ok41⟩
  ·injection h with h; subst h; exact ⟨_,_,Tryz.func79,ok79⟩
  ·injection h with h; subst h; exact ⟨_,_,Tryz.func80,ok80⟩
  ·injection h with h; subst h; exact ⟨_,_,Tryz.func81,ok81⟩
  ·injection h with h; subst h; exact ⟨_,_,Tryz.func82,ok82⟩
  ·injection h with h; subst h; exact ⟨_,_,Tryz.func83,ok83⟩
  ·injection h with h; subst h; exact ⟨_,_,Tryz.func84,ok84⟩
  ·injection h with h; subst h; exact ⟨_,_,Tryz.func85,ok85⟩
  ·injection h with h; subst h; exact ⟨_,_,Tryz.func86,ok86⟩
  ·injection h with h; subst h; exact ⟨_,_,Tryz.func111,ok111⟩
  ·injection h with h; subst h; exact ⟨_,_,Tryz.func112,ok112⟩
  ·injection h with h; subst h; exact ⟨_,_,Tryz.func113,ok113⟩
  ·injection h with h; subst h; exact ⟨_,_,Tryz.func114,ok114⟩
  ·injection h with h; subst h; exact ⟨_,_,Tryz.func115,ok115⟩
  ·injection h with h; subst h; exact ⟨_,_,Tryz.func116,ok116⟩
  ·injection h with h; subst h; exact ⟨_,_,Tryz.func117,ok117⟩
  ·injection h with h; subst h; exact ⟨_,_,Tryz.func118,ok118⟩
  ·injection h with h; subst h; exact ⟨_,_,Tryz.func119,ok119⟩
  ·injection h with h; subst h; exact ⟨_,_,Tryz.func120,ok120⟩
  ·injection h with h; subst h; exact ⟨_,_,Tryz.func121,ok121⟩
  ·injection h with h; subst h; exact ⟨_,_,Tryz.func122,ok122⟩
  ·injection h with h; subst h; exact ⟨_,_,Tryz.func123,ok123⟩
  ·injection h with h; subst h; exact ⟨_,_,Tryz.func124,ok124⟩
  ·injection h with h; subst h; exact ⟨_,_,Tryz.func125,ok125⟩
  ·injection h with h; subst h; exact ⟨_,_,Tryz.func155,ok155⟩
  ·injection h with h; subst h; exact ⟨_,_,Tryz.func156,ok156⟩
  ·injection h with h; subst h; exact ⟨_,_,Tryz.func3,ok3⟩
  ·injection h with h; subst h; exact ⟨_,_,Tryz.func23,ok23⟩
  ·injection h with h; subst h; exact ⟨_,_,Tryz.func54,ok54⟩
  ·injection h with h; subst h; exact ⟨_,_,Tryz.func92,ok92⟩
  ·cases h
 ·unfold cT at h
  split at h
  ·exact ⟨rfl,rfl⟩
  ·exact ⟨rfl,rfl⟩
  ·exact ⟨rfl,rfl⟩
  ·exact ⟨rfl,rfl⟩
  ·exact ⟨rfl,rfl⟩
  ·exact ⟨rfl,rfl⟩
  ·exact ⟨rfl,rfl⟩
  ·exact ⟨rfl,rfl⟩
  ·exact ⟨rfl,rfl⟩
  ·exact ⟨rfl,rfl⟩
  ·exact ⟨rfl,rfl⟩
  ·exact ⟨rfl,rfl⟩
  ·exact ⟨rfl,rfl⟩
  ·exact ⟨rfl,rfl⟩
  ·exact ⟨rfl,rfl⟩
  ·exact ⟨rfl,rfl⟩
  ·exact ⟨rfl,rfl⟩
  ·exact ⟨rfl,rfl⟩
  ·exact ⟨rfl,rfl⟩
  ·exact ⟨rfl,rfl⟩
  ·exact ⟨rfl,rfl⟩
  ·exact ⟨rfl,rfl⟩
  ·exact ⟨rfl,rfl⟩
  ·exact ⟨rfl,rfl⟩
  ·exact ⟨rfl,rfl⟩
  ·exact ⟨rfl,rfl⟩
  ·exact ⟨rfl,rfl⟩
  ·exact ⟨rfl,rfl⟩
  ·exact ⟨rfl,rfl⟩
  ·exact ⟨rfl,rfl⟩
  ·exact ⟨rfl,rfl⟩
  ·exact ⟨rfl,rfl⟩
  ·exact ⟨rfl,rfl⟩
  ·cases h
noncomputable abbrev tabT:Tab:=tabX cT
theorem soundT:SoundC Tryz.prog (acall tabT):=soundX xT
theorem kT {f:Nat} {vs:List AVal} {M:AMem} {x:AVal×AMem} (h:callOp (acall tabS) f vs M=some x):callOp (acall tabT) f vs M=some x:=kXS xT h
theorem kT0 {f:Nat} {vs:List AVal} {M:AMem} {x:AVal×AMem} (h:callOp (acall tab) f vs M=some x):callOp (acall tabT) f vs M=some x:=kX xT h
end Go.Proofs.YtannopdcbocngaaGreatDoor
namespace Go.Proofs.YtannopdcbocngaaGreatDoor
open Go Go.Abs
structure Ent where
 name:Bytes
 ino:Int
 cookie:Int
 deriving DecidableEq,Inhabited
structure Node where
 ino:Int
 kind:Int
 links:Int
 data:Bytes
 ents:List Ent
 up:Int
 deriving DecidableEq,Inhabited
structure Tree where
 nodes:List Node
 next:Int
 cookie:Int
 deriving DecidableEq,Inhabited
def Node.zero:Node:=⟨0,0,0,[],[],0⟩
def eEntC (e:Ent):List AVal:=[.str e.name,.int .i64 e.ino,.int .i64 e.cookie]
def eEnt (e:Ent):AVal := .agg (eEntC e)
abbrev eEnts (l:List Ent):AVal := .slice .sh (l.map eEnt)
abbrev eData (d:Bytes):AVal := .slice .sh (d.map u8V)
def eNodeC (n:Node):List AVal:=[.int .i64 n.ino,.int .i64 n.kind,.int .i64 n.links,eData n.data,eEnts n.ents,.int .i64 n.up]
def eNode (n:Node):AVal := .agg (eNodeC n)
abbrev eNodes (l:List Node):AVal := .slice .sh (l.map eNode)
def eTreeC (t:Tree):List AVal:=[eNodes t.nodes,.int .i64 t.next,.int .i64 t.cookie]
def eTree (t:Tree):AVal := .agg (eTreeC t)
structure Small (t:Tree):Prop where
 nodes:t.nodes.length≤100000
 ents:∀n,n∈t.nodes→n.ents.length≤100000
 data:∀n,n∈t.nodes→n.data.length≤100000
theorem cells_eNode (n:Node):(eNode n).cells=eNodeC n:=rfl
theorem cells_eEnt (e:Ent):(eEnt e).cells=eEntC e:=rfl
theorem len_eNodeC (n:Node):(eNodeC n).length=6:=rfl
theorem len_eEntC (e:Ent):(eEntC e).length=3:=rfl
theorem wid_nodes (l:List Node):wid (l.map eNode) 6=True:=by
 simp only [eq_iff_iff,iff_true]
 intro x hx
 obtain ⟨n,_,rfl⟩:=List.mem_map.1 hx
 rfl
theorem wid_ents (l:List Ent):wid (l.map eEnt) 3=True:=by
 simp only [eq_iff_iff,iff_true]
 intro x hx
 obtain ⟨n,_,rfl⟩:=List.mem_map.1 hx
 rfl
theorem wid_bytes (l:Bytes):wid (l.map u8V) 1=True:=by
 simp only [eq_iff_iff,iff_true]
 intro x hx
 obtain ⟨n,_,rfl⟩:=List.mem_map.1 hx
 rfl
theorem map_ent (l:List Ent) (s:Bytes) (a b:Int):l.map eEnt++[.agg [.str s,.int .i64 a,.int .i64 b]]=(l++[Ent.mk s a b]).map eEnt:=by simp [eEnt,eEntC]
structure Step where
 kind:Nat
 a:Nat
 b:Nat
 n:Nat
 m:Nat
 data:Bytes
def eStepC (s:Step):List AVal:=[.int .u8 s.kind,.int .u8 s.a,.int .u8 s.b,.int .u8 s.n,.int .u8 s.m,eData s.data]
def eStep (s:Step):AVal := .agg (eStepC s)
theorem cells_eStep (n:Step):(eStep n).cells=eStepC n:=rfl
theorem len_eStepC (n:Step):(eStepC n).length=6:=rfl
theorem wid_steps (l:List Step):wid (l.map eStep) 6=True:=by
 simp only [eq_iff_iff,iff_true]
 intro x hx
 obtain ⟨n,_,rfl⟩:=List.mem_map.1 hx
 rfl
set_option linter.defProp false in
def EVN:=And.intro @cells_eNode (And.intro @cells_eEnt (And.intro @len_eNodeC (And.intro @len_eEntC (And.intro @wid_nodes (And.intro @wid_ents (And.intro @wid_bytes (And.intro @cells_eStep (And.intro @len_eStepC @wid_steps))))))))
set_option linter.defProp false in
def BBT:=And.intro @Bool.and_true (And.intro @Bool.true_and (And.intro @Bool.and_false (And.intro @Bool.false_and (And.intro @Bool.or_true (And.intro @Bool.true_or (And.intro @Bool.or_false (And.intro @Bool.false_or (And.intro @Bool.not_true (And.intro @Bool.not_false (And.intro @Bool.and_self (And.intro @Bool.or_self (And.intro @Bool.false_eq_true (@beq_self_eq_true.{0})))))))))))))
end Go.Proofs.YtannopdcbocngaaGreatDoor
namespace Go.Proofs.YtannopdcbocngaaGreatDoor
open Go Go.Abs
attribute [local irreducible] exK opsK opK gK forkK kr acall callOp owhen obind
theorem at_mid {α:Type} {l:List α} {pre r:List α} {n:α} (h:l=pre++n::r):l[pre.length]?=some n:=by rw [h]; simp
theorem lt_mid {α:Type} {l:List α} {pre r:List α} {n:α} (h:l=pre++n::r):((pre.length:Int)<(l.length:Int))=True:=by rw [h]; simp; omega
theorem lt_end {α:Type} {l:List α} {pre:List α} (h:l=pre++[]):((pre.length:Int)<(l.length:Int))=False:=by rw [h]; simp
theorem step_len {α:Type} {pre:List α} {n:α}:((pre.length:Int)+1)=((pre++[n]).length:Int):=by simp
def placeGo (ino:Int):List Node→Nat→Int
 | [],_ => -1
 |n::r,i=>if n.ino=ino then i else placeGo ino r (i+1)
theorem loop156 {t:Tree} {ino:Int} (ht:t.nodes.length≤100000) {k:List K} {R:Int→Option (AVal×AMem)}
  (hx:∀e,kr (acall tabT) [.tmp 4] 0 k ⟨.exit 0,e,[.cells (eTreeC t)]⟩=R (-1)) (hr:∀(i:Nat),kr (acall tabT) [.tmp 4] 0 k ⟨.ret,[(4,.int .i64 i)],[.cells (eTreeC t)]⟩=R i) :
  ∀(l pre:List Node),t.nodes=pre++l→exK (acall tabT) [.tmp 4] 0 k (.loop [1,2,5] lb156_0) [(1,.int .i64 ino),(2,.ptr 0 0),(5,.int .i64 pre.length)] [.cells (eTreeC t)]=R (placeGo ino l pre.length):=by
 intro l
 induction l with
 |nil =>
  intro pre h
  rw [exK_loop]
  simp only [E156,eTreeC,eNodes,lt_end h,EVN,EVT,EVD,↓reduceIte,Nat.reduceEqDiff,reduceCtorEq,Nat.reduceAdd,Nat.reduceLeDiff,ne_eq,Nat.reduceLT,Int.reduceLT,Int.reduceLE,Int.reduceNeg]
  exact hx _
 |cons n r ih =>
  intro pre h
  rw [exK_loop]
  have hlen:pre.length+1≤100000:=by rw [h] at ht; simp at ht; omega
  have hw:IntKind.i64.wrap ((pre.length:Int)+1)=((pre++[n]).length:Int):=by rw [wrapS (by omega) (by omega)]; exact step_len
  simp only [E156,eTreeC,eNodes,lt_mid h,at_mid h,eNodeC,EVN,EVT,EVD,↓reduceIte,Nat.reduceEqDiff,reduceCtorEq,Nat.reduceAdd,Nat.reduceLeDiff,ne_eq,Nat.reduceLT,Int.reduceLT,Int.reduceLE,Int.reduceNeg]
  refine fork_split (fun hb=>?_) (fun hb=>?_)
  ·have hb:n.ino=ino:=by simpa using hb
   simp only [E156,EVN,EVT,EVD,↓reduceIte,Nat.reduceEqDiff,reduceCtorEq,Nat.reduceAdd,Nat.reduceLeDiff,ne_eq,Nat.reduceLT,Int.reduceLT,Int.reduceLE,Int.reduceNeg]
   rw [placeGo,if_pos hb]
   exact hr _
  ·have hb:¬n.ino=ino:=by simpa using hb
   simp only [E156,hw,EVN,EVT,EVD,↓reduceIte,Nat.reduceEqDiff,reduceCtorEq,Nat.reduceAdd,Nat.reduceLeDiff,ne_eq,Nat.reduceLT,Int.reduceLT,Int.reduceLE,Int.reduceNeg]
   rw [placeGo,if_neg hb]
   have:=ih (pre++[n]) (by rw [h]; simp)
   simp only [List.length_append,List.length_cons,List.length_nil] at this ⊢
   exact this
theorem c156 (t:Tree) (ino:Int) (ht:t.nodes.length≤100000):acall tabT 156 [eTree t,.int .i64 ino] []=some (.int .i64 (placeGo ino t.nodes 0),[]):=by
 refine acall_ex rfl rfl rfl ?_
 simp only [fn156,E156,eTree,EVN,EVT,EVD,↓reduceIte,Nat.reduceEqDiff,reduceCtorEq,Nat.reduceAdd,Nat.reduceLeDiff,ne_eq,Nat.reduceLT,Int.reduceLT,Int.reduceLE,Int.reduceNeg]
 exact loop156 (R:=fun z=>some (.int .i64 z,[])) ht (fun e=>by simp only [E156,EVN,EVT,EVD,↓reduceIte,Nat.reduceEqDiff,reduceCtorEq,Nat.reduceAdd,Nat.reduceLeDiff,ne_eq,Nat.reduceLT,Int.reduceLT,Int.reduceLE,Int.reduceNeg]) (fun i=>by simp only [E156,EVN,EVT,EVD,↓reduceIte,Nat.reduceEqDiff,reduceCtorEq,Nat.reduceAdd,Nat.reduceLeDiff,ne_eq,Nat.reduceLT,Int.reduceLT,Int.reduceLE,Int.reduceNeg]) t.nodes [] rfl
theorem k156 (nodes:List Node) (next cookie ino:Int) (h:nodes.length≤100000) (M:AMem):callOp (acall tabT) 156 [.agg [eNodes nodes,.int .i64 next,.int .i64 cookie],.int .i64 ino] M=some (.int .i64 (placeGo ino nodes 0),M) :=
 callOp0 (c156 ⟨nodes,next,cookie⟩ ino h) rfl rfl rfl rfl rfl M
def find (nodes:List Node) (ino:Int):Option Node:=nodes.find? fun n=>n.ino==ino
theorem placeGo_spec (ino:Int):∀(l:List Node) (i:Nat),(find l ino=none∧placeGo ino l i = -1)∨∃m n,l[m]?=some n∧find l ino=some n∧placeGo ino l i=((i+m:Nat):Int)
 | [],_ => .inl ⟨rfl,rfl⟩
 |n::r,i=>by
  unfold find placeGo
  by_cases h:n.ino=ino
  ·exact .inr ⟨0,n,rfl,by simp [h],by simp [h]⟩
  ·rcases placeGo_spec ino r (i+1) with ⟨h1,h2⟩|⟨m,n',h1,h2,h3⟩
   ·exact .inl ⟨by simp [h]; simpa [find] using h1,by simp [h,h2]⟩
   ·exact .inr ⟨m+1,n',by simpa using h1,by simp [h]; simpa [find] using h2,by simp [h,h3]; omega⟩
theorem c114 (t:Tree) (ino:Int) (ht:t.nodes.length≤100000):acall tabT 114 [eTree t,.int .i64 ino] []=some (.tuple [eNode ((find t.nodes ino).getD Node.zero),.bool (find t.nodes ino).isSome],[]):=by
 refine acall_ex rfl rfl rfl ?_
 simp only [fn114,E114,eTree,eTreeC,k156,ht,EVN,EVT,EVD,↓reduceIte,Nat.reduceEqDiff,reduceCtorEq,Nat.reduceAdd,Nat.reduceLeDiff,ne_eq,Nat.reduceLT,Int.reduceLT,Int.reduceLE,Int.reduceNeg]
 rcases placeGo_spec ino t.nodes 0 with ⟨h1,h2⟩|⟨m,n,h1,h2,h3⟩
 ·rw [h2]
  simp only [E114,h1,EVN,EVT,EVD,↓reduceIte,Nat.reduceEqDiff,reduceCtorEq,Nat.reduceAdd,Nat.reduceLeDiff,ne_eq,Nat.reduceLT,Int.reduceLT,Int.reduceLE,Int.reduceNeg]
  rfl
 ·rw [h3]
  simp only [E114,h1,h2,eNodes,eNodeC,EVN,EVT,EVD,↓reduceIte,Nat.reduceEqDiff,reduceCtorEq,Nat.reduceAdd,Nat.reduceLeDiff,ne_eq,Nat.reduceLT,Int.reduceLT,Int.reduceLE,Int.reduceNeg]
  rfl
theorem k114 (nodes:List Node) (next cookie ino:Int) (h:nodes.length≤100000) (M:AMem):callOp (acall tabT) 114 [.agg [eNodes nodes,.int .i64 next,.int .i64 cookie],.int .i64 ino] M=some (.tuple [eNode ((find nodes ino).getD Node.zero),.bool (find nodes ino).isSome],M) :=
 callOp0 (c114 ⟨nodes,next,cookie⟩ ino h) rfl rfl rfl rfl rfl M
def dirN (nodes:List Node) (ino:Int):Node×Int:=match find nodes ino with
 |none=>(Node.zero,70)
 |some n=>if n.kind=2 then (n,0) else (Node.zero,73)
theorem c118 (t:Tree) (ino:Int) (ht:t.nodes.length≤100000):acall tabT 118 [eTree t,.int .i64 ino] []=some (.tuple [eNode (dirN t.nodes ino).1,.int .i64 (dirN t.nodes ino).2],[]):=by
 refine acall_ex rfl rfl rfl ?_
 simp only [fn118,E118,eTree,eTreeC,k114,ht,eNode,eNodeC,EVN,EVT,EVD,↓reduceIte,Nat.reduceEqDiff,reduceCtorEq,Nat.reduceAdd,Nat.reduceLeDiff,ne_eq,Nat.reduceLT,Int.reduceLT,Int.reduceLE,Int.reduceNeg]
 unfold dirN
 cases hf:find t.nodes ino with
 |none=>simp only [E118,Option.isSome,EVN,EVT,EVD,↓reduceIte,Nat.reduceEqDiff,reduceCtorEq,Nat.reduceAdd,Nat.reduceLeDiff,ne_eq,Nat.reduceLT,Int.reduceLT,Int.reduceLE,Int.reduceNeg]; first|done|rfl
 |some n =>
  simp only [E118,Option.isSome,Option.getD_some,EVN,EVT,EVD,↓reduceIte,Nat.reduceEqDiff,reduceCtorEq,Nat.reduceAdd,Nat.reduceLeDiff,ne_eq,Nat.reduceLT,Int.reduceLT,Int.reduceLE,Int.reduceNeg]
  repeat' (first|(refine fork_split (fun hb=>?_) (fun hb=>?_)<;>simp only [hb,EVN,E118,EVT,EVD,↓reduceIte,Nat.reduceEqDiff,reduceCtorEq,Nat.reduceAdd,Nat.reduceLeDiff,ne_eq,Nat.reduceLT,Int.reduceLT,Int.reduceLE,Int.reduceNeg])|(refine guard_split (fun hb=>?_) (fun hb=>?_)<;>simp only [hb,EVN,E118,EVT,EVD,↓reduceIte,Nat.reduceEqDiff,reduceCtorEq,Nat.reduceAdd,Nat.reduceLeDiff,ne_eq,Nat.reduceLT,Int.reduceLT,Int.reduceLE,Int.reduceNeg])|(refine opK_pick (fun hb=>?_) (fun hb=>?_)<;>simp only [hb,EVN,E118,EVT,EVD,↓reduceIte,Nat.reduceEqDiff,reduceCtorEq,Nat.reduceAdd,Nat.reduceLeDiff,ne_eq,Nat.reduceLT,Int.reduceLT,Int.reduceLE,Int.reduceNeg]))
  all_goals simp_all [Node.zero]
theorem k118 (nodes:List Node) (next cookie ino:Int) (h:nodes.length≤100000) (M:AMem):callOp (acall tabT) 118 [.agg [eNodes nodes,.int .i64 next,.int .i64 cookie],.int .i64 ino] M=some (.tuple [eNode (dirN nodes ino).1,.int .i64 (dirN nodes ino).2],M) :=
 callOp0 (c118 ⟨nodes,next,cookie⟩ ino h) rfl rfl rfl rfl rfl M
end Go.Proofs.YtannopdcbocngaaGreatDoor
namespace Go.Proofs.YtannopdcbocngaaGreatDoor
open Go Go.Abs
attribute [local irreducible] exK opsK opK gK forkK kr acall callOp owhen obind
def namedGo (s:Bytes):List Ent→Nat→Int
 | [],_ => -1
 |n::r,i=>if n.name=s then i else namedGo s r (i+1)
def findE (l:List Ent) (s:Bytes):Option Ent:=l.find? fun e=>e.name==s
theorem namedGo_spec (s:Bytes):∀(l:List Ent) (i:Nat),(findE l s=none∧namedGo s l i = -1)∨∃m n,l[m]?=some n∧findE l s=some n∧namedGo s l i=((i+m:Nat):Int)
 | [],_ => .inl ⟨rfl,rfl⟩
 |n::r,i=>by
  unfold findE namedGo
  by_cases h:n.name=s
  ·exact .inr ⟨0,n,rfl,by simp [h],by simp [h]⟩
  ·rcases namedGo_spec s r (i+1) with ⟨h1,h2⟩|⟨m,n',h1,h2,h3⟩
   ·exact .inl ⟨by simp [h]; simpa [findE] using h1,by simp [h,h2]⟩
   ·exact .inr ⟨m+1,n',by simpa using h1,by simp [h]; simpa [findE] using h2,by simp [h,h3]; omega⟩
theorem loop120 {t:Node} {s:Bytes} (ht:t.ents.length≤100000) {k:List K} {R:Int→Option (AVal×AMem)}
  (hx:∀e,kr (acall tabT) [.tmp 4] 0 k ⟨.exit 0,e,[.cells (eNodeC t)]⟩=R (-1)) (hr:∀(i:Nat),kr (acall tabT) [.tmp 4] 0 k ⟨.ret,[(4,.int .i64 i)],[.cells (eNodeC t)]⟩=R i) :
  ∀(l pre:List Ent),t.ents=pre++l→exK (acall tabT) [.tmp 4] 0 k (.loop [1,2,5] lb120_0) [(1,.str s),(2,.ptr 0 0),(5,.int .i64 pre.length)] [.cells (eNodeC t)]=R (namedGo s l pre.length):=by
 intro l
 induction l with
 |nil =>
  intro pre h
  rw [exK_loop]
  simp only [E120,eNodeC,eEnts,lt_end h,EVN,EVT,EVD,↓reduceIte,Nat.reduceEqDiff,reduceCtorEq,Nat.reduceAdd,Nat.reduceLeDiff,ne_eq,Nat.reduceLT,Int.reduceLT,Int.reduceLE,Int.reduceNeg]
  exact hx _
 |cons n r ih =>
  intro pre h
  rw [exK_loop]
  have hlen:pre.length+1≤100000:=by rw [h] at ht; simp at ht; omega
  have hw:IntKind.i64.wrap ((pre.length:Int)+1)=((pre++[n]).length:Int):=by rw [wrapS (by omega) (by omega)]; exact step_len
  simp only [E120,eNodeC,eEnts,lt_mid h,at_mid h,eEntC,EVN,EVT,EVD,↓reduceIte,Nat.reduceEqDiff,reduceCtorEq,Nat.reduceAdd,Nat.reduceLeDiff,ne_eq,Nat.reduceLT,Int.reduceLT,Int.reduceLE,Int.reduceNeg]
  refine fork_split (fun hb=>?_) (fun hb=>?_)
  ·have hb:n.name=s:=by simpa using hb
   simp only [E120,EVN,EVT,EVD,↓reduceIte,Nat.reduceEqDiff,reduceCtorEq,Nat.reduceAdd,Nat.reduceLeDiff,ne_eq,Nat.reduceLT,Int.reduceLT,Int.reduceLE,Int.reduceNeg]
   rw [namedGo,if_pos hb]
   exact hr _
  ·have hb:¬n.name=s:=by simpa using hb
   simp only [E120,hw,EVN,EVT,EVD,↓reduceIte,Nat.reduceEqDiff,reduceCtorEq,Nat.reduceAdd,Nat.reduceLeDiff,ne_eq,Nat.reduceLT,Int.reduceLT,Int.reduceLE,Int.reduceNeg]
   rw [namedGo,if_neg hb]
   have:=ih (pre++[n]) (by rw [h]; simp)
   simp only [List.length_append,List.length_cons,List.length_nil] at this ⊢
   exact this
theorem c120 (t:Node) (s:Bytes) (ht:t.ents.length≤100000):acall tabT 120 [eNode t,.str s] []=some (.int .i64 (namedGo s t.ents 0),[]):=by
 refine acall_ex rfl rfl rfl ?_
 simp only [fn120,E120,eNode,EVN,EVT,EVD,↓reduceIte,Nat.reduceEqDiff,reduceCtorEq,Nat.reduceAdd,Nat.reduceLeDiff,ne_eq,Nat.reduceLT,Int.reduceLT,Int.reduceLE,Int.reduceNeg]
 exact loop120 (R:=fun z=>some (.int .i64 z,[])) ht (fun e=>by simp only [E120,EVN,EVT,EVD,↓reduceIte,Nat.reduceEqDiff,reduceCtorEq,Nat.reduceAdd,Nat.reduceLeDiff,ne_eq,Nat.reduceLT,Int.reduceLT,Int.reduceLE,Int.reduceNeg]) (fun i=>by simp only [E120,EVN,EVT,EVD,↓reduceIte,Nat.reduceEqDiff,reduceCtorEq,Nat.reduceAdd,Nat.reduceLeDiff,ne_eq,Nat.reduceLT,Int.reduceLT,Int.reduceLE,Int.reduceNeg]) t.ents [] rfl
theorem k120 (a b c:Int) (d:Bytes) (e:List Ent) (u:Int) (s:Bytes) (h:e.length≤100000) (M:AMem):callOp (acall tabT) 120 [.agg [.int .i64 a,.int .i64 b,.int .i64 c,eData d,eEnts e,.int .i64 u],.str s] M=some (.int .i64 (namedGo s e 0),M) :=
 callOp0 (c120 ⟨a,b,c,d,e,u⟩ s h) rfl rfl rfl rfl rfl M
def okByte (b:UInt8):Bool := !(decide ((b.toNat:Int)<32)||((b.toNat:Int)==47))
def nameOk (s:Bytes):Bool := !(decide ((s.length:Int)<1)||(decide ((s.length:Int)>32)||(s==[46]||s==[46,46])))&&s.all okByte
theorem loop119 {s:Bytes} (hs:s.length≤100000) {k:List K} {R:Bool→Option (AVal×AMem)}
  (hx:∀e,kr (acall tabT) [.tmp 2] 0 k ⟨.exit 0,e,[]⟩=R true) (hr:kr (acall tabT) [.tmp 2] 0 k ⟨.ret,[(2,.bool false)],[]⟩=R false) :
  ∀(l pre:Bytes),s=pre++l→exK (acall tabT) [.tmp 2] 0 k (.loop [0,3] lb119_0) [(0,.str s),(3,.int .i64 pre.length)] []=R (l.all okByte):=by
 intro l
 induction l with
 |nil =>
  intro pre h
  rw [exK_loop]
  simp only [E119,lt_end h,EVN,EVT,EVD,↓reduceIte,Nat.reduceEqDiff,reduceCtorEq,Nat.reduceAdd,Nat.reduceLeDiff,ne_eq,Nat.reduceLT,Int.reduceLT,Int.reduceLE,Int.reduceNeg]
  exact hx _
 |cons n r ih =>
  intro pre h
  rw [exK_loop]
  have hlen:pre.length+1≤100000:=by rw [h] at hs; simp at hs; omega
  have hw:IntKind.i64.wrap ((pre.length:Int)+1)=((pre++[n]).length:Int):=by rw [wrapS (by omega) (by omega)]; exact step_len
  have hi:=ih (pre++[n]) (by rw [h]; simp)
  simp only [List.length_append,List.length_cons,List.length_nil] at hi
  simp only [E119,lt_mid h,at_mid h,EVN,EVT,EVD,↓reduceIte,Nat.reduceEqDiff,reduceCtorEq,Nat.reduceAdd,Nat.reduceLeDiff,ne_eq,Nat.reduceLT,Int.reduceLT,Int.reduceLE,Int.reduceNeg]
  repeat' (first|(refine fork_split (fun hb=>?_) (fun hb=>?_)<;>simp only [hb,EVN,E119,at_mid h,hw,EVT,EVD,↓reduceIte,Nat.reduceEqDiff,reduceCtorEq,Nat.reduceAdd,Nat.reduceLeDiff,ne_eq,Nat.reduceLT,Int.reduceLT,Int.reduceLE,Int.reduceNeg])|(refine guard_split (fun hb=>?_) (fun hb=>?_)<;>simp only [hb,EVN,E119,at_mid h,hw,EVT,EVD,↓reduceIte,Nat.reduceEqDiff,reduceCtorEq,Nat.reduceAdd,Nat.reduceLeDiff,ne_eq,Nat.reduceLT,Int.reduceLT,Int.reduceLE,Int.reduceNeg])|(refine opK_pick (fun hb=>?_) (fun hb=>?_)<;>simp only [hb,EVN,E119,at_mid h,hw,EVT,EVD,↓reduceIte,Nat.reduceEqDiff,reduceCtorEq,Nat.reduceAdd,Nat.reduceLeDiff,ne_eq,Nat.reduceLT,Int.reduceLT,Int.reduceLE,Int.reduceNeg]))
  all_goals try simp only [E119,List.length_append,List.length_cons,List.length_nil,EVN,EVT,EVD,↓reduceIte,Nat.reduceEqDiff,reduceCtorEq,Nat.reduceAdd,Nat.reduceLeDiff,ne_eq,Nat.reduceLT,Int.reduceLT,Int.reduceLE,Int.reduceNeg]
  all_goals first
   |(refine hr.trans ?_; congr 1; symm; simp_all [okByte]; done)
   |(refine hi.trans ?_; congr 1; symm; simp_all [okByte]; done)
theorem c119 (s:Bytes) (hs:s.length≤100000):acall tabT 119 [.str s] []=some (.bool (nameOk s),[]):=by
 refine acall_ex rfl rfl rfl ?_
 simp only [fn119,E119,EVN,EVT,EVD,↓reduceIte,Nat.reduceEqDiff,reduceCtorEq,Nat.reduceAdd,Nat.reduceLeDiff,ne_eq,Nat.reduceLT,Int.reduceLT,Int.reduceLE,Int.reduceNeg]
 have hl:=fun k hx hr=>loop119 (k:=k) (R:=fun b=>some (AVal.bool b,[])) hs hx hr s [] rfl
 repeat' (first|(refine fork_split (fun hb=>?_) (fun hb=>?_)<;>simp only [hb,EVN,E119,EVT,EVD,↓reduceIte,Nat.reduceEqDiff,reduceCtorEq,Nat.reduceAdd,Nat.reduceLeDiff,ne_eq,Nat.reduceLT,Int.reduceLT,Int.reduceLE,Int.reduceNeg])|(refine guard_split (fun hb=>?_) (fun hb=>?_)<;>simp only [hb,EVN,E119,EVT,EVD,↓reduceIte,Nat.reduceEqDiff,reduceCtorEq,Nat.reduceAdd,Nat.reduceLeDiff,ne_eq,Nat.reduceLT,Int.reduceLT,Int.reduceLE,Int.reduceNeg])|(refine opK_pick (fun hb=>?_) (fun hb=>?_)<;>simp only [hb,EVN,E119,EVT,EVD,↓reduceIte,Nat.reduceEqDiff,reduceCtorEq,Nat.reduceAdd,Nat.reduceLeDiff,ne_eq,Nat.reduceLT,Int.reduceLT,Int.reduceLE,Int.reduceNeg]))
 all_goals first
  |(simp_all [nameOk]; done)
  |(refine (hl _ (fun e=>by simp only [E119,EVN,EVT,EVD,↓reduceIte,Nat.reduceEqDiff,reduceCtorEq,Nat.reduceAdd,Nat.reduceLeDiff,ne_eq,Nat.reduceLT,Int.reduceLT,Int.reduceLE,Int.reduceNeg]) (by simp only [E119,EVN,EVT,EVD,↓reduceIte,Nat.reduceEqDiff,reduceCtorEq,Nat.reduceAdd,Nat.reduceLeDiff,ne_eq,Nat.reduceLT,Int.reduceLT,Int.reduceLE,Int.reduceNeg])).trans ?_; simp_all [nameOk]; done)
theorem k119 (s:Bytes) (hs:s.length≤100000) (M:AMem):callOp (acall tabT) 119 [.str s] M=some (.bool (nameOk s),M):=callOp0 (c119 s hs) rfl rfl rfl rfl rfl M
def lookN (nodes:List Node) (ino:Int) (s:Bytes):Int×Int :=
 if (dirN nodes ino).2≠0 then (0,(dirN nodes ino).2) else if nameOk s=false then (0,60) else match findE (dirN nodes ino).1.ents s with
  |none=>(0,70)
  |some e=>(e.ino,0)
theorem find_mem {nodes:List Node} {ino:Int} {n:Node} (h:find nodes ino=some n):n∈nodes∧n.ino=ino:=by
 unfold find at h
 exact ⟨List.mem_of_find?_eq_some h,by simpa using List.find?_some h⟩
theorem dirN_ents {t:Tree} (hs:Small t) (ino:Int):(dirN t.nodes ino).1.ents.length≤100000:=by
 unfold dirN
 split
 ·simp [Node.zero]
 ·rename_i n hn
  split
  ·exact hs.ents n (find_mem hn).1
  ·simp [Node.zero]
theorem c115 (t:Tree) (ino:Int) (s:Bytes) (ht:Small t) (hs:s.length≤100000):acall tabT 115 [eTree t,.int .i64 ino,.str s] []=some (.tuple [.int .i64 (lookN t.nodes ino s).1,.int .i64 (lookN t.nodes ino s).2],[]):=by
 refine acall_ex rfl rfl rfl ?_
 have hd:=dirN_ents ht ino
 simp only [fn115,E115,eTree,eTreeC,k118,ht.nodes,eNode,eNodeC,EVN,EVT,EVD,↓reduceIte,Nat.reduceEqDiff,reduceCtorEq,Nat.reduceAdd,Nat.reduceLeDiff,ne_eq,Nat.reduceLT,Int.reduceLT,Int.reduceLE,Int.reduceNeg]
 unfold lookN
 refine fork_split (fun hb=>?_) (fun hb=>?_)
 ·simp only [E115,EVN,EVT,EVD,↓reduceIte,Nat.reduceEqDiff,reduceCtorEq,Nat.reduceAdd,Nat.reduceLeDiff,ne_eq,Nat.reduceLT,Int.reduceLT,Int.reduceLE,Int.reduceNeg]
  simp_all
 ·simp only [E115,k119,hs,EVN,EVT,EVD,↓reduceIte,Nat.reduceEqDiff,reduceCtorEq,Nat.reduceAdd,Nat.reduceLeDiff,ne_eq,Nat.reduceLT,Int.reduceLT,Int.reduceLE,Int.reduceNeg]
  refine fork_split (fun hb'=>?_) (fun hb'=>?_)
  ·simp only [E115,EVN,EVT,EVD,↓reduceIte,Nat.reduceEqDiff,reduceCtorEq,Nat.reduceAdd,Nat.reduceLeDiff,ne_eq,Nat.reduceLT,Int.reduceLT,Int.reduceLE,Int.reduceNeg]
   simp_all
  ·simp only [E115,k120,hd,EVN,EVT,EVD,↓reduceIte,Nat.reduceEqDiff,reduceCtorEq,Nat.reduceAdd,Nat.reduceLeDiff,ne_eq,Nat.reduceLT,Int.reduceLT,Int.reduceLE,Int.reduceNeg]
   rcases namedGo_spec s (dirN t.nodes ino).1.ents 0 with ⟨h1,h2⟩|⟨m,n,h1,h2,h3⟩
   ·rw [h2]
    simp only [E115,EVN,EVT,EVD,↓reduceIte,Nat.reduceEqDiff,reduceCtorEq,Nat.reduceAdd,Nat.reduceLeDiff,ne_eq,Nat.reduceLT,Int.reduceLT,Int.reduceLE,Int.reduceNeg]
    simp_all
   ·rw [h3]
    simp only [E115,h1,eEnts,eEntC,EVN,EVT,EVD,↓reduceIte,Nat.reduceEqDiff,reduceCtorEq,Nat.reduceAdd,Nat.reduceLeDiff,ne_eq,Nat.reduceLT,Int.reduceLT,Int.reduceLE,Int.reduceNeg]
    simp_all
theorem k115 (nodes:List Node) (next cookie ino:Int) (s:Bytes) (ht:Small ⟨nodes,next,cookie⟩) (hs:s.length≤100000) (M:AMem):callOp (acall tabT) 115 [.agg [eNodes nodes,.int .i64 next,.int .i64 cookie],.int .i64 ino,.str s] M =
  some (.tuple [.int .i64 (lookN nodes ino s).1,.int .i64 (lookN nodes ino s).2],M):=callOp0 (c115 ⟨nodes,next,cookie⟩ ino s ht hs) rfl rfl rfl rfl rfl M
end Go.Proofs.YtannopdcbocngaaGreatDoor
namespace Go.Proofs.YtannopdcbocngaaGreatDoor
open Go Go.Abs
attribute [local irreducible] exK opsK opK gK forkK kr acall callOp owhen obind
def zT:List AVal:=[.slice .c0 [],.int .i64 0,.int .i64 0]
def withL (n:Node):List Node→List Node→Bool→List Node×Bool
 | [],out,done=>(out,done)
 |m::r,out,done =>
  withL n r ((if (!done&&decide (m.ino≥n.ino))=true then out++[n] else out)++(if m.ino=n.ino then [] else [m])) (done||decide (m.ino≥n.ino))
def withN (nodes:List Node) (n:Node):List Node:=(withL n nodes [] false).1++(if (withL n nodes [] false).2=true then [] else [n])
theorem loop113 {t:Tree} {n:Node} (ht:t.nodes.length≤100000) {k:List K} {R:List Node→Bool→Option (AVal×AMem)}
  (hx:∀out done v e,out.length≤300000→kr (acall tabT) [.cellA 4 3] 0 k ⟨.exit 0,[(2,.ptr 0 0),(3,.ptr 1 0),(4,.ptr 2 0),(5,.slice (.own 3) (out.map eNode)),(6,.bool done),(7,v),(12,e)],[.cells (eTreeC t),.cells (eNodeC n),.cells zT,.tick 6 out.length]⟩=R out done) :
  ∀(l pre out:List Node) (done:Bool),t.nodes=pre++l→out.length+2*l.length≤300000→exK (acall tabT) [.cellA 4 3] 0 k (.loop [2,3,4,5,6,7] lb113_0) [(2,.ptr 0 0),(3,.ptr 1 0),(4,.ptr 2 0),(5,.slice (.own 3) (out.map eNode)),(6,.bool done),(7,.int .i64 pre.length)] [.cells (eTreeC t),.cells (eNodeC n),.cells zT,.tick 6 out.length]=R (withL n l out done).1 (withL n l out done).2:=by
 intro l
 induction l with
 |nil =>
  intro pre out done h ho
  rw [exK_loop]
  simp only [E113,eTreeC,eNodes,lt_end h,EVN,EVT,EVD,↓reduceIte,Nat.reduceEqDiff,reduceCtorEq,Nat.reduceAdd,Nat.reduceLeDiff,ne_eq,Nat.reduceLT,Int.reduceLT,Int.reduceLE,Int.reduceNeg]
  exact hx _ _ _ _ (by simp at ho; omega)
 |cons m r ih =>
  intro pre out done h ho
  rw [exK_loop]
  have hlen:pre.length+1≤100000:=by rw [h] at ht; simp at ht; omega
  have hw:IntKind.i64.wrap ((pre.length:Int)+1)=((pre++[m]).length:Int):=by rw [wrapS (by omega) (by omega)]; exact step_len
  have hi:=fun out done ho=>ih (pre++[m]) out done (by rw [h]; simp) ho
  simp only [List.length_cons] at ho
  have r1:roomOk (out.length+1) 80=True:=room_ok (by omega) (by omega)
  have r2:roomOk (out.length+1+1) 80=True:=room_ok (by omega) (by omega)
  rw [withL]
  simp only [E113,eTreeC,eNodes,lt_mid h,at_mid h,eNodeC,EVN,EVT,EVD,↓reduceIte,Nat.reduceEqDiff,reduceCtorEq,Nat.reduceAdd,Nat.reduceLeDiff,ne_eq,Nat.reduceLT,Int.reduceLT,Int.reduceLE,Int.reduceNeg]
  repeat' (first|(refine fork_split (fun hb=>?_) (fun hb=>?_)<;>simp only [hb,EVN,E113,at_mid h,hw,r1,r2,eNodeC,EVT,EVD,↓reduceIte,Nat.reduceEqDiff,reduceCtorEq,Nat.reduceAdd,Nat.reduceLeDiff,ne_eq,Nat.reduceLT,Int.reduceLT,Int.reduceLE,Int.reduceNeg])|(refine guard_split (fun hb=>?_) (fun hb=>?_)<;>simp only [hb,EVN,E113,at_mid h,hw,r1,r2,eNodeC,EVT,EVD,↓reduceIte,Nat.reduceEqDiff,reduceCtorEq,Nat.reduceAdd,Nat.reduceLeDiff,ne_eq,Nat.reduceLT,Int.reduceLT,Int.reduceLE,Int.reduceNeg])|(refine opK_pick (fun hb=>?_) (fun hb=>?_)<;>simp only [hb,EVN,E113,at_mid h,hw,r1,r2,eNodeC,EVT,EVD,↓reduceIte,Nat.reduceEqDiff,reduceCtorEq,Nat.reduceAdd,Nat.reduceLeDiff,ne_eq,Nat.reduceLT,Int.reduceLT,Int.reduceLE,Int.reduceNeg]))
  all_goals try simp only [E113,at_mid h,hw,r1,r2,eNodeC,EVN,EVT,EVD,↓reduceIte,Nat.reduceEqDiff,reduceCtorEq,Nat.reduceAdd,Nat.reduceLeDiff,ne_eq,Nat.reduceLT,Int.reduceLT,Int.reduceLE,Int.reduceNeg]
  all_goals first
   |(refine Eq.trans ?_ ((hi (out++[n]++[m]) true (by simp; omega)).trans ?_)
     ·simp only [List.map_append,List.map_cons,List.map_nil,List.length_append,List.length_cons,List.length_nil]; rfl
     ·clear hi ih hx hw h; simp_all; done)
   |(refine Eq.trans ?_ ((hi (out++[n]) true (by simp; omega)).trans ?_)
     ·simp only [List.map_append,List.map_cons,List.map_nil,List.length_append,List.length_cons,List.length_nil]; rfl
     ·clear hi ih hx hw h; simp_all; done)
   |(refine Eq.trans ?_ ((hi (out++[m]) done (by simp; omega)).trans ?_)
     ·simp only [List.map_append,List.map_cons,List.map_nil,List.length_append,List.length_cons,List.length_nil]; rfl
     ·clear hi ih hx hw h; simp_all; done)
   |(refine Eq.trans ?_ ((hi out done (by omega)).trans ?_)
     ·simp only [List.map_append,List.map_cons,List.map_nil,List.length_append,List.length_cons,List.length_nil]; rfl
     ·clear hi ih hx hw h; simp_all; done)
theorem c113 (t:Tree) (n:Node) (ht:t.nodes.length≤100000):acall tabT 113 [eTree t,eNode n] []=some (eTree ⟨withN t.nodes n,t.next,t.cookie⟩,[]):=by
 refine acall_ex rfl rfl rfl ?_
 simp only [fn113,E113,eTree,eNode,EVN,EVT,EVD,↓reduceIte,Nat.reduceEqDiff,reduceCtorEq,Nat.reduceAdd,Nat.reduceLeDiff,ne_eq,Nat.reduceLT,Int.reduceLT,Int.reduceLE,Int.reduceNeg]
 refine loop113 (R:=fun out done=>some (eTree ⟨out++(if done=true then [] else [n]),t.next,t.cookie⟩,[])) ht (fun out done v e ho=>?_) t.nodes [] [] false rfl (by simp; omega)
 have r1:roomOk (out.length+1) 80=True:=room_ok (by omega) (by omega)
 cases done
 ·simp only [E113,r1,eTree,eTreeC,zT,eNodeC,EVN,EVT,EVD,↓reduceIte,Nat.reduceEqDiff,reduceCtorEq,Nat.reduceAdd,Nat.reduceLeDiff,ne_eq,Nat.reduceLT,Int.reduceLT,Int.reduceLE,Int.reduceNeg]
  simp [eNodes,eNode,eNodeC]
 ·simp only [E113,r1,eTree,eTreeC,zT,eNodeC,EVN,EVT,EVD,↓reduceIte,Nat.reduceEqDiff,reduceCtorEq,Nat.reduceAdd,Nat.reduceLeDiff,ne_eq,Nat.reduceLT,Int.reduceLT,Int.reduceLE,Int.reduceNeg]
  try simp [eNodes]
theorem k113 (nodes:List Node) (next cookie a b c:Int) (d:Bytes) (e:List Ent) (u:Int) (h:nodes.length≤100000) (M:AMem):callOp (acall tabT) 113 [.agg [eNodes nodes,.int .i64 next,.int .i64 cookie],.agg [.int .i64 a,.int .i64 b,.int .i64 c,eData d,eEnts e,.int .i64 u]] M =
  some (.agg [eNodes (withN nodes ⟨a,b,c,d,e,u⟩),.int .i64 next,.int .i64 cookie],M):=callOp0 (c113 ⟨nodes,next,cookie⟩ ⟨a,b,c,d,e,u⟩ h) rfl rfl rfl rfl rfl M
def withoutN (nodes:List Node) (ino:Int):List Node:=nodes.filter fun n=>n.ino != ino
theorem loop125 {t:Tree} {ino:Int} (ht:t.nodes.length≤100000) {k:List K} {R:List Node→Option (AVal×AMem)}
  (hx:∀out v e,out.length≤300000→kr (acall tabT) [.cellA 4 3] 0 k ⟨.exit 0,[(1,.int .i64 ino),(2,.ptr 0 0),(4,.ptr 1 0),(5,.slice (.own 2) (out.map eNode)),(6,v),(11,e)],[.cells (eTreeC t),.cells zT,.tick 6 out.length]⟩=R out) :
  ∀(l pre out:List Node),t.nodes=pre++l→out.length+l.length≤150000→exK (acall tabT) [.cellA 4 3] 0 k (.loop [1,2,4,5,6] lb125_0) [(1,.int .i64 ino),(2,.ptr 0 0),(4,.ptr 1 0),(5,.slice (.own 2) (out.map eNode)),(6,.int .i64 pre.length)] [.cells (eTreeC t),.cells zT,.tick 6 out.length]=R (out++withoutN l ino):=by
 intro l
 induction l with
 |nil =>
  intro pre out h ho
  rw [exK_loop]
  simp only [E125,eTreeC,eNodes,lt_end h,EVN,EVT,EVD,↓reduceIte,Nat.reduceEqDiff,reduceCtorEq,Nat.reduceAdd,Nat.reduceLeDiff,ne_eq,Nat.reduceLT,Int.reduceLT,Int.reduceLE,Int.reduceNeg]
  refine (hx _ _ _ (by simp at ho; omega)).trans (by simp [withoutN])
 |cons m r ih =>
  intro pre out h ho
  rw [exK_loop]
  have hlen:pre.length+1≤100000:=by rw [h] at ht; simp at ht; omega
  have hw:IntKind.i64.wrap ((pre.length:Int)+1)=((pre++[m]).length:Int):=by rw [wrapS (by omega) (by omega)]; exact step_len
  have hi:=fun out ho=>ih (pre++[m]) out (by rw [h]; simp) ho
  simp only [List.length_cons] at ho
  have r1:roomOk (out.length+1) 80=True:=room_ok (by omega) (by omega)
  simp only [E125,eTreeC,eNodes,lt_mid h,at_mid h,eNodeC,EVN,EVT,EVD,↓reduceIte,Nat.reduceEqDiff,reduceCtorEq,Nat.reduceAdd,Nat.reduceLeDiff,ne_eq,Nat.reduceLT,Int.reduceLT,Int.reduceLE,Int.reduceNeg]
  repeat' (first|(refine fork_split (fun hb=>?_) (fun hb=>?_)<;>simp only [hb,EVN,E125,at_mid h,hw,r1,eNodeC,EVT,EVD,↓reduceIte,Nat.reduceEqDiff,reduceCtorEq,Nat.reduceAdd,Nat.reduceLeDiff,ne_eq,Nat.reduceLT,Int.reduceLT,Int.reduceLE,Int.reduceNeg])|(refine guard_split (fun hb=>?_) (fun hb=>?_)<;>simp only [hb,EVN,E125,at_mid h,hw,r1,eNodeC,EVT,EVD,↓reduceIte,Nat.reduceEqDiff,reduceCtorEq,Nat.reduceAdd,Nat.reduceLeDiff,ne_eq,Nat.reduceLT,Int.reduceLT,Int.reduceLE,Int.reduceNeg])|(refine opK_pick (fun hb=>?_) (fun hb=>?_)<;>simp only [hb,EVN,E125,at_mid h,hw,r1,eNodeC,EVT,EVD,↓reduceIte,Nat.reduceEqDiff,reduceCtorEq,Nat.reduceAdd,Nat.reduceLeDiff,ne_eq,Nat.reduceLT,Int.reduceLT,Int.reduceLE,Int.reduceNeg]))
  all_goals first
   |(refine Eq.trans ?_ ((hi (out++[m]) (by simp; omega)).trans ?_)
     ·simp only [List.map_append,List.map_cons,List.map_nil,List.length_append,List.length_cons,List.length_nil]; rfl
     ·clear hi ih hx hw h; simp_all[withoutN]; done)
   |(refine Eq.trans ?_ ((hi out (by omega)).trans ?_)
     ·simp only [List.map_append,List.map_cons,List.map_nil,List.length_append,List.length_cons,List.length_nil]; rfl
     ·clear hi ih hx hw h; simp_all[withoutN]; done)
theorem c125 (t:Tree) (ino:Int) (ht:t.nodes.length≤100000):acall tabT 125 [eTree t,.int .i64 ino] []=some (eTree ⟨withoutN t.nodes ino,t.next,t.cookie⟩,[]):=by
 refine acall_ex rfl rfl rfl ?_
 simp only [fn125,E125,eTree,EVN,EVT,EVD,↓reduceIte,Nat.reduceEqDiff,reduceCtorEq,Nat.reduceAdd,Nat.reduceLeDiff,ne_eq,Nat.reduceLT,Int.reduceLT,Int.reduceLE,Int.reduceNeg]
 refine (loop125 (R:=fun out=>some (eTree ⟨out,t.next,t.cookie⟩,[])) ht (fun out v e ho=>?_) t.nodes [] [] rfl (by simp; omega)).trans (by simp [eTree])
 simp only [E125,eTree,eTreeC,zT,EVN,EVT,EVD,↓reduceIte,Nat.reduceEqDiff,reduceCtorEq,Nat.reduceAdd,Nat.reduceLeDiff,ne_eq,Nat.reduceLT,Int.reduceLT,Int.reduceLE,Int.reduceNeg]
 try simp [eNodes]
theorem k125 (nodes:List Node) (next cookie ino:Int) (h:nodes.length≤100000) (M:AMem):callOp (acall tabT) 125 [.agg [eNodes nodes,.int .i64 next,.int .i64 cookie],.int .i64 ino] M =
  some (.agg [eNodes (withoutN nodes ino),.int .i64 next,.int .i64 cookie],M):=callOp0 (c125 ⟨nodes,next,cookie⟩ ino h) rfl rfl rfl rfl rfl M
def dropE (l:List Ent) (s:Bytes):List Ent:=l.filter fun e=>e.name != s
theorem loop117 {T:List AVal} {n:Node} {s:Bytes} (hn:n.ents.length≤100000) {k:List K} {R:List Ent→Option (AVal×AMem)}
  (hx:∀out v e,out.length≤300000→kr (acall tabT) [.cellA 6 3] 0 k ⟨.exit 0,[(2,.str s),(3,.ptr 0 0),(6,.ptr 1 0),(7,.ptr 2 0),(9,.slice (.own 3) (out.map eEnt)),(10,v),(21,e)],[.cells T,.cells zT,.cells (eNodeC n),.tick 3 out.length]⟩=R out)
  (hT:∀B M,T.map (AVal.back1 B M)=T) :
  ∀(l pre out:List Ent),n.ents=pre++l→out.length+l.length≤150000→exK (acall tabT) [.cellA 6 3] 0 k (.loop [2,3,6,7,9,10] lb117_0) [(2,.str s),(3,.ptr 0 0),(6,.ptr 1 0),(7,.ptr 2 0),(9,.slice (.own 3) (out.map eEnt)),(10,.int .i64 pre.length)] [.cells T,.cells zT,.cells (eNodeC n),.tick 3 out.length]=R (out++dropE l s):=by
 intro l
 induction l with
 |nil =>
  intro pre out h ho
  rw [exK_loop]
  simp only [E117,eNodeC,eEnts,lt_end h,EVN,EVT,EVD,↓reduceIte,Nat.reduceEqDiff,reduceCtorEq,Nat.reduceAdd,Nat.reduceLeDiff,ne_eq,Nat.reduceLT,Int.reduceLT,Int.reduceLE,Int.reduceNeg]
  refine (hx _ _ _ (by simp at ho; omega)).trans (by simp [dropE])
 |cons m r ih =>
  intro pre out h ho
  rw [exK_loop]
  have hlen:pre.length+1≤100000:=by rw [h] at hn; simp at hn; omega
  have hw:IntKind.i64.wrap ((pre.length:Int)+1)=((pre++[m]).length:Int):=by rw [wrapS (by omega) (by omega)]; exact step_len
  have hi:=fun out ho=>ih (pre++[m]) out (by rw [h]; simp) ho
  simp only [List.length_cons] at ho
  have r1:roomOk (out.length+1) 32=True:=room_ok (by omega) (by omega)
  simp only [E117,eNodeC,eEnts,lt_mid h,at_mid h,eEntC,hT,zT,EVN,EVT,EVD,↓reduceIte,Nat.reduceEqDiff,reduceCtorEq,Nat.reduceAdd,Nat.reduceLeDiff,ne_eq,Nat.reduceLT,Int.reduceLT,Int.reduceLE,Int.reduceNeg]
  repeat' (first|(refine fork_split (fun hb=>?_) (fun hb=>?_)<;>simp only [hb,EVN,E117,at_mid h,hw,r1,eEntC,hT,zT,EVT,EVD,↓reduceIte,Nat.reduceEqDiff,reduceCtorEq,Nat.reduceAdd,Nat.reduceLeDiff,ne_eq,Nat.reduceLT,Int.reduceLT,Int.reduceLE,Int.reduceNeg])|(refine guard_split (fun hb=>?_) (fun hb=>?_)<;>simp only [hb,EVN,E117,at_mid h,hw,r1,eEntC,hT,zT,EVT,EVD,↓reduceIte,Nat.reduceEqDiff,reduceCtorEq,Nat.reduceAdd,Nat.reduceLeDiff,ne_eq,Nat.reduceLT,Int.reduceLT,Int.reduceLE,Int.reduceNeg])|(refine opK_pick (fun hb=>?_) (fun hb=>?_)<;>simp only [hb,EVN,E117,at_mid h,hw,r1,eEntC,hT,zT,EVT,EVD,↓reduceIte,Nat.reduceEqDiff,reduceCtorEq,Nat.reduceAdd,Nat.reduceLeDiff,ne_eq,Nat.reduceLT,Int.reduceLT,Int.reduceLE,Int.reduceNeg]))
  all_goals first
   |(refine Eq.trans ?_ ((hi (out++[m]) (by simp; omega)).trans ?_)
     ·simp only [List.map_append,List.map_cons,List.map_nil,List.length_append,List.length_cons,List.length_nil]; rfl
     ·clear hi ih hx hw h hT; simp_all[dropE]; done)
   |(refine Eq.trans ?_ ((hi out (by omega)).trans ?_)
     ·simp only [List.map_append,List.map_cons,List.map_nil,List.length_append,List.length_cons,List.length_nil]; rfl
     ·clear hi ih hx hw h hT; simp_all[dropE]; done)
def leftN (nodes:List Node) (ino:Int) (s:Bytes):List Node:=withN nodes { (find nodes ino).getD Node.zero with ents:=dropE ((find nodes ino).getD Node.zero).ents s }
theorem find_ents {t:Tree} (hs:Small t) (ino:Int):((find t.nodes ino).getD Node.zero).ents.length≤100000:=by
 cases h:find t.nodes ino with
 |none=>simp [Node.zero]
 |some n=>exact hs.ents n (find_mem h).1
theorem c117 (t:Tree) (ino:Int) (s:Bytes) (ht:Small t):acall tabT 117 [eTree t,.int .i64 ino,.str s] []=some (eTree ⟨leftN t.nodes ino s,t.next,t.cookie⟩,[]):=by
 refine acall_ex rfl rfl rfl ?_
 have hd:=find_ents ht ino
 unfold leftN
 simp only [fn117,E117,eTree,eTreeC,k114,ht.nodes,eNode,EVN,EVT,EVD,↓reduceIte,Nat.reduceEqDiff,reduceCtorEq,Nat.reduceAdd,Nat.reduceLeDiff,ne_eq,Nat.reduceLT,Int.reduceLT,Int.reduceLE,Int.reduceNeg]
 generalize (find t.nodes ino).getD Node.zero=n at hd ⊢
 simp only [E117,eNodeC,EVN,EVT,EVD,↓reduceIte,Nat.reduceEqDiff,reduceCtorEq,Nat.reduceAdd,Nat.reduceLeDiff,ne_eq,Nat.reduceLT,Int.reduceLT,Int.reduceLE,Int.reduceNeg]
 refine (loop117 (R:=fun out=>some (eTree ⟨withN t.nodes { n with ents:=out },t.next,t.cookie⟩,[])) hd (fun out v e ho=>?_) (fun B M=>by simp only [E117,EVN,EVT,EVD,↓reduceIte,Nat.reduceEqDiff,reduceCtorEq,Nat.reduceAdd,Nat.reduceLeDiff,ne_eq,Nat.reduceLT,Int.reduceLT,Int.reduceLE,Int.reduceNeg]) n.ents [] [] rfl (by simp; omega)).trans (by simp [eTree,eTreeC])
 simp only [E117,zT,eNodeC,k113,ht.nodes,EVN,EVT,EVD,↓reduceIte,Nat.reduceEqDiff,reduceCtorEq,Nat.reduceAdd,Nat.reduceLeDiff,ne_eq,Nat.reduceLT,Int.reduceLT,Int.reduceLE,Int.reduceNeg]
 simp [eTree,eTreeC]
end Go.Proofs.YtannopdcbocngaaGreatDoor
namespace Go.Proofs.YtannopdcbocngaaGreatDoor
open Go Go.Abs
attribute [local irreducible] exK opsK opK gK forkK kr acall callOp owhen obind
theorem k117 (nodes:List Node) (next cookie ino:Int) (s:Bytes) (ht:Small ⟨nodes,next,cookie⟩) (M:AMem):callOp (acall tabT) 117 [.agg [eNodes nodes,.int .i64 next,.int .i64 cookie],.int .i64 ino,.str s] M =
  some (.agg [eNodes (leftN nodes ino s),.int .i64 next,.int .i64 cookie],M):=callOp0 (c117 ⟨nodes,next,cookie⟩ ino s ht) rfl rfl rfl rfl rfl M
abbrev w64 (n:Int):Int:=IntKind.i64.wrap n
def gtB (a b:Bytes):Bool := !(strLt a b||a==b)
def insL (e:Ent):List Ent→List Ent→Bool→List Ent×Bool
 | [],out,done=>(out,done)
 |m::r,out,done=>insL e r ((if (!done&&gtB m.name e.name)=true then out++[e] else out)++[m]) (done||gtB m.name e.name)
def insE (l:List Ent) (e:Ent):List Ent:=(insL e l [] false).1++(if (insL e l [] false).2=true then [] else [e])
theorem loop112 {T:List AVal} {n:Node} {e:Ent} (hn:n.ents.length≤100000) {k:List K} {R:List Ent→Bool→Option (AVal×AMem)}
  (hx:∀out done v q,out.length≤300000→kr (acall tabT) [.cellA 8 3] 0 k ⟨.exit 0,[(2,.str e.name),(4,.ptr 0 0),(8,.ptr 1 0),(9,.ptr 2 0),(11,.ptr 3 0),(12,.slice (.own 4) (out.map eEnt)),(13,.bool done),(14,v),(30,q)],[.cells T,.cells zT,.cells (eNodeC n),.cells (eEntC e),.tick 3 out.length]⟩=R out done)
  (hT:∀B M,T.map (AVal.back1 B M)=T) :
  ∀(l pre out:List Ent) (done:Bool),n.ents=pre++l→out.length+2*l.length≤300000→exK (acall tabT) [.cellA 8 3] 0 k (.loop [2,4,8,9,11,12,13,14] lb112_0) [(2,.str e.name),(4,.ptr 0 0),(8,.ptr 1 0),(9,.ptr 2 0),(11,.ptr 3 0),(12,.slice (.own 4) (out.map eEnt)),(13,.bool done),(14,.int .i64 pre.length)] [.cells T,.cells zT,.cells (eNodeC n),.cells (eEntC e),.tick 3 out.length]=R (insL e l out done).1 (insL e l out done).2:=by
 intro l
 induction l with
 |nil =>
  intro pre out done h ho
  rw [exK_loop]
  simp only [E112,eNodeC,eEnts,lt_end h,EVN,EVT,EVD,↓reduceIte,Nat.reduceEqDiff,reduceCtorEq,Nat.reduceAdd,Nat.reduceLeDiff,ne_eq,Nat.reduceLT,Int.reduceLT,Int.reduceLE,Int.reduceNeg]
  exact hx _ _ _ _ (by simp at ho; omega)
 |cons m r ih =>
  intro pre out done h ho
  rw [exK_loop]
  have hlen:pre.length+1≤100000:=by rw [h] at hn; simp at hn; omega
  have hw:IntKind.i64.wrap ((pre.length:Int)+1)=((pre++[m]).length:Int):=by rw [wrapS (by omega) (by omega)]; exact step_len
  have hi:=fun out done ho=>ih (pre++[m]) out done (by rw [h]; simp) ho
  simp only [List.length_cons] at ho
  have r1:roomOk (out.length+1) 32=True:=room_ok (by omega) (by omega)
  have r2:roomOk (out.length+1+1) 32=True:=room_ok (by omega) (by omega)
  have hg:(!(strLt m.name e.name||m.name==e.name))=gtB m.name e.name:=rfl
  rw [insL]
  simp only [E112,hg,eNodeC,eEnts,lt_mid h,at_mid h,eEntC,hT,zT,EVN,EVT,EVD,↓reduceIte,Nat.reduceEqDiff,reduceCtorEq,Nat.reduceAdd,Nat.reduceLeDiff,ne_eq,Nat.reduceLT,Int.reduceLT,Int.reduceLE,Int.reduceNeg]
  repeat' (first|(refine fork_split (fun hb=>?_) (fun hb=>?_)<;>simp only [hb,EVN,E112,at_mid h,hw,r1,r2,eEntC,hT,zT,hg,EVT,EVD,↓reduceIte,Nat.reduceEqDiff,reduceCtorEq,Nat.reduceAdd,Nat.reduceLeDiff,ne_eq,Nat.reduceLT,Int.reduceLT,Int.reduceLE,Int.reduceNeg])|(refine guard_split (fun hb=>?_) (fun hb=>?_)<;>simp only [hb,EVN,E112,at_mid h,hw,r1,r2,eEntC,hT,zT,hg,EVT,EVD,↓reduceIte,Nat.reduceEqDiff,reduceCtorEq,Nat.reduceAdd,Nat.reduceLeDiff,ne_eq,Nat.reduceLT,Int.reduceLT,Int.reduceLE,Int.reduceNeg])|(refine opK_pick (fun hb=>?_) (fun hb=>?_)<;>simp only [hb,EVN,E112,at_mid h,hw,r1,r2,eEntC,hT,zT,hg,EVT,EVD,↓reduceIte,Nat.reduceEqDiff,reduceCtorEq,Nat.reduceAdd,Nat.reduceLeDiff,ne_eq,Nat.reduceLT,Int.reduceLT,Int.reduceLE,Int.reduceNeg]))
  all_goals try simp only [E112,at_mid h,hw,r1,r2,eEntC,hT,zT,hg,EVN,EVT,EVD,↓reduceIte,Nat.reduceEqDiff,reduceCtorEq,Nat.reduceAdd,Nat.reduceLeDiff,ne_eq,Nat.reduceLT,Int.reduceLT,Int.reduceLE,Int.reduceNeg]
  all_goals first
   |(refine Eq.trans ?_ ((hi (out++[e]++[m]) true (by simp; omega)).trans ?_)
     ·simp only [List.map_append,List.map_cons,List.map_nil,List.length_append,List.length_cons,List.length_nil]; rfl
     ·clear hi ih hx hw h hT hg; simp_all; done)
   |(refine Eq.trans ?_ ((hi (out++[m]) done (by simp; omega)).trans ?_)
     ·simp only [List.map_append,List.map_cons,List.map_nil,List.length_append,List.length_cons,List.length_nil]; rfl
     ·clear hi ih hx hw h hT hg; simp_all; done)
def enteredN (t:Tree) (ino:Int) (s:Bytes) (of:Int):Tree :=
 ⟨withN t.nodes { (find t.nodes ino).getD Node.zero with ents:=insE ((find t.nodes ino).getD Node.zero).ents ⟨s,of,t.cookie⟩ },t.next,w64 (t.cookie+1)⟩
theorem c112 (t:Tree) (ino:Int) (s:Bytes) (of:Int) (ht:Small t):acall tabT 112 [eTree t,.int .i64 ino,.str s,.int .i64 of] []=some (eTree (enteredN t ino s of),[]):=by
 refine acall_ex rfl rfl rfl ?_
 have hd:=find_ents ht ino
 unfold enteredN
 simp only [fn112,E112,eTree,eTreeC,k114,ht.nodes,eNode,EVN,EVT,EVD,↓reduceIte,Nat.reduceEqDiff,reduceCtorEq,Nat.reduceAdd,Nat.reduceLeDiff,ne_eq,Nat.reduceLT,Int.reduceLT,Int.reduceLE,Int.reduceNeg]
 generalize (find t.nodes ino).getD Node.zero=n at hd ⊢
 simp only [E112,eNodeC,EVN,EVT,EVD,↓reduceIte,Nat.reduceEqDiff,reduceCtorEq,Nat.reduceAdd,Nat.reduceLeDiff,ne_eq,Nat.reduceLT,Int.reduceLT,Int.reduceLE,Int.reduceNeg]
 refine (loop112 (e:=⟨s,of,t.cookie⟩) (R:=fun out done=>some (eTree ⟨withN t.nodes { n with ents:=out++(if done=true then [] else [⟨s,of,t.cookie⟩]) },t.next,w64 (t.cookie+1)⟩,[])) hd (fun out done v e ho=>?_) (fun B M=>by simp only [E112,EVN,EVT,EVD,↓reduceIte,Nat.reduceEqDiff,reduceCtorEq,Nat.reduceAdd,Nat.reduceLeDiff,ne_eq,Nat.reduceLT,Int.reduceLT,Int.reduceLE,Int.reduceNeg]) n.ents [] [] false rfl (by simp; omega)).trans (by simp [eTree,eTreeC,insE])
 have r1:roomOk (out.length+1) 32=True:=room_ok (by omega) (by omega)
 cases done
 ·simp only [E112,zT,eNodeC,eEntC,r1,map_ent,k113,ht.nodes,EVN,EVT,EVD,↓reduceIte,Nat.reduceEqDiff,reduceCtorEq,Nat.reduceAdd,Nat.reduceLeDiff,ne_eq,Nat.reduceLT,Int.reduceLT,Int.reduceLE,Int.reduceNeg]
  simp [eTree,eTreeC]
 ·simp only [E112,zT,eNodeC,eEntC,r1,k113,ht.nodes,EVN,EVT,EVD,↓reduceIte,Nat.reduceEqDiff,reduceCtorEq,Nat.reduceAdd,Nat.reduceLeDiff,ne_eq,Nat.reduceLT,Int.reduceLT,Int.reduceLE,Int.reduceNeg]
  simp [eTree,eTreeC]
theorem k112 (nodes:List Node) (next cookie ino:Int) (s:Bytes) (of:Int) (ht:Small ⟨nodes,next,cookie⟩) (M:AMem):callOp (acall tabT) 112 [.agg [eNodes nodes,.int .i64 next,.int .i64 cookie],.int .i64 ino,.str s,.int .i64 of] M =
  some (eTree (enteredN ⟨nodes,next,cookie⟩ ino s of),M):=callOp0 (c112 ⟨nodes,next,cookie⟩ ino s of ht) rfl rfl rfl rfl rfl M
def upOf (nodes:List Node) (ino:Int):Int:=((find nodes ino).getD Node.zero).up
def depthGo (nodes:List Node):Nat→Int→Nat→Nat
 |0,_,d=>d
 |m+1,ino,d=>if ino=1 then d else depthGo nodes m (upOf nodes ino) (d+1)
def depthN (nodes:List Node) (ino:Int):Nat:=depthGo nodes 201 ino 0
theorem loop123 {t:Tree} (ht:t.nodes.length≤100000) {k:List K} {R:Nat→Option (AVal×AMem)}
  (hx:∀(d:Nat) v q,kr (acall tabT) [.tmp 4] 0 k ⟨.exit 0,[(1,v),(2,.ptr 0 0),(5,.int .i64 d),(13,q)],[.cells (eTreeC t)]⟩=R d) :
  ∀(m:Nat) (ino:Int) (d:Nat),d+m=201→exK (acall tabT) [.tmp 4] 0 k (.loop [1,2,5] lb123_0) [(1,.int .i64 ino),(2,.ptr 0 0),(5,.int .i64 d)] [.cells (eTreeC t)]=R (depthGo t.nodes m ino d):=by
 intro m
 induction m with
 |zero =>
  intro ino d hd
  rw [exK_loop]
  have hd':((d:Int)≤200)=False:=by simp; omega
  simp only [E123,EVN,EVT,EVD,↓reduceIte,Nat.reduceEqDiff,reduceCtorEq,Nat.reduceAdd,Nat.reduceLeDiff,ne_eq,Nat.reduceLT,Int.reduceLT,Int.reduceLE,Int.reduceNeg]
  repeat' (first|(refine fork_split (fun hb=>?_) (fun hb=>?_)<;>simp only [hb,EVN,E123,hd',EVT,EVD,↓reduceIte,Nat.reduceEqDiff,reduceCtorEq,Nat.reduceAdd,Nat.reduceLeDiff,ne_eq,Nat.reduceLT,Int.reduceLT,Int.reduceLE,Int.reduceNeg])|(refine guard_split (fun hb=>?_) (fun hb=>?_)<;>simp only [hb,EVN,E123,hd',EVT,EVD,↓reduceIte,Nat.reduceEqDiff,reduceCtorEq,Nat.reduceAdd,Nat.reduceLeDiff,ne_eq,Nat.reduceLT,Int.reduceLT,Int.reduceLE,Int.reduceNeg])|(refine opK_pick (fun hb=>?_) (fun hb=>?_)<;>simp only [hb,EVN,E123,hd',EVT,EVD,↓reduceIte,Nat.reduceEqDiff,reduceCtorEq,Nat.reduceAdd,Nat.reduceLeDiff,ne_eq,Nat.reduceLT,Int.reduceLT,Int.reduceLE,Int.reduceNeg]))
  all_goals exact hx _ _ _
 |succ m ih =>
  intro ino d hd
  rw [exK_loop]
  have hd':((d:Int)≤200)=True:=by simp; omega
  have hw:IntKind.i64.wrap ((d:Int)+1)=((d+1:Nat):Int):=by rw [wrapS (by omega) (by omega)]; rfl
  have hi:=fun ino=>ih ino (d+1) (by omega)
  rw [depthGo]
  simp only [E123,EVN,EVT,EVD,↓reduceIte,Nat.reduceEqDiff,reduceCtorEq,Nat.reduceAdd,Nat.reduceLeDiff,ne_eq,Nat.reduceLT,Int.reduceLT,Int.reduceLE,Int.reduceNeg]
  refine guard_split (fun hb=>?_) (fun hb=>?_)
  ·simp only [E123,hb,hd',hw,eTreeC,k114,ht,eNode,eNodeC,EVN,EVT,EVD,↓reduceIte,Nat.reduceEqDiff,reduceCtorEq,Nat.reduceAdd,Nat.reduceLeDiff,ne_eq,Nat.reduceLT,Int.reduceLT,Int.reduceLE,Int.reduceNeg]
   have h1:¬ino=1:=by simpa using hb
   rw [if_neg h1]
   exact hi _
  ·simp only [E123,hb,hd',hw,eTreeC,k114,ht,eNode,eNodeC,EVN,EVT,EVD,↓reduceIte,Nat.reduceEqDiff,reduceCtorEq,Nat.reduceAdd,Nat.reduceLeDiff,ne_eq,Nat.reduceLT,Int.reduceLT,Int.reduceLE,Int.reduceNeg]
   have h1:ino=1:=by simpa using hb
   rw [if_pos h1]
   exact hx _ _ _
theorem c123 (t:Tree) (ino:Int) (ht:t.nodes.length≤100000):acall tabT 123 [eTree t,.int .i64 ino] []=some (.int .i64 (depthN t.nodes ino),[]):=by
 refine acall_ex rfl rfl rfl ?_
 simp only [fn123,E123,eTree,EVN,EVT,EVD,↓reduceIte,Nat.reduceEqDiff,reduceCtorEq,Nat.reduceAdd,Nat.reduceLeDiff,ne_eq,Nat.reduceLT,Int.reduceLT,Int.reduceLE,Int.reduceNeg]
 exact loop123 (R:=fun (d:Nat)=>some (.int .i64 d,[])) ht (fun d v q=>by simp only [E123,EVN,EVT,EVD,↓reduceIte,Nat.reduceEqDiff,reduceCtorEq,Nat.reduceAdd,Nat.reduceLeDiff,ne_eq,Nat.reduceLT,Int.reduceLT,Int.reduceLE,Int.reduceNeg]) 201 ino 0 rfl
theorem k123 (nodes:List Node) (next cookie ino:Int) (h:nodes.length≤100000) (M:AMem):callOp (acall tabT) 123 [.agg [eNodes nodes,.int .i64 next,.int .i64 cookie],.int .i64 ino] M=some (.int .i64 (depthN nodes ino),M) :=
 callOp0 (c123 ⟨nodes,next,cookie⟩ ino h) rfl rfl rfl rfl rfl M
def belowGo (nodes:List Node) (of:Int):Nat→Int→Bool
 |0,_=>false
 |m+1,ino=>if ino=of then true else if ino=1 then false else belowGo nodes of m (upOf nodes ino)
def belowN (nodes:List Node) (ino of:Int):Bool:=belowGo nodes of (nodes.length+1) ino
theorem loop121 {t:Tree} {of:Int} (ht:t.nodes.length≤100000) {k:List K} {R:Bool→Option (AVal×AMem)}
  (hx:∀e,kr (acall tabT) [.tmp 6] 0 k ⟨.exit 0,e,[.cells (eTreeC t)]⟩=R false) (hr:∀b,kr (acall tabT) [.tmp 6] 0 k ⟨.ret,[(6,.bool b)],[.cells (eTreeC t)]⟩=R b) :
  ∀(m:Nat) (ino:Int) (d:Nat),d+m=t.nodes.length+1→exK (acall tabT) [.tmp 6] 0 k (.loop [1,2,3,7] lb121_0) [(1,.int .i64 ino),(2,.int .i64 of),(3,.ptr 0 0),(7,.int .i64 d)] [.cells (eTreeC t)]=R (belowGo t.nodes of m ino):=by
 intro m
 induction m with
 |zero =>
  intro ino d hd
  rw [exK_loop]
  have hd':((d:Int)≤(t.nodes.length:Int))=False:=by simp; omega
  simp only [E121,eTreeC,eNodes,hd',EVN,EVT,EVD,↓reduceIte,Nat.reduceEqDiff,reduceCtorEq,Nat.reduceAdd,Nat.reduceLeDiff,ne_eq,Nat.reduceLT,Int.reduceLT,Int.reduceLE,Int.reduceNeg]
  exact hx _
 |succ m ih =>
  intro ino d hd
  rw [exK_loop]
  have hd':((d:Int)≤(t.nodes.length:Int))=True:=by simp; omega
  have hw:IntKind.i64.wrap ((d:Int)+1)=((d+1:Nat):Int):=by rw [wrapS (by omega) (by omega)]; rfl
  have hi:=fun ino=>ih ino (d+1) (by omega)
  rw [belowGo]
  simp only [E121,eTreeC,eNodes,hd',EVN,EVT,EVD,↓reduceIte,Nat.reduceEqDiff,reduceCtorEq,Nat.reduceAdd,Nat.reduceLeDiff,ne_eq,Nat.reduceLT,Int.reduceLT,Int.reduceLE,Int.reduceNeg]
  refine fork_split (fun hb=>?_) (fun hb=>?_)
  ·have h1:ino=of:=by simpa using hb
   simp only [E121,EVN,EVT,EVD,↓reduceIte,Nat.reduceEqDiff,reduceCtorEq,Nat.reduceAdd,Nat.reduceLeDiff,ne_eq,Nat.reduceLT,Int.reduceLT,Int.reduceLE,Int.reduceNeg]
   rw [if_pos h1]
   exact hr _
  ·have h1:¬ino=of:=by simpa using hb
   simp only [E121,EVN,EVT,EVD,↓reduceIte,Nat.reduceEqDiff,reduceCtorEq,Nat.reduceAdd,Nat.reduceLeDiff,ne_eq,Nat.reduceLT,Int.reduceLT,Int.reduceLE,Int.reduceNeg]
   rw [if_neg h1]
   refine fork_split (fun hb=>?_) (fun hb=>?_)
   ·have h1:ino=1:=by simpa using hb
    simp only [E121,EVN,EVT,EVD,↓reduceIte,Nat.reduceEqDiff,reduceCtorEq,Nat.reduceAdd,Nat.reduceLeDiff,ne_eq,Nat.reduceLT,Int.reduceLT,Int.reduceLE,Int.reduceNeg]
    rw [if_pos h1]
    exact hr _
   ·have h1:¬ino=1:=by simpa using hb
    simp only [E121,hw,k114,ht,eNode,eNodeC,EVN,EVT,EVD,↓reduceIte,Nat.reduceEqDiff,reduceCtorEq,Nat.reduceAdd,Nat.reduceLeDiff,ne_eq,Nat.reduceLT,Int.reduceLT,Int.reduceLE,Int.reduceNeg]
    rw [if_neg h1]
    exact hi _
theorem c121 (t:Tree) (ino of:Int) (ht:t.nodes.length≤100000):acall tabT 121 [eTree t,.int .i64 ino,.int .i64 of] []=some (.bool (belowN t.nodes ino of),[]):=by
 refine acall_ex rfl rfl rfl ?_
 simp only [fn121,E121,eTree,EVN,EVT,EVD,↓reduceIte,Nat.reduceEqDiff,reduceCtorEq,Nat.reduceAdd,Nat.reduceLeDiff,ne_eq,Nat.reduceLT,Int.reduceLT,Int.reduceLE,Int.reduceNeg]
 exact loop121 (R:=fun b=>some (.bool b,[])) ht (fun e=>by simp only [E121,EVN,EVT,EVD,↓reduceIte,Nat.reduceEqDiff,reduceCtorEq,Nat.reduceAdd,Nat.reduceLeDiff,ne_eq,Nat.reduceLT,Int.reduceLT,Int.reduceLE,Int.reduceNeg]) (fun b=>by simp only [E121,EVN,EVT,EVD,↓reduceIte,Nat.reduceEqDiff,reduceCtorEq,Nat.reduceAdd,Nat.reduceLeDiff,ne_eq,Nat.reduceLT,Int.reduceLT,Int.reduceLE,Int.reduceNeg]) (t.nodes.length+1) ino 0 (by omega)
theorem k121 (nodes:List Node) (next cookie ino of:Int) (h:nodes.length≤100000) (M:AMem):callOp (acall tabT) 121 [.agg [eNodes nodes,.int .i64 next,.int .i64 cookie],.int .i64 ino,.int .i64 of] M=some (.bool (belowN nodes ino of),M) :=
 callOp0 (c121 ⟨nodes,next,cookie⟩ ino of h) rfl rfl rfl rfl rfl M
end Go.Proofs.YtannopdcbocngaaGreatDoor
namespace Go.Proofs.YtannopdcbocngaaGreatDoor
open Go Go.Abs
attribute [local irreducible] exK opsK opK gK forkK kr acall callOp owhen obind
structure Sz (b:Nat) (t:Tree):Prop where
 nodes:t.nodes.length≤b
 ents:∀n,n∈t.nodes→n.ents.length≤b
 data:∀n,n∈t.nodes→n.data.length≤100000
theorem Sz.small {b:Nat} {t:Tree} (h:Sz b t) (hb:b≤100000):Small t:=⟨Nat.le_trans h.nodes hb,fun n hn=>Nat.le_trans (h.ents n hn) hb,h.data⟩
theorem withL_len (n:Node):∀(l out:List Node) (d:Bool),(withL n l out d).1.length+(if (withL n l out d).2=true then 0 else 1)≤out.length+l.length+(if d=true then 0 else 1)
 | [],out,d=>by simp only [withL,List.length_nil,Nat.add_zero]; exact Nat.le_refl _
 |m::r,out,d=>by
  rw [withL]
  refine Nat.le_trans (withL_len n r _ _) ?_
  cases d<;>by_cases h1:n.ino≤m.ino<;>by_cases h2:m.ino=n.ino<;>simp [h1,h2]<;>omega
theorem withL_mem (n:Node):∀(l out:List Node) (d:Bool) (x:Node),x∈(withL n l out d).1→x=n∨x∈out∨x∈l
 | [],out,d,x,h=>by simp [withL] at h; exact .inr (.inl h)
 |m::r,out,d,x,h=>by
  rw [withL] at h
  rcases withL_mem n r _ _ x h with h|h|h
  ·exact .inl h
  ·rcases List.mem_append.1 h with h|h
   ·split at h
    ·rcases List.mem_append.1 h with h|h
     ·exact .inr (.inl h)
     ·exact .inl (by simpa using h)
    ·exact .inr (.inl h)
   ·split at h
    ·cases h
    ·exact .inr (.inr (by simp at h; simp [h]))
  ·exact .inr (.inr (List.mem_cons_of_mem _ h))
theorem withN_len (nodes:List Node) (n:Node):(withN nodes n).length≤nodes.length+1:=by
 have:=withL_len n nodes [] false
 unfold withN
 split at this<;>simp_all
theorem withN_mem {nodes:List Node} {n x:Node} (h:x∈withN nodes n):x=n∨x∈nodes:=by
 unfold withN at h
 rcases List.mem_append.1 h with h|h
 ·rcases withL_mem n nodes [] false x h with h|h|h
  ·exact .inl h
  ·cases h
  ·exact .inr h
 ·split at h
  ·cases h
  ·exact .inl (by simpa using h)
theorem Sz.with {b:Nat} {t:Tree} (h:Sz b t) {n:Node} (h1:n.ents.length≤b+1) (h2:n.data.length≤100000) (next cookie:Int):Sz (b+1) ⟨withN t.nodes n,next,cookie⟩ :=
 ⟨Nat.le_trans (withN_len _ _) (by have:=h.nodes; simp; omega),fun x hx=>by
  rcases withN_mem hx with rfl|hx
  ·exact h1
  ·exact Nat.le_succ_of_le (h.ents x hx),fun x hx=>by
  rcases withN_mem hx with rfl|hx
  ·exact h2
  ·exact h.data x hx⟩
theorem Sz.up {b c:Nat} {t:Tree} (h:Sz b t) (hbc:b≤c):Sz c t:=⟨Nat.le_trans h.nodes hbc,fun n hn=>Nat.le_trans (h.ents n hn) hbc,h.data⟩
theorem Sz.find {b:Nat} {t:Tree} (h:Sz b t) (ino:Int):((find t.nodes ino).getD Node.zero).ents.length≤b∧((find t.nodes ino).getD Node.zero).data.length≤100000:=by
 cases hf:Go.Proofs.YtannopdcbocngaaGreatDoor.find t.nodes ino with
 |none=>simp [Node.zero]
 |some n=>exact ⟨h.ents n (find_mem hf).1,h.data n (find_mem hf).1⟩
theorem dropE_len (l:List Ent) (s:Bytes):(dropE l s).length≤l.length:=List.length_filter_le _ _
theorem Sz.left {b:Nat} {t:Tree} (h:Sz b t) (ino:Int) (s:Bytes) (next cookie:Int):Sz (b+1) ⟨leftN t.nodes ino s,next,cookie⟩ :=
 h.with (n:={ (Go.Proofs.YtannopdcbocngaaGreatDoor.find t.nodes ino).getD Node.zero with ents:=dropE ((Go.Proofs.YtannopdcbocngaaGreatDoor.find t.nodes ino).getD Node.zero).ents s }) (Nat.le_trans (dropE_len _ _) (Nat.le_succ_of_le (h.find ino).1)) (h.find ino).2 next cookie
theorem Sz.without {b:Nat} {t:Tree} (h:Sz b t) (ino:Int) (next cookie:Int):Sz b ⟨withoutN t.nodes ino,next,cookie⟩ :=
 ⟨Nat.le_trans (List.length_filter_le _ _) h.nodes,fun x hx=>h.ents x ((List.mem_filter.1 hx).1),fun x hx=>h.data x ((List.mem_filter.1 hx).1)⟩
def fullN (t:Tree) (n:Node):Bool:=decide ((64:Int)≤n.ents.length)||(decide ((12:Int)≤depthN t.nodes n.ino)||decide ((1099511627776:Int)≤t.cookie))
theorem c155 (t:Tree) (n:Node) (ht:Small t):acall tabT 155 [eTree t,eNode n] []=some (.bool (fullN t n),[]):=by
 refine acall_ex rfl rfl rfl ?_
 simp only [fn155,E155,eTree,eTreeC,eNode,eNodeC,k123,ht.nodes,EVN,EVT,EVD,↓reduceIte,Nat.reduceEqDiff,reduceCtorEq,Nat.reduceAdd,Nat.reduceLeDiff,ne_eq,Nat.reduceLT,Int.reduceLT,Int.reduceLE,Int.reduceNeg]
 unfold fullN
 repeat' (first|(refine fork_split (fun hb=>?_) (fun hb=>?_)<;>simp only [hb,EVN,E155,k123,ht.nodes,EVT,EVD,↓reduceIte,Nat.reduceEqDiff,reduceCtorEq,Nat.reduceAdd,Nat.reduceLeDiff,ne_eq,Nat.reduceLT,Int.reduceLT,Int.reduceLE,Int.reduceNeg])|(refine guard_split (fun hb=>?_) (fun hb=>?_)<;>simp only [hb,EVN,E155,k123,ht.nodes,EVT,EVD,↓reduceIte,Nat.reduceEqDiff,reduceCtorEq,Nat.reduceAdd,Nat.reduceLeDiff,ne_eq,Nat.reduceLT,Int.reduceLT,Int.reduceLE,Int.reduceNeg])|(refine opK_pick (fun hb=>?_) (fun hb=>?_)<;>simp only [hb,EVN,E155,k123,ht.nodes,EVT,EVD,↓reduceIte,Nat.reduceEqDiff,reduceCtorEq,Nat.reduceAdd,Nat.reduceLeDiff,ne_eq,Nat.reduceLT,Int.reduceLT,Int.reduceLE,Int.reduceNeg]))
 all_goals simp_all
theorem k155 (nodes:List Node) (next cookie a b c:Int) (d:Bytes) (e:List Ent) (u:Int) (h:Small ⟨nodes,next,cookie⟩) (M:AMem):callOp (acall tabT) 155 [.agg [eNodes nodes,.int .i64 next,.int .i64 cookie],.agg [.int .i64 a,.int .i64 b,.int .i64 c,eData d,eEnts e,.int .i64 u]] M =
  some (.bool (fullN ⟨nodes,next,cookie⟩ ⟨a,b,c,d,e,u⟩),M):=callOp0 (c155 ⟨nodes,next,cookie⟩ ⟨a,b,c,d,e,u⟩ h) rfl rfl rfl rfl rfl M
def enterErr (t:Tree) (ino:Int) (s:Bytes):Int :=
 if (dirN t.nodes ino).2≠0 then (dirN t.nodes ino).2 else if nameOk s=false then 60 else if (findE (dirN t.nodes ino).1.ents s).isSome=true then 71 else if fullN t (dirN t.nodes ino).1=true then 76 else 0
theorem c111 (t:Tree) (ino:Int) (s:Bytes) (ht:Small t) (hs:s.length≤100000):acall tabT 111 [eTree t,.int .i64 ino,.str s] []=some (.int .i64 (enterErr t ino s),[]):=by
 refine acall_ex rfl rfl rfl ?_
 have hd:=dirN_ents ht ino
 have ht':Small ⟨t.nodes,t.next,t.cookie⟩:=ht
 simp only [fn111,E111,eTree,eTreeC,k118,ht.nodes,eNode,eNodeC,EVN,EVT,EVD,↓reduceIte,Nat.reduceEqDiff,reduceCtorEq,Nat.reduceAdd,Nat.reduceLeDiff,ne_eq,Nat.reduceLT,Int.reduceLT,Int.reduceLE,Int.reduceNeg]
 unfold enterErr
 refine fork_split (fun hb=>?_) (fun hb=>?_)
 ·simp only [E111,EVN,EVT,EVD,↓reduceIte,Nat.reduceEqDiff,reduceCtorEq,Nat.reduceAdd,Nat.reduceLeDiff,ne_eq,Nat.reduceLT,Int.reduceLT,Int.reduceLE,Int.reduceNeg]
  simp_all
 ·simp only [E111,k119,hs,EVN,EVT,EVD,↓reduceIte,Nat.reduceEqDiff,reduceCtorEq,Nat.reduceAdd,Nat.reduceLeDiff,ne_eq,Nat.reduceLT,Int.reduceLT,Int.reduceLE,Int.reduceNeg]
  refine fork_split (fun hb'=>?_) (fun hb'=>?_)
  ·simp only [E111,EVN,EVT,EVD,↓reduceIte,Nat.reduceEqDiff,reduceCtorEq,Nat.reduceAdd,Nat.reduceLeDiff,ne_eq,Nat.reduceLT,Int.reduceLT,Int.reduceLE,Int.reduceNeg]
   simp_all
  ·simp only [E111,k120,hd,EVN,EVT,EVD,↓reduceIte,Nat.reduceEqDiff,reduceCtorEq,Nat.reduceAdd,Nat.reduceLeDiff,ne_eq,Nat.reduceLT,Int.reduceLT,Int.reduceLE,Int.reduceNeg]
   rcases namedGo_spec s (dirN t.nodes ino).1.ents 0 with ⟨h1,h2⟩|⟨m,n,h1,h2,h3⟩
   ·rw [h2]
    simp only [E111,k155,ht',EVN,EVT,EVD,↓reduceIte,Nat.reduceEqDiff,reduceCtorEq,Nat.reduceAdd,Nat.reduceLeDiff,ne_eq,Nat.reduceLT,Int.reduceLT,Int.reduceLE,Int.reduceNeg]
    refine fork_split (fun hb''=>?_) (fun hb''=>?_)
    ·simp only [E111,EVN,EVT,EVD,↓reduceIte,Nat.reduceEqDiff,reduceCtorEq,Nat.reduceAdd,Nat.reduceLeDiff,ne_eq,Nat.reduceLT,Int.reduceLT,Int.reduceLE,Int.reduceNeg]
     simp_all
    ·simp only [E111,EVN,EVT,EVD,↓reduceIte,Nat.reduceEqDiff,reduceCtorEq,Nat.reduceAdd,Nat.reduceLeDiff,ne_eq,Nat.reduceLT,Int.reduceLT,Int.reduceLE,Int.reduceNeg]
     simp_all
   ·rw [h3]
    simp only [E111,Int.natCast_nonneg,EVN,EVT,EVD,↓reduceIte,Nat.reduceEqDiff,reduceCtorEq,Nat.reduceAdd,Nat.reduceLeDiff,ne_eq,Nat.reduceLT,Int.reduceLT,Int.reduceLE,Int.reduceNeg]
    simp_all
theorem k111 (nodes:List Node) (next cookie ino:Int) (s:Bytes) (ht:Small ⟨nodes,next,cookie⟩) (hs:s.length≤100000) (M:AMem):callOp (acall tabT) 111 [.agg [eNodes nodes,.int .i64 next,.int .i64 cookie],.int .i64 ino,.str s] M =
  some (.int .i64 (enterErr ⟨nodes,next,cookie⟩ ino s),M):=callOp0 (c111 ⟨nodes,next,cookie⟩ ino s ht hs) rfl rfl rfl rfl rfl M
end Go.Proofs.YtannopdcbocngaaGreatDoor
namespace Go.Proofs.YtannopdcbocngaaGreatDoor
open Go Go.Abs
attribute [local irreducible] exK opsK opK gK forkK kr acall callOp owhen obind
def addN (t:Tree) (ino:Int) (s:Bytes) (kind:Int):Tree×Int×Int :=
 if (kind != 1&&kind != 2)=true then (t,0,1) else if (enterErr t ino s != 0)=true then (t,0,enterErr t ino s) else
 if (decide ((200:Int)≤t.nodes.length)||decide ((1099511627776:Int)≤t.next))=true then (t,0,76) else
 (enteredN ⟨withN t.nodes ⟨t.next,kind,1,[],[],if (kind==2)=true then ino else 0⟩,w64 (t.next+1),t.cookie⟩ ino s t.next,t.next,0)
theorem k113z (nodes:List Node) (next cookie a b c u:Int) (h:nodes.length≤100000) (M:AMem):callOp (acall tabT) 113 [.agg [eNodes nodes,.int .i64 next,.int .i64 cookie],.agg [.int .i64 a,.int .i64 b,.int .i64 c,.slice .sh [],.slice .sh [],.int .i64 u]] M =
  some (.agg [eNodes (withN nodes ⟨a,b,c,[],[],u⟩),.int .i64 next,.int .i64 cookie],M):=k113 nodes next cookie a b c [] [] u h M
theorem small_add {t:Tree} (hz:Sz 1000 t) (k u next cookie a c:Int):Small ⟨withN t.nodes ⟨a,k,c,[],[],u⟩,next,cookie⟩:=(hz.with (by simp) (by simp) next cookie).small (by omega)
set_option maxHeartbeats 1000000 in
theorem c81 (t:Tree) (ino:Int) (s:Bytes) (kind:Int) (hz:Sz 1000 t) (hs:s.length≤100000):acall tabT 81 [eTree t,.int .i64 ino,.str s,.int .i64 kind] []=some (.tuple [eTree (addN t ino s kind).1,.int .i64 (addN t ino s kind).2.1,.int .i64 (addN t ino s kind).2.2],[]):=by
 obtain ⟨nodes,next,cookie⟩:=t
 refine acall_ex rfl rfl rfl ?_
 have ht:Small ⟨nodes,next,cookie⟩:=hz.small (by omega)
 have hn:nodes.length≤100000:=ht.nodes
 have hw:=fun k u next' cookie' a c=>small_add hz k u next' cookie' a c
 simp only [fn81,E81,eTree,eTreeC,k111,ht,hs,EVN,EVT,EVD,↓reduceIte,Nat.reduceEqDiff,reduceCtorEq,Nat.reduceAdd,Nat.reduceLeDiff,ne_eq,Nat.reduceLT,Int.reduceLT,Int.reduceLE,Int.reduceNeg]
 repeat' (first|(refine fork_split (fun hb=>?_) (fun hb=>?_)<;>simp only [hb,EVN,E81,k111,ht,hs,hn,k113z,k112,hw,eTree,eTreeC,EVT,EVD,↓reduceIte,Nat.reduceEqDiff,reduceCtorEq,Nat.reduceAdd,Nat.reduceLeDiff,ne_eq,Nat.reduceLT,Int.reduceLT,Int.reduceLE,Int.reduceNeg])|(refine guard_split (fun hb=>?_) (fun hb=>?_)<;>simp only [hb,EVN,E81,k111,ht,hs,hn,k113z,k112,hw,eTree,eTreeC,EVT,EVD,↓reduceIte,Nat.reduceEqDiff,reduceCtorEq,Nat.reduceAdd,Nat.reduceLeDiff,ne_eq,Nat.reduceLT,Int.reduceLT,Int.reduceLE,Int.reduceNeg])|(refine opK_pick (fun hb=>?_) (fun hb=>?_)<;>simp only [hb,EVN,E81,k111,ht,hs,hn,k113z,k112,hw,eTree,eTreeC,EVT,EVD,↓reduceIte,Nat.reduceEqDiff,reduceCtorEq,Nat.reduceAdd,Nat.reduceLeDiff,ne_eq,Nat.reduceLT,Int.reduceLT,Int.reduceLE,Int.reduceNeg]))
 all_goals (clear hw; simp_all only [addN,eTree,eTreeC,BBT,↓reduceIte,reduceCtorEq,bne_self_eq_false]; done)
end Go.Proofs.YtannopdcbocngaaGreatDoor
namespace Go.Proofs.YtannopdcbocngaaGreatDoor
open Go Go.Abs
attribute [local irreducible] exK opsK opK gK forkK kr acall callOp owhen obind
theorem k81 (nodes:List Node) (next cookie ino:Int) (s:Bytes) (kind:Int) (hz:Sz 1000 ⟨nodes,next,cookie⟩) (hs:s.length≤100000) (M:AMem):callOp (acall tabT) 81 [.agg [eNodes nodes,.int .i64 next,.int .i64 cookie],.int .i64 ino,.str s,.int .i64 kind] M =
  some (.tuple [eTree (addN ⟨nodes,next,cookie⟩ ino s kind).1,.int .i64 (addN ⟨nodes,next,cookie⟩ ino s kind).2.1,.int .i64 (addN ⟨nodes,next,cookie⟩ ino s kind).2.2],M):=callOp0 (c81 ⟨nodes,next,cookie⟩ ino s kind hz hs) rfl rfl rfl rfl rfl M
abbrev nodeN (nodes:List Node) (ino:Int):Node:=(find nodes ino).getD Node.zero
def lnN (t:Tree) (ino to:Int) (s:Bytes):Tree×Int :=
 if (!(find t.nodes ino).isSome||((nodeN t.nodes ino).kind==1&&(nodeN t.nodes ino).links==0))=true then (t,70) else if ((nodeN t.nodes ino).kind==2)=true then (t,72) else
 if (enterErr t to s != 0)=true then (t,enterErr t to s) else
 (enteredN ⟨withN t.nodes { nodeN t.nodes ino with links:=w64 ((nodeN t.nodes ino).links+1) },t.next,t.cookie⟩ to s ino,0)
theorem c82 (t:Tree) (ino to:Int) (s:Bytes) (hz:Sz 1000 t) (hs:s.length≤100000):acall tabT 82 [eTree t,.int .i64 ino,.int .i64 to,.str s] []=some (.tuple [eTree (lnN t ino to s).1,.int .i64 (lnN t ino to s).2],[]):=by
 obtain ⟨nodes,next,cookie⟩:=t
 refine acall_ex rfl rfl rfl ?_
 have ht:Small ⟨nodes,next,cookie⟩:=hz.small (by omega)
 have hn:nodes.length≤100000:=ht.nodes
 have hf:=hz.find ino
 have hw':∀l,Small ⟨withN nodes { nodeN nodes ino with links:=l },next,cookie⟩:=fun l=>(hz.with (n:={ nodeN nodes ino with links:=l }) (Nat.le_succ_of_le hf.1) hf.2 next cookie).small (by omega)
 simp only [fn82,E82,eTree,eTreeC,k114,hn,eNode,eNodeC,EVN,EVT,EVD,↓reduceIte,Nat.reduceEqDiff,reduceCtorEq,Nat.reduceAdd,Nat.reduceLeDiff,ne_eq,Nat.reduceLT,Int.reduceLT,Int.reduceLE,Int.reduceNeg]
 repeat' (first|(refine fork_split (fun hb=>?_) (fun hb=>?_)<;>simp only [hb,EVN,E82,k111,ht,hs,hn,k113,k112,hw',eTree,eTreeC,EVT,EVD,↓reduceIte,Nat.reduceEqDiff,reduceCtorEq,Nat.reduceAdd,Nat.reduceLeDiff,ne_eq,Nat.reduceLT,Int.reduceLT,Int.reduceLE,Int.reduceNeg])|(refine guard_split (fun hb=>?_) (fun hb=>?_)<;>simp only [hb,EVN,E82,k111,ht,hs,hn,k113,k112,hw',eTree,eTreeC,EVT,EVD,↓reduceIte,Nat.reduceEqDiff,reduceCtorEq,Nat.reduceAdd,Nat.reduceLeDiff,ne_eq,Nat.reduceLT,Int.reduceLT,Int.reduceLE,Int.reduceNeg])|(refine opK_pick (fun hb=>?_) (fun hb=>?_)<;>simp only [hb,EVN,E82,k111,ht,hs,hn,k113,k112,hw',eTree,eTreeC,EVT,EVD,↓reduceIte,Nat.reduceEqDiff,reduceCtorEq,Nat.reduceAdd,Nat.reduceLeDiff,ne_eq,Nat.reduceLT,Int.reduceLT,Int.reduceLE,Int.reduceNeg]))
 all_goals (clear hw' hf; simp_all only [lnN,eTree,eTreeC,BBT,↓reduceIte,reduceCtorEq,bne_self_eq_false]; done)
theorem k82 (nodes:List Node) (next cookie ino to:Int) (s:Bytes) (hz:Sz 1000 ⟨nodes,next,cookie⟩) (hs:s.length≤100000) (M:AMem):callOp (acall tabT) 82 [.agg [eNodes nodes,.int .i64 next,.int .i64 cookie],.int .i64 ino,.int .i64 to,.str s] M =
  some (.tuple [eTree (lnN ⟨nodes,next,cookie⟩ ino to s).1,.int .i64 (lnN ⟨nodes,next,cookie⟩ ino to s).2],M):=callOp0 (c82 ⟨nodes,next,cookie⟩ ino to s hz hs) rfl rfl rfl rfl rfl M
def unnamedN (nodes:List Node) (ino:Int):List Node :=
 if ((nodeN nodes ino).kind==2)=true then withoutN nodes ino else withN nodes { nodeN nodes ino with links:=w64 ((nodeN nodes ino).links-1) }
theorem c116 (t:Tree) (ino:Int) (ht:Small t):acall tabT 116 [eTree t,.int .i64 ino] []=some (eTree ⟨unnamedN t.nodes ino,t.next,t.cookie⟩,[]):=by
 obtain ⟨nodes,next,cookie⟩:=t
 refine acall_ex rfl rfl rfl ?_
 have hn:nodes.length≤100000:=ht.nodes
 simp only [fn116,E116,eTree,eTreeC,k114,hn,eNode,eNodeC,EVN,EVT,EVD,↓reduceIte,Nat.reduceEqDiff,reduceCtorEq,Nat.reduceAdd,Nat.reduceLeDiff,ne_eq,Nat.reduceLT,Int.reduceLT,Int.reduceLE,Int.reduceNeg]
 repeat' (first|(refine fork_split (fun hb=>?_) (fun hb=>?_)<;>simp only [hb,EVN,E116,hn,k113,k125,eTree,eTreeC,EVT,EVD,↓reduceIte,Nat.reduceEqDiff,reduceCtorEq,Nat.reduceAdd,Nat.reduceLeDiff,ne_eq,Nat.reduceLT,Int.reduceLT,Int.reduceLE,Int.reduceNeg])|(refine guard_split (fun hb=>?_) (fun hb=>?_)<;>simp only [hb,EVN,E116,hn,k113,k125,eTree,eTreeC,EVT,EVD,↓reduceIte,Nat.reduceEqDiff,reduceCtorEq,Nat.reduceAdd,Nat.reduceLeDiff,ne_eq,Nat.reduceLT,Int.reduceLT,Int.reduceLE,Int.reduceNeg])|(refine opK_pick (fun hb=>?_) (fun hb=>?_)<;>simp only [hb,EVN,E116,hn,k113,k125,eTree,eTreeC,EVT,EVD,↓reduceIte,Nat.reduceEqDiff,reduceCtorEq,Nat.reduceAdd,Nat.reduceLeDiff,ne_eq,Nat.reduceLT,Int.reduceLT,Int.reduceLE,Int.reduceNeg]))
 all_goals (simp_all only [unnamedN,eTree,eTreeC,BBT,↓reduceIte,reduceCtorEq,bne_self_eq_false]; done)
theorem k116 (nodes:List Node) (next cookie ino:Int) (ht:Small ⟨nodes,next,cookie⟩) (M:AMem):callOp (acall tabT) 116 [.agg [eNodes nodes,.int .i64 next,.int .i64 cookie],.int .i64 ino] M =
  some (.agg [eNodes (unnamedN nodes ino),.int .i64 next,.int .i64 cookie],M):=callOp0 (c116 ⟨nodes,next,cookie⟩ ino ht) rfl rfl rfl rfl rfl M
def unN (t:Tree) (ino:Int) (s:Bytes):Tree×Int×Int :=
 if ((lookN t.nodes ino s).2 != 0)=true then (t,0,(lookN t.nodes ino s).2) else if decide ((0:Int)<(nodeN t.nodes (lookN t.nodes ino s).1).ents.length)=true then (t,0,74) else
 (⟨unnamedN (leftN t.nodes ino s) (lookN t.nodes ino s).1,t.next,t.cookie⟩,(lookN t.nodes ino s).1,0)
theorem c83 (t:Tree) (ino:Int) (s:Bytes) (hz:Sz 1000 t) (hs:s.length≤100000):acall tabT 83 [eTree t,.int .i64 ino,.str s] []=some (.tuple [eTree (unN t ino s).1,.int .i64 (unN t ino s).2.1,.int .i64 (unN t ino s).2.2],[]):=by
 obtain ⟨nodes,next,cookie⟩:=t
 refine acall_ex rfl rfl rfl ?_
 have ht:Small ⟨nodes,next,cookie⟩:=hz.small (by omega)
 have hn:nodes.length≤100000:=ht.nodes
 have hl:Small ⟨leftN nodes ino s,next,cookie⟩:=(hz.left ino s next cookie).small (by omega)
 simp only [fn83,E83,eTree,eTreeC,k115,ht,hs,eNode,eNodeC,EVN,EVT,EVD,↓reduceIte,Nat.reduceEqDiff,reduceCtorEq,Nat.reduceAdd,Nat.reduceLeDiff,ne_eq,Nat.reduceLT,Int.reduceLT,Int.reduceLE,Int.reduceNeg]
 repeat' (first|(refine fork_split (fun hb=>?_) (fun hb=>?_)<;>simp only [hb,EVN,E83,hn,ht,hs,k114,k117,k116,hl,eNode,eNodeC,eTree,eTreeC,EVT,EVD,↓reduceIte,Nat.reduceEqDiff,reduceCtorEq,Nat.reduceAdd,Nat.reduceLeDiff,ne_eq,Nat.reduceLT,Int.reduceLT,Int.reduceLE,Int.reduceNeg])|(refine guard_split (fun hb=>?_) (fun hb=>?_)<;>simp only [hb,EVN,E83,hn,ht,hs,k114,k117,k116,hl,eNode,eNodeC,eTree,eTreeC,EVT,EVD,↓reduceIte,Nat.reduceEqDiff,reduceCtorEq,Nat.reduceAdd,Nat.reduceLeDiff,ne_eq,Nat.reduceLT,Int.reduceLT,Int.reduceLE,Int.reduceNeg])|(refine opK_pick (fun hb=>?_) (fun hb=>?_)<;>simp only [hb,EVN,E83,hn,ht,hs,k114,k117,k116,hl,eNode,eNodeC,eTree,eTreeC,EVT,EVD,↓reduceIte,Nat.reduceEqDiff,reduceCtorEq,Nat.reduceAdd,Nat.reduceLeDiff,ne_eq,Nat.reduceLT,Int.reduceLT,Int.reduceLE,Int.reduceNeg]))
 all_goals (simp_all only [unN,eTree,eTreeC,BBT,↓reduceIte,reduceCtorEq,bne_self_eq_false]; done)
theorem k83 (nodes:List Node) (next cookie ino:Int) (s:Bytes) (hz:Sz 1000 ⟨nodes,next,cookie⟩) (hs:s.length≤100000) (M:AMem):callOp (acall tabT) 83 [.agg [eNodes nodes,.int .i64 next,.int .i64 cookie],.int .i64 ino,.str s] M =
  some (.tuple [eTree (unN ⟨nodes,next,cookie⟩ ino s).1,.int .i64 (unN ⟨nodes,next,cookie⟩ ino s).2.1,.int .i64 (unN ⟨nodes,next,cookie⟩ ino s).2.2],M):=callOp0 (c83 ⟨nodes,next,cookie⟩ ino s hz hs) rfl rfl rfl rfl rfl M
def clashN (nodes:List Node) (kind:Int) (y:Int):Int :=
 if (!(find nodes y).isSome)=true then 0 else if (kind==2&&(nodeN nodes y).kind != 2)=true then 73 else if (kind != 2&&(nodeN nodes y).kind==2)=true then 72 else if decide ((0:Int)<(nodeN nodes y).ents.length)=true then 74 else 0
theorem c122 (t:Tree) (x:Node) (y:Int) (ht:Small t):acall tabT 122 [eTree t,eNode x,.int .i64 y] []=some (.int .i64 (clashN t.nodes x.kind y),[]):=by
 obtain ⟨nodes,next,cookie⟩:=t
 refine acall_ex rfl rfl rfl ?_
 have hn:nodes.length≤100000:=ht.nodes
 simp only [fn122,E122,eTree,eTreeC,k114,hn,eNode,eNodeC,EVN,EVT,EVD,↓reduceIte,Nat.reduceEqDiff,reduceCtorEq,Nat.reduceAdd,Nat.reduceLeDiff,ne_eq,Nat.reduceLT,Int.reduceLT,Int.reduceLE,Int.reduceNeg]
 repeat' (first|(refine fork_split (fun hb=>?_) (fun hb=>?_)<;>simp only [hb,EVN,E122,EVT,EVD,↓reduceIte,Nat.reduceEqDiff,reduceCtorEq,Nat.reduceAdd,Nat.reduceLeDiff,ne_eq,Nat.reduceLT,Int.reduceLT,Int.reduceLE,Int.reduceNeg])|(refine guard_split (fun hb=>?_) (fun hb=>?_)<;>simp only [hb,EVN,E122,EVT,EVD,↓reduceIte,Nat.reduceEqDiff,reduceCtorEq,Nat.reduceAdd,Nat.reduceLeDiff,ne_eq,Nat.reduceLT,Int.reduceLT,Int.reduceLE,Int.reduceNeg])|(refine opK_pick (fun hb=>?_) (fun hb=>?_)<;>simp only [hb,EVN,E122,EVT,EVD,↓reduceIte,Nat.reduceEqDiff,reduceCtorEq,Nat.reduceAdd,Nat.reduceLeDiff,ne_eq,Nat.reduceLT,Int.reduceLT,Int.reduceLE,Int.reduceNeg]))
 all_goals (simp_all only [clashN,BBT,↓reduceIte,reduceCtorEq,bne_self_eq_false]; done)
theorem k122 (nodes:List Node) (next cookie a b c:Int) (d:Bytes) (e:List Ent) (u y:Int) (ht:Small ⟨nodes,next,cookie⟩) (M:AMem):callOp (acall tabT) 122 [.agg [eNodes nodes,.int .i64 next,.int .i64 cookie],.agg [.int .i64 a,.int .i64 b,.int .i64 c,eData d,eEnts e,.int .i64 u],.int .i64 y] M =
  some (.int .i64 (clashN nodes b y),M):=callOp0 (c122 ⟨nodes,next,cookie⟩ ⟨a,b,c,d,e,u⟩ y ht) rfl rfl rfl rfl rfl M
def putN (t:Tree) (ino:Int) (data:Bytes):Tree×Int :=
 if (!(find t.nodes ino).isSome)=true then (t,70) else if ((nodeN t.nodes ino).kind==2)=true then (t,72) else if decide ((4096:Int)<data.length)=true then (t,2) else
 (⟨withN t.nodes { nodeN t.nodes ino with data:=data },t.next,t.cookie⟩,0)
theorem c85 (t:Tree) (ino:Int) (data:Bytes) (ht:Small t) (hd:data.length≤100000):acall tabT 85 [eTree t,.int .i64 ino,eData data] []=some (.tuple [eTree (putN t ino data).1,.int .i64 (putN t ino data).2],[]):=by
 obtain ⟨nodes,next,cookie⟩:=t
 refine acall_ex rfl rfl rfl ?_
 have hn:nodes.length≤100000:=ht.nodes
 have r1:roomOk data.length 1=True:=room_ok (by omega) (by omega)
 simp only [fn85,E85,eTree,eTreeC,k114,hn,eNode,eNodeC,EVN,EVT,EVD,↓reduceIte,Nat.reduceEqDiff,reduceCtorEq,Nat.reduceAdd,Nat.reduceLeDiff,ne_eq,Nat.reduceLT,Int.reduceLT,Int.reduceLE,Int.reduceNeg]
 repeat' (first|(refine fork_split (fun hb=>?_) (fun hb=>?_)<;>simp only [hb,EVN,E85,hn,r1,k113,eTree,eTreeC,EVT,EVD,↓reduceIte,Nat.reduceEqDiff,reduceCtorEq,Nat.reduceAdd,Nat.reduceLeDiff,ne_eq,Nat.reduceLT,Int.reduceLT,Int.reduceLE,Int.reduceNeg])|(refine guard_split (fun hb=>?_) (fun hb=>?_)<;>simp only [hb,EVN,E85,hn,r1,k113,eTree,eTreeC,EVT,EVD,↓reduceIte,Nat.reduceEqDiff,reduceCtorEq,Nat.reduceAdd,Nat.reduceLeDiff,ne_eq,Nat.reduceLT,Int.reduceLT,Int.reduceLE,Int.reduceNeg])|(refine opK_pick (fun hb=>?_) (fun hb=>?_)<;>simp only [hb,EVN,E85,hn,r1,k113,eTree,eTreeC,EVT,EVD,↓reduceIte,Nat.reduceEqDiff,reduceCtorEq,Nat.reduceAdd,Nat.reduceLeDiff,ne_eq,Nat.reduceLT,Int.reduceLT,Int.reduceLE,Int.reduceNeg]))
 all_goals (simp_all only [putN,eTree,eTreeC,BBT,↓reduceIte,reduceCtorEq,bne_self_eq_false]; done)
theorem k85 (nodes:List Node) (next cookie ino:Int) (data:Bytes) (ht:Small ⟨nodes,next,cookie⟩) (hd:data.length≤100000) (M:AMem):callOp (acall tabT) 85 [.agg [eNodes nodes,.int .i64 next,.int .i64 cookie],.int .i64 ino,eData data] M =
  some (.tuple [eTree (putN ⟨nodes,next,cookie⟩ ino data).1,.int .i64 (putN ⟨nodes,next,cookie⟩ ino data).2],M):=callOp0 (c85 ⟨nodes,next,cookie⟩ ino data ht hd) rfl rfl rfl rfl rfl M
def freeN (t:Tree) (ino:Int):Tree×Int :=
 if (!(find t.nodes ino).isSome)=true then (t,70) else if ((nodeN t.nodes ino).kind==2)=true then (t,72) else if decide ((0:Int)<(nodeN t.nodes ino).links)=true then (t,71) else
 (⟨withoutN t.nodes ino,t.next,t.cookie⟩,0)
theorem c86 (t:Tree) (ino:Int) (ht:Small t):acall tabT 86 [eTree t,.int .i64 ino] []=some (.tuple [eTree (freeN t ino).1,.int .i64 (freeN t ino).2],[]):=by
 obtain ⟨nodes,next,cookie⟩:=t
 refine acall_ex rfl rfl rfl ?_
 have hn:nodes.length≤100000:=ht.nodes
 simp only [fn86,E86,eTree,eTreeC,k114,hn,eNode,eNodeC,EVN,EVT,EVD,↓reduceIte,Nat.reduceEqDiff,reduceCtorEq,Nat.reduceAdd,Nat.reduceLeDiff,ne_eq,Nat.reduceLT,Int.reduceLT,Int.reduceLE,Int.reduceNeg]
 repeat' (first|(refine fork_split (fun hb=>?_) (fun hb=>?_)<;>simp only [hb,EVN,E86,hn,k125,eTree,eTreeC,EVT,EVD,↓reduceIte,Nat.reduceEqDiff,reduceCtorEq,Nat.reduceAdd,Nat.reduceLeDiff,ne_eq,Nat.reduceLT,Int.reduceLT,Int.reduceLE,Int.reduceNeg])|(refine guard_split (fun hb=>?_) (fun hb=>?_)<;>simp only [hb,EVN,E86,hn,k125,eTree,eTreeC,EVT,EVD,↓reduceIte,Nat.reduceEqDiff,reduceCtorEq,Nat.reduceAdd,Nat.reduceLeDiff,ne_eq,Nat.reduceLT,Int.reduceLT,Int.reduceLE,Int.reduceNeg])|(refine opK_pick (fun hb=>?_) (fun hb=>?_)<;>simp only [hb,EVN,E86,hn,k125,eTree,eTreeC,EVT,EVD,↓reduceIte,Nat.reduceEqDiff,reduceCtorEq,Nat.reduceAdd,Nat.reduceLeDiff,ne_eq,Nat.reduceLT,Int.reduceLT,Int.reduceLE,Int.reduceNeg]))
 all_goals (simp_all only [freeN,eTree,eTreeC,BBT,↓reduceIte,reduceCtorEq,bne_self_eq_false]; done)
theorem k86 (nodes:List Node) (next cookie ino:Int) (ht:Small ⟨nodes,next,cookie⟩) (M:AMem):callOp (acall tabT) 86 [.agg [eNodes nodes,.int .i64 next,.int .i64 cookie],.int .i64 ino] M =
  some (.tuple [eTree (freeN ⟨nodes,next,cookie⟩ ino).1,.int .i64 (freeN ⟨nodes,next,cookie⟩ ino).2],M):=callOp0 (c86 ⟨nodes,next,cookie⟩ ino ht) rfl rfl rfl rfl rfl M
def newN:Tree:=⟨[⟨1,2,0,[],[],1⟩],2,1⟩
theorem c40:acall tabT 40 [] []=some (eTree newN,[]):=by
 refine acall_ex rfl rfl rfl ?_
 simp only [fn40,E40,EVN,EVT,EVD,↓reduceIte,Nat.reduceEqDiff,reduceCtorEq,Nat.reduceAdd,Nat.reduceLeDiff,ne_eq,Nat.reduceLT,Int.reduceLT,Int.reduceLE,Int.reduceNeg]
 rfl
theorem k40 (M:AMem):callOp (acall tabT) 40 [] M=some (eTree newN,M):=callOp0 c40 rfl rfl rfl rfl rfl M
end Go.Proofs.YtannopdcbocngaaGreatDoor
namespace Go.Proofs.YtannopdcbocngaaGreatDoor
open Go Go.Abs
attribute [local irreducible] exK opsK opK gK forkK kr acall callOp owhen obind
def highStep (nodes:List Node) (ino at' d:Int) (n:Node) (most:Int):Int :=
 if (n.kind==2&&belowN nodes n.ino ino)=true then
  (if (if decide ((0:Int)<n.ents.length)=true then w64 (w64 (w64 (at'+depthN nodes n.ino)-d)+1) else w64 (w64 (at'+depthN nodes n.ino)-d))>most
   then (if decide ((0:Int)<n.ents.length)=true then w64 (w64 (w64 (at'+depthN nodes n.ino)-d)+1) else w64 (w64 (at'+depthN nodes n.ino)-d)) else most)
 else most
def highGo (nodes:List Node) (ino at' d:Int):List Node→Int→Int
 | [],most=>most
 |n::r,most=>highGo nodes ino at' d r (highStep nodes ino at' d n most)
def highN (nodes:List Node) (ino at':Int):Int:=highGo nodes ino at' (depthN nodes ino) nodes 0
theorem loop124 {nodes:List Node} {next cookie ino at' d:Int} (ht:nodes.length≤100000) {k:List K} {R:Int→Option (AVal×AMem)}
  (hx:∀most v q,kr (acall tabT) [.tmp 6] 0 k ⟨.exit 0,[(1,.int .i64 ino),(2,.int .i64 at'),(3,.ptr 0 0),(7,.int .i64 most),(8,.int .i64 d),(9,v),(19,q)],[.cells (eTreeC ⟨nodes,next,cookie⟩)]⟩=R most) :
  ∀(l pre:List Node) (most:Int),nodes=pre++l→exK (acall tabT) [.tmp 6] 0 k (.loop [1,2,3,7,8,9] lb124_0) [(1,.int .i64 ino),(2,.int .i64 at'),(3,.ptr 0 0),(7,.int .i64 most),(8,.int .i64 d),(9,.int .i64 pre.length)] [.cells (eTreeC ⟨nodes,next,cookie⟩)]=R (highGo nodes ino at' d l most):=by
 intro l
 induction l with
 |nil =>
  intro pre most h
  rw [exK_loop]
  simp only [E124,eTreeC,lt_end h,EVN,EVT,EVD,↓reduceIte,Nat.reduceEqDiff,reduceCtorEq,Nat.reduceAdd,Nat.reduceLeDiff,ne_eq,Nat.reduceLT,Int.reduceLT,Int.reduceLE,Int.reduceNeg]
  exact hx _ _ _
 |cons n r ih =>
  intro pre most h
  rw [exK_loop]
  have hlen:pre.length+1≤100000:=by rw [h] at ht; simp at ht; omega
  have hw:IntKind.i64.wrap ((pre.length:Int)+1)=((pre++[n]).length:Int):=by rw [wrapS (by omega) (by omega)]; exact step_len
  have hi:=fun most=>ih (pre++[n]) most (by rw [h]; simp)
  rw [highGo]
  simp only [eTreeC] at hi
  generalize hst:highStep nodes ino at' d n most=m1
  simp only [E124,eTreeC,lt_mid h,at_mid h,eNodeC,EVN,EVT,EVD,↓reduceIte,Nat.reduceEqDiff,reduceCtorEq,Nat.reduceAdd,Nat.reduceLeDiff,ne_eq,Nat.reduceLT,Int.reduceLT,Int.reduceLE,Int.reduceNeg]
  repeat' (first|(refine fork_split (fun hb=>?_) (fun hb=>?_)<;>simp only [hb,EVN,E124,hw,k121,k123,ht,eNodeC,EVT,EVD,↓reduceIte,Nat.reduceEqDiff,reduceCtorEq,Nat.reduceAdd,Nat.reduceLeDiff,ne_eq,Nat.reduceLT,Int.reduceLT,Int.reduceLE,Int.reduceNeg])|(refine guard_split (fun hb=>?_) (fun hb=>?_)<;>simp only [hb,EVN,E124,hw,k121,k123,ht,eNodeC,EVT,EVD,↓reduceIte,Nat.reduceEqDiff,reduceCtorEq,Nat.reduceAdd,Nat.reduceLeDiff,ne_eq,Nat.reduceLT,Int.reduceLT,Int.reduceLE,Int.reduceNeg])|(refine opK_pick (fun hb=>?_) (fun hb=>?_)<;>simp only [hb,EVN,E124,hw,k121,k123,ht,eNodeC,EVT,EVD,↓reduceIte,Nat.reduceEqDiff,reduceCtorEq,Nat.reduceAdd,Nat.reduceLeDiff,ne_eq,Nat.reduceLT,Int.reduceLT,Int.reduceLE,Int.reduceNeg]))
  all_goals refine Eq.trans ?_ (hi m1)
  all_goals congr 1
  all_goals (subst hst; clear hi ih hx hw h ht; simp_all only [highStep,w64,gt_iff_lt,List.length_append,List.length_cons,List.length_nil,Nat.zero_add,BBT,↓reduceIte,reduceCtorEq,bne_self_eq_false]; done)
theorem c124 (t:Tree) (ino at':Int) (ht:t.nodes.length≤100000):acall tabT 124 [eTree t,.int .i64 ino,.int .i64 at'] []=some (.int .i64 (highN t.nodes ino at'),[]):=by
 obtain ⟨nodes,next,cookie⟩:=t
 have ht:nodes.length≤100000:=ht
 refine acall_ex rfl rfl rfl ?_
 simp only [fn124,E124,eTree,eTreeC,k123,ht,EVN,EVT,EVD,↓reduceIte,Nat.reduceEqDiff,reduceCtorEq,Nat.reduceAdd,Nat.reduceLeDiff,ne_eq,Nat.reduceLT,Int.reduceLT,Int.reduceLE,Int.reduceNeg]
 exact loop124 (R:=fun z=>some (.int .i64 z,[])) ht (fun most v q=>by simp only [E124,EVN,EVT,EVD,↓reduceIte,Nat.reduceEqDiff,reduceCtorEq,Nat.reduceAdd,Nat.reduceLeDiff,ne_eq,Nat.reduceLT,Int.reduceLT,Int.reduceLE,Int.reduceNeg]) nodes [] 0 rfl
theorem k124 (nodes:List Node) (next cookie ino at':Int) (h:nodes.length≤100000) (M:AMem):callOp (acall tabT) 124 [.agg [eNodes nodes,.int .i64 next,.int .i64 cookie],.int .i64 ino,.int .i64 at'] M=some (.int .i64 (highN nodes ino at'),M) :=
 callOp0 (c124 ⟨nodes,next,cookie⟩ ino at' h) rfl rfl rfl rfl rfl M
def underN (l:List Ent) (s:Bytes):Int:=match findE l s with
 |none=>0
 |some e=>e.ino
def manyN (t:Tree) (frm to:Int) (ents:List Ent) (kind y ino:Int):Bool :=
 ((y==0&&to != frm)&&decide ((64:Int)≤ents.length))||(decide ((12:Int)≤depthN t.nodes to)||((kind==2&&decide ((12:Int)<highN t.nodes ino (w64 (depthN t.nodes to+1))))||decide ((1099511627776:Int)≤t.cookie)))
def moveN (t:Tree) (frm:Int) (s:Bytes) (to:Int) (nm:Bytes) (ino y:Int):Tree :=
 enteredN ⟨if ((nodeN t.nodes ino).kind==2)=true then
   withN (if (y != 0)=true then unnamedN (leftN (leftN t.nodes frm s) to nm) y else leftN t.nodes frm s) { nodeN t.nodes ino with up:=to }
  else if (y != 0)=true then unnamedN (leftN (leftN t.nodes frm s) to nm) y else leftN t.nodes frm s,t.next,t.cookie⟩ to nm ino
def mvN (t:Tree) (frm:Int) (s:Bytes) (to:Int) (nm:Bytes):Tree×Int×Int :=
 if ((lookN t.nodes frm s).2 != 0)=true then (t,0,(lookN t.nodes frm s).2) else
 if ((dirN t.nodes to).2 != 0)=true then (t,0,(dirN t.nodes to).2) else
 if (!nameOk nm)=true then (t,0,60) else
 if (underN (dirN t.nodes to).1.ents nm==(lookN t.nodes frm s).1)=true then (t,0,0) else
 if ((nodeN t.nodes (lookN t.nodes frm s).1).kind==2&&belowN t.nodes to (lookN t.nodes frm s).1)=true then (t,0,75) else
 if (clashN t.nodes (nodeN t.nodes (lookN t.nodes frm s).1).kind (underN (dirN t.nodes to).1.ents nm) != 0)=true then (t,0,clashN t.nodes (nodeN t.nodes (lookN t.nodes frm s).1).kind (underN (dirN t.nodes to).1.ents nm)) else
 if manyN t frm to (dirN t.nodes to).1.ents (nodeN t.nodes (lookN t.nodes frm s).1).kind (underN (dirN t.nodes to).1.ents nm) (lookN t.nodes frm s).1=true then (t,0,76) else
 (moveN t frm s to nm (lookN t.nodes frm s).1 (underN (dirN t.nodes to).1.ents nm),underN (dirN t.nodes to).1.ents nm,0)
theorem Sz.unnamed {b:Nat} {t:Tree} (h:Sz b t) (ino next cookie:Int):Sz (b+1) ⟨unnamedN t.nodes ino,next,cookie⟩:=by
 unfold unnamedN
 split
 ·exact (h.without ino next cookie).up (by omega)
 ·exact h.with (n:={ nodeN t.nodes ino with links:=w64 ((nodeN t.nodes ino).links-1) }) (Nat.le_succ_of_le (h.find ino).1) (h.find ino).2 next cookie
set_option maxHeartbeats 2000000 in
theorem c84 (t:Tree) (frm:Int) (s:Bytes) (to:Int) (nm:Bytes) (hz:Sz 1000 t) (hs:s.length≤100000) (ha:nm.length≤100000):acall tabT 84 [eTree t,.int .i64 frm,.str s,.int .i64 to,.str nm] [] =
  some (.tuple [eTree (mvN t frm s to nm).1,.int .i64 (mvN t frm s to nm).2.1,.int .i64 (mvN t frm s to nm).2.2],[]):=by
 obtain ⟨nodes,next,cookie⟩:=t
 have ht:Small ⟨nodes,next,cookie⟩:=hz.small (by omega)
 have hn:nodes.length≤100000:=ht.nodes
 have hd:(dirN nodes to).1.ents.length≤100000:=dirN_ents ht to
 have z1:Sz 1001 ⟨leftN nodes frm s,next,cookie⟩:=hz.left frm s next cookie
 have z2:Sz 1002 ⟨leftN (leftN nodes frm s) to nm,next,cookie⟩:=z1.left to nm next cookie
 have z3:∀y,Sz 1003 ⟨unnamedN (leftN (leftN nodes frm s) to nm) y,next,cookie⟩:=fun y=>z2.unnamed y next cookie
 have hx:=hz.find (lookN nodes frm s).1
 have z4:∀y,Sz 1004 ⟨withN (unnamedN (leftN (leftN nodes frm s) to nm) y) { nodeN nodes (lookN nodes frm s).1 with up:=to },next,cookie⟩:=fun y=>(z3 y).with (n:={ nodeN nodes (lookN nodes frm s).1 with up:=to }) (Nat.le_trans hx.1 (by omega)) hx.2 next cookie
 have z5:Sz 1002 ⟨withN (leftN nodes frm s) { nodeN nodes (lookN nodes frm s).1 with up:=to },next,cookie⟩:=z1.with (n:={ nodeN nodes (lookN nodes frm s).1 with up:=to }) (Nat.le_trans hx.1 (by omega)) hx.2 next cookie
 have s1:=z1.small (by omega)
 have s2:=z2.small (by omega)
 have s3:=fun y=>(z3 y).small (by omega)
 have s4:=fun y=>(z4 y).small (by omega)
 have s5:=z5.small (by omega)
 have n1:(leftN nodes frm s).length≤100000:=s1.nodes
 have n3:∀y,(unnamedN (leftN (leftN nodes frm s) to nm) y).length≤100000:=fun y=>(s3 y).nodes
 clear z1 z2 z3 z4 z5 hx
 refine acall_ex rfl rfl rfl ?_
 simp only [fn84,E84,eTree,eTreeC,k115,ht,hs,EVN,EVT,EVD,↓reduceIte,Nat.reduceEqDiff,reduceCtorEq,Nat.reduceAdd,Nat.reduceLeDiff,ne_eq,Nat.reduceLT,Int.reduceLT,Int.reduceLE,Int.reduceNeg]
 refine fork_split (fun hb0=>?_) (fun hb0=>?_)
 ·simp only [E84,hb0,EVN,EVT,EVD,↓reduceIte,Nat.reduceEqDiff,reduceCtorEq,Nat.reduceAdd,Nat.reduceLeDiff,ne_eq,Nat.reduceLT,Int.reduceLT,Int.reduceLE,Int.reduceNeg]
  clear s1 s2 s3 s4 s5 n1 n3
  simp_all only [mvN,eTree,eTreeC,BBT,↓reduceIte,reduceCtorEq,bne_self_eq_false]
 simp only [E84,hb0,k118,hn,eNode,eNodeC,EVN,EVT,EVD,↓reduceIte,Nat.reduceEqDiff,reduceCtorEq,Nat.reduceAdd,Nat.reduceLeDiff,ne_eq,Nat.reduceLT,Int.reduceLT,Int.reduceLE,Int.reduceNeg]
 refine fork_split (fun hb1=>?_) (fun hb1=>?_)
 ·simp only [E84,hb1,EVN,EVT,EVD,↓reduceIte,Nat.reduceEqDiff,reduceCtorEq,Nat.reduceAdd,Nat.reduceLeDiff,ne_eq,Nat.reduceLT,Int.reduceLT,Int.reduceLE,Int.reduceNeg]
  clear s1 s2 s3 s4 s5 n1 n3
  simp_all only [mvN,eTree,eTreeC,BBT,↓reduceIte,reduceCtorEq,bne_self_eq_false]
 simp only [E84,hb1,k119,ha,EVN,EVT,EVD,↓reduceIte,Nat.reduceEqDiff,reduceCtorEq,Nat.reduceAdd,Nat.reduceLeDiff,ne_eq,Nat.reduceLT,Int.reduceLT,Int.reduceLE,Int.reduceNeg]
 refine fork_split (fun hb2=>?_) (fun hb2=>?_)
 ·simp only [E84,hb2,EVN,EVT,EVD,↓reduceIte,Nat.reduceEqDiff,reduceCtorEq,Nat.reduceAdd,Nat.reduceLeDiff,ne_eq,Nat.reduceLT,Int.reduceLT,Int.reduceLE,Int.reduceNeg]
  clear s1 s2 s3 s4 s5 n1 n3
  simp_all only [mvN,eTree,eTreeC,BBT,↓reduceIte,reduceCtorEq,bne_self_eq_false]
 simp only [E84,hb2,k120,hd,EVN,EVT,EVD,↓reduceIte,Nat.reduceEqDiff,reduceCtorEq,Nat.reduceAdd,Nat.reduceLeDiff,ne_eq,Nat.reduceLT,Int.reduceLT,Int.reduceLE,Int.reduceNeg]
 rcases namedGo_spec nm (dirN nodes to).1.ents 0 with ⟨h1,h2⟩|⟨m,n,h1,h2,h3⟩
 ·have hu:underN (dirN nodes to).1.ents nm=0:=by simp [underN,h1]
  rw [h2]
  simp only [E84,EVN,EVT,EVD,↓reduceIte,Nat.reduceEqDiff,reduceCtorEq,Nat.reduceAdd,Nat.reduceLeDiff,ne_eq,Nat.reduceLT,Int.reduceLT,Int.reduceLE,Int.reduceNeg]
  repeat' (first|(refine fork_split (fun hb=>?_) (fun hb=>?_)<;>simp only [hb,EVN,E84,k114,hn,ht,eNode,eNodeC,k121,k122,k123,k124,k117,k116,k113,k112,s1,s2,s3,s4,s5,n1,n3,eTree,eTreeC,EVT,EVD,↓reduceIte,Nat.reduceEqDiff,reduceCtorEq,Nat.reduceAdd,Nat.reduceLeDiff,ne_eq,Nat.reduceLT,Int.reduceLT,Int.reduceLE,Int.reduceNeg])|(refine guard_split (fun hb=>?_) (fun hb=>?_)<;>simp only [hb,EVN,E84,k114,hn,ht,eNode,eNodeC,k121,k122,k123,k124,k117,k116,k113,k112,s1,s2,s3,s4,s5,n1,n3,eTree,eTreeC,EVT,EVD,↓reduceIte,Nat.reduceEqDiff,reduceCtorEq,Nat.reduceAdd,Nat.reduceLeDiff,ne_eq,Nat.reduceLT,Int.reduceLT,Int.reduceLE,Int.reduceNeg])|(refine opK_pick (fun hb=>?_) (fun hb=>?_)<;>simp only [hb,EVN,E84,k114,hn,ht,eNode,eNodeC,k121,k122,k123,k124,k117,k116,k113,k112,s1,s2,s3,s4,s5,n1,n3,eTree,eTreeC,EVT,EVD,↓reduceIte,Nat.reduceEqDiff,reduceCtorEq,Nat.reduceAdd,Nat.reduceLeDiff,ne_eq,Nat.reduceLT,Int.reduceLT,Int.reduceLE,Int.reduceNeg]))
  all_goals (clear s1 s2 s3 s4 s5 n1 n3 h2; simp_all only [mvN,moveN,manyN,hu,eTree,eTreeC,BBT,↓reduceIte,reduceCtorEq,bne_self_eq_false]; done)
 ·have hu:underN (dirN nodes to).1.ents nm=n.ino:=by simp [underN,h2]
  rw [h3]
  simp only [E84,h1,eEntC,EVN,EVT,EVD,↓reduceIte,Nat.reduceEqDiff,reduceCtorEq,Nat.reduceAdd,Nat.reduceLeDiff,ne_eq,Nat.reduceLT,Int.reduceLT,Int.reduceLE,Int.reduceNeg]
  repeat' (first|(refine fork_split (fun hb=>?_) (fun hb=>?_)<;>simp only [hb,EVN,E84,k114,hn,ht,eNode,eNodeC,k121,k122,k123,k124,k117,k116,k113,k112,s1,s2,s3,s4,s5,n1,n3,eTree,eTreeC,EVT,EVD,↓reduceIte,Nat.reduceEqDiff,reduceCtorEq,Nat.reduceAdd,Nat.reduceLeDiff,ne_eq,Nat.reduceLT,Int.reduceLT,Int.reduceLE,Int.reduceNeg])|(refine guard_split (fun hb=>?_) (fun hb=>?_)<;>simp only [hb,EVN,E84,k114,hn,ht,eNode,eNodeC,k121,k122,k123,k124,k117,k116,k113,k112,s1,s2,s3,s4,s5,n1,n3,eTree,eTreeC,EVT,EVD,↓reduceIte,Nat.reduceEqDiff,reduceCtorEq,Nat.reduceAdd,Nat.reduceLeDiff,ne_eq,Nat.reduceLT,Int.reduceLT,Int.reduceLE,Int.reduceNeg])|(refine opK_pick (fun hb=>?_) (fun hb=>?_)<;>simp only [hb,EVN,E84,k114,hn,ht,eNode,eNodeC,k121,k122,k123,k124,k117,k116,k113,k112,s1,s2,s3,s4,s5,n1,n3,eTree,eTreeC,EVT,EVD,↓reduceIte,Nat.reduceEqDiff,reduceCtorEq,Nat.reduceAdd,Nat.reduceLeDiff,ne_eq,Nat.reduceLT,Int.reduceLT,Int.reduceLE,Int.reduceNeg]))
  all_goals (clear s1 s2 s3 s4 s5 n1 n3 h3; simp_all only [mvN,moveN,manyN,hu,eTree,eTreeC,BBT,↓reduceIte,reduceCtorEq,bne_self_eq_false]; done)
theorem k84 (nodes:List Node) (next cookie frm:Int) (s:Bytes) (to:Int) (nm:Bytes) (hz:Sz 1000 ⟨nodes,next,cookie⟩) (hs:s.length≤100000) (ha:nm.length≤100000) (M:AMem):callOp (acall tabT) 84 [.agg [eNodes nodes,.int .i64 next,.int .i64 cookie],.int .i64 frm,.str s,.int .i64 to,.str nm] M =
  some (.tuple [eTree (mvN ⟨nodes,next,cookie⟩ frm s to nm).1,.int .i64 (mvN ⟨nodes,next,cookie⟩ frm s to nm).2.1,.int .i64 (mvN ⟨nodes,next,cookie⟩ frm s to nm).2.2],M):=callOp0 (c84 ⟨nodes,next,cookie⟩ frm s to nm hz hs ha) rfl rfl rfl rfl rfl M
end Go.Proofs.YtannopdcbocngaaGreatDoor
namespace Go.Proofs.YtannopdcbocngaaGreatDoor
open Go Go.Abs
attribute [local irreducible] exK opsK opK gK forkK kr acall callOp owhen obind
structure Step.Ok (s:Step):Prop where
 kind:s.kind<256
 a:s.a<256
 b:s.b<256
 n:s.n<256
 m:s.m<256
 data:s.data.length≤100000
def nameOf (n:Nat):Bytes:=match n % 6 with
 |0=>[97]
 |1=>[98]
 |2=>[99]
 |3=>[100]
 |4=>[101]
 |_=>[46,46]
theorem nameOf_len (n:Nat):(nameOf n).length≤100000:=by unfold nameOf; split<;>simp
theorem c80 (n:Nat) (hn:n<256):acall tabT 80 [.int .u8 n] []=some (.str (nameOf n),[]):=by
 refine acall_ex rfl rfl rfl ?_
 have hw:IntKind.i64.wrap (n:Int)=n:=wrapS (by omega) (by omega)
 have hm:(n:Int).tmod 6=((n % 6:Nat):Int):=by rw [Int.tmod_eq_emod_of_nonneg (by omega)]; rfl
 have h6:((6:Int)=0)=False:=by simp
 simp only [fn80,E80,hw,hm,h6,EVN,EVT,EVD,↓reduceIte,Nat.reduceEqDiff,reduceCtorEq,Nat.reduceAdd,Nat.reduceLeDiff,ne_eq,Nat.reduceLT,Int.reduceLT,Int.reduceLE,Int.reduceNeg]
 unfold nameOf
 have hlt:n % 6<6:=Nat.mod_lt _ (by omega)
 generalize n % 6=r at hlt
 match r,hlt with
 |0,_|1,_|2,_|3,_|4,_|5,_=>simp only [E80,List.getElem?_cons_zero,List.getElem?_cons_succ,EVN,EVT,EVD,↓reduceIte,Nat.reduceEqDiff,reduceCtorEq,Nat.reduceAdd,Nat.reduceLeDiff,ne_eq,Nat.reduceLT,Int.reduceLT,Int.reduceLE,Int.reduceNeg]
theorem k80 (n:Nat) (hn:n<256) (M:AMem):callOp (acall tabT) 80 [.int .u8 n] M=some (.str (nameOf n),M):=callOp0 (c80 n hn) rfl rfl rfl rfl rfl M
def inoAt (t:Tree) (n:Nat):Int:=match t.nodes[n % (t.nodes.length+1)]? with
 |some m=>m.ino
 |none=>t.next
theorem c79 (t:Tree) (n:Nat) (hn:n<256) (ht:t.nodes.length≤100000):acall tabT 79 [eTree t,.int .u8 n] []=some (.int .i64 (inoAt t n),[]):=by
 obtain ⟨nodes,next,cookie⟩:=t
 have ht:nodes.length≤100000:=ht
 refine acall_ex rfl rfl rfl ?_
 have hw:IntKind.i64.wrap (n:Int)=n:=wrapS (by omega) (by omega)
 have hw2:IntKind.i64.wrap ((nodes.length:Int)+1)=(nodes.length:Int)+1:=wrapS (by omega) (by omega)
 have h0:(((nodes.length:Int)+1)=0)=False:=by simp; omega
 have hm:(n:Int).tmod ((nodes.length:Int)+1)=((n % (nodes.length+1):Nat):Int):=by rw [Int.tmod_eq_emod_of_nonneg (by omega)]; rfl
 simp only [fn79,E79,eTree,eTreeC,hw,hw2,h0,hm,EVN,EVT,EVD,↓reduceIte,Nat.reduceEqDiff,reduceCtorEq,Nat.reduceAdd,Nat.reduceLeDiff,ne_eq,Nat.reduceLT,Int.reduceLT,Int.reduceLE,Int.reduceNeg]
 unfold inoAt
 simp only
 generalize n % (nodes.length+1)=r
 refine fork_split (fun hb=>?_) (fun hb=>?_)
 ·have hlt:r<nodes.length:=by simpa using hb
  have hx:=List.getElem?_eq_getElem hlt
  simp only [E79,hx,eNodeC,EVN,EVT,EVD,↓reduceIte,Nat.reduceEqDiff,reduceCtorEq,Nat.reduceAdd,Nat.reduceLeDiff,ne_eq,Nat.reduceLT,Int.reduceLT,Int.reduceLE,Int.reduceNeg]
 ·have hge:nodes[r]?=none:=List.getElem?_eq_none (by simpa using hb)
  simp only [E79,hge,EVN,EVT,EVD,↓reduceIte,Nat.reduceEqDiff,reduceCtorEq,Nat.reduceAdd,Nat.reduceLeDiff,ne_eq,Nat.reduceLT,Int.reduceLT,Int.reduceLE,Int.reduceNeg]
theorem k79 (nodes:List Node) (next cookie:Int) (n:Nat) (hn:n<256) (h:nodes.length≤100000) (M:AMem):callOp (acall tabT) 79 [.agg [eNodes nodes,.int .i64 next,.int .i64 cookie],.int .u8 n] M=some (.int .i64 (inoAt ⟨nodes,next,cookie⟩ n),M) :=
 callOp0 (c79 ⟨nodes,next,cookie⟩ n hn h) rfl rfl rfl rfl rfl M
def greatN (l:List Step):Bool:=decide ((60:Int)<l.length)||l.any fun s=>decide ((5000:Int)<s.data.length)
theorem loop11 {steps:List Step} (hs:steps.length≤100000) {k:List K} {R:Bool→Option (AVal×AMem)}
  (hx:∀e,kr (acall tabT) [.tmp 2] 0 k ⟨.exit 0,e,[]⟩=R false) (hr:kr (acall tabT) [.tmp 2] 0 k ⟨.ret,[(2,.bool true)],[]⟩=R true) :
  ∀(l pre:List Step),steps=pre++l→exK (acall tabT) [.tmp 2] 0 k (.loop [0,3] lb11_0) [(0,.slice .sh (steps.map eStep)),(3,.int .i64 pre.length)] []=R (l.any fun s=>decide ((5000:Int)<s.data.length)):=by
 intro l
 induction l with
 |nil =>
  intro pre h
  rw [exK_loop]
  simp only [E11,lt_end h,EVN,EVT,EVD,↓reduceIte,Nat.reduceEqDiff,reduceCtorEq,Nat.reduceAdd,Nat.reduceLeDiff,ne_eq,Nat.reduceLT,Int.reduceLT,Int.reduceLE,Int.reduceNeg]
  exact hx _
 |cons n r ih =>
  intro pre h
  rw [exK_loop]
  have hlen:pre.length+1≤100000:=by rw [h] at hs; simp at hs; omega
  have hw:IntKind.i64.wrap ((pre.length:Int)+1)=((pre++[n]).length:Int):=by rw [wrapS (by omega) (by omega)]; exact step_len
  have hi:=ih (pre++[n]) (by rw [h]; simp)
  simp only [List.length_append,List.length_cons,List.length_nil] at hi
  simp only [E11,lt_mid h,at_mid h,eStepC,EVN,EVT,EVD,↓reduceIte,Nat.reduceEqDiff,reduceCtorEq,Nat.reduceAdd,Nat.reduceLeDiff,ne_eq,Nat.reduceLT,Int.reduceLT,Int.reduceLE,Int.reduceNeg]
  refine fork_split (fun hb=>?_) (fun hb=>?_)
  ·simp only [E11,List.any_cons,hb,Bool.true_or,EVN,EVT,EVD,↓reduceIte,Nat.reduceEqDiff,reduceCtorEq,Nat.reduceAdd,Nat.reduceLeDiff,ne_eq,Nat.reduceLT,Int.reduceLT,Int.reduceLE,Int.reduceNeg]
   exact hr
  ·simp only [E11,List.any_cons,hb,Bool.false_or,hw,EVN,EVT,EVD,↓reduceIte,Nat.reduceEqDiff,reduceCtorEq,Nat.reduceAdd,Nat.reduceLeDiff,ne_eq,Nat.reduceLT,Int.reduceLT,Int.reduceLE,Int.reduceNeg]
   exact hi
theorem c11 (steps:List Step) (hs:steps.length≤100000):acall tabT 11 [.slice .sh (steps.map eStep)] []=some (.bool (greatN steps),[]):=by
 refine acall_ex rfl rfl rfl ?_
 simp only [fn11,E11,EVN,EVT,EVD,↓reduceIte,Nat.reduceEqDiff,reduceCtorEq,Nat.reduceAdd,Nat.reduceLeDiff,ne_eq,Nat.reduceLT,Int.reduceLT,Int.reduceLE,Int.reduceNeg]
 unfold greatN
 refine fork_split (fun hb=>?_) (fun hb=>?_)
 ·simp only [E11,hb,Bool.true_or,EVN,EVT,EVD,↓reduceIte,Nat.reduceEqDiff,reduceCtorEq,Nat.reduceAdd,Nat.reduceLeDiff,ne_eq,Nat.reduceLT,Int.reduceLT,Int.reduceLE,Int.reduceNeg]
 ·simp only [E11,hb,Bool.false_or,EVN,EVT,EVD,↓reduceIte,Nat.reduceEqDiff,reduceCtorEq,Nat.reduceAdd,Nat.reduceLeDiff,ne_eq,Nat.reduceLT,Int.reduceLT,Int.reduceLE,Int.reduceNeg]
  exact loop11 (R:=fun b=>some (.bool b,[])) hs (fun e=>by simp only [E11,EVN,EVT,EVD,↓reduceIte,Nat.reduceEqDiff,reduceCtorEq,Nat.reduceAdd,Nat.reduceLeDiff,ne_eq,Nat.reduceLT,Int.reduceLT,Int.reduceLE,Int.reduceNeg]) (by simp only [E11,EVN,EVT,EVD,↓reduceIte,Nat.reduceEqDiff,reduceCtorEq,Nat.reduceAdd,Nat.reduceLeDiff,ne_eq,Nat.reduceLT,Int.reduceLT,Int.reduceLE,Int.reduceNeg]) steps [] rfl
def doneN (t:Tree) (s:Step):Tree×Int×Int :=
 if (((s.kind % 8:Nat):Int)==0||((s.kind % 8:Nat):Int)==1)=true then addN t (inoAt t s.a) (nameOf s.n) (((s.m % 2:Nat):Int)+1) else
 if (((s.kind % 8:Nat):Int)==2)=true then ((lnN t (inoAt t s.b) (inoAt t s.a) (nameOf s.n)).1,0,(lnN t (inoAt t s.b) (inoAt t s.a) (nameOf s.n)).2) else
 if (((s.kind % 8:Nat):Int)==3)=true then unN t (inoAt t s.a) (nameOf s.n) else
 if (((s.kind % 8:Nat):Int)==4||((s.kind % 8:Nat):Int)==5)=true then mvN t (inoAt t s.a) (nameOf s.n) (inoAt t s.b) (nameOf s.m) else
 if (((s.kind % 8:Nat):Int)==6)=true then ((putN t (inoAt t s.a) s.data).1,0,(putN t (inoAt t s.a) s.data).2) else
 ((freeN t (inoAt t s.a)).1,0,(freeN t (inoAt t s.a)).2)
set_option maxHeartbeats 2000000 in
theorem c41 (t:Tree) (s:Step) (hz:Sz 1000 t) (hs:s.Ok):acall tabT 41 [eTree t,eStep s] []=some (.tuple [eTree (doneN t s).1,.int .i64 (doneN t s).2.1,.int .i64 (doneN t s).2.2],[]):=by
 obtain ⟨nodes,next,cookie⟩:=t
 obtain ⟨kind,a,b,n,m,data⟩:=s
 obtain ⟨h1,h2,h3,h4,h5,h6⟩:=hs
 simp only at h1 h2 h3 h4 h5 h6
 have ht:Small ⟨nodes,next,cookie⟩:=hz.small (by omega)
 have hn:nodes.length≤100000:=ht.nodes
 have l1:=nameOf_len n
 have l2:=nameOf_len m
 have hm8:(kind:Int).tmod 8=((kind % 8:Nat):Int):=by rw [Int.tmod_eq_emod_of_nonneg (by omega)]; rfl
 have hm2:(m:Int).tmod 2=((m % 2:Nat):Int):=by rw [Int.tmod_eq_emod_of_nonneg (by omega)]; rfl
 have hw:IntKind.i64.wrap (m:Int)=m:=wrapS (by omega) (by omega)
 have hw2:IntKind.i64.wrap (((m % 2:Nat):Int)+1)=((m % 2:Nat):Int)+1:=wrapS (by omega) (by omega)
 have e8:((8:Int)=0)=False:=by simp
 have e2:((2:Int)=0)=False:=by simp
 refine acall_ex rfl rfl rfl ?_
 simp only [fn41,E41,eTree,eTreeC,eStep,eStepC,k79,k80,hn,h2,h3,h4,h5,hm8,e8,EVN,EVT,EVD,↓reduceIte,Nat.reduceEqDiff,reduceCtorEq,Nat.reduceAdd,Nat.reduceLeDiff,ne_eq,Nat.reduceLT,Int.reduceLT,Int.reduceLE,Int.reduceNeg]
 repeat' (first|(refine fork_split (fun hb=>?_) (fun hb=>?_)<;>simp only [hb,EVN,E41,k79,k80,hn,h2,h3,h4,h5,hm8,hm2,e8,e2,hw,hw2,k81,k82,k83,k84,k85,k86,hz,ht,l1,l2,h6,eTree,eTreeC,EVT,EVD,↓reduceIte,Nat.reduceEqDiff,reduceCtorEq,Nat.reduceAdd,Nat.reduceLeDiff,ne_eq,Nat.reduceLT,Int.reduceLT,Int.reduceLE,Int.reduceNeg])|(refine guard_split (fun hb=>?_) (fun hb=>?_)<;>simp only [hb,EVN,E41,k79,k80,hn,h2,h3,h4,h5,hm8,hm2,e8,e2,hw,hw2,k81,k82,k83,k84,k85,k86,hz,ht,l1,l2,h6,eTree,eTreeC,EVT,EVD,↓reduceIte,Nat.reduceEqDiff,reduceCtorEq,Nat.reduceAdd,Nat.reduceLeDiff,ne_eq,Nat.reduceLT,Int.reduceLT,Int.reduceLE,Int.reduceNeg])|(refine opK_pick (fun hb=>?_) (fun hb=>?_)<;>simp only [hb,EVN,E41,k79,k80,hn,h2,h3,h4,h5,hm8,hm2,e8,e2,hw,hw2,k81,k82,k83,k84,k85,k86,hz,ht,l1,l2,h6,eTree,eTreeC,EVT,EVD,↓reduceIte,Nat.reduceEqDiff,reduceCtorEq,Nat.reduceAdd,Nat.reduceLeDiff,ne_eq,Nat.reduceLT,Int.reduceLT,Int.reduceLE,Int.reduceNeg]))
 all_goals (simp_all only [doneN,eTree,eTreeC,BBT,↓reduceIte,reduceCtorEq,bne_self_eq_false]; done)
end Go.Proofs.YtannopdcbocngaaGreatDoor
namespace Go.Proofs.YtannopdcbocngaaGreatDoor
open Go Go.Abs
attribute [local irreducible] exK opsK opK gK forkK kr acall callOp owhen obind
theorem insL_len (e:Ent):∀(l out:List Ent) (d:Bool),(insL e l out d).1.length+(if (insL e l out d).2=true then 0 else 1)≤out.length+l.length+(if d=true then 0 else 1)
 | [],out,d=>by simp only [insL,List.length_nil,Nat.add_zero]; exact Nat.le_refl _
 |m::r,out,d=>by
  rw [insL]
  refine Nat.le_trans (insL_len e r _ _) ?_
  cases d<;>cases h1:gtB m.name e.name<;>simp<;>omega
theorem insE_len (l:List Ent) (e:Ent):(insE l e).length≤l.length+1:=by
 have:=insL_len e l [] false
 unfold insE
 split at this<;>simp_all
theorem Sz.entered {b:Nat} {t:Tree} (h:Sz b t) (ino:Int) (s:Bytes) (of:Int):Sz (b+1) (enteredN t ino s of) :=
 h.with (n:={ nodeN t.nodes ino with ents:=insE (nodeN t.nodes ino).ents ⟨s,of,t.cookie⟩ }) (Nat.le_trans (insE_len _ _) (Nat.succ_le_succ (h.find ino).1)) (h.find ino).2 t.next (w64 (t.cookie+1))
theorem Sz.add {b:Nat} {t:Tree} (h:Sz b t) (ino:Int) (s:Bytes) (kind:Int):Sz (b+5) (addN t ino s kind).1:=by
 unfold addN
 split
 ·exact h.up (by omega)
 ·split
  ·exact h.up (by omega)
  ·split
   ·exact h.up (by omega)
   ·exact ((h.with (n:=⟨t.next,kind,1,[],[],if (kind==2)=true then ino else 0⟩) (by simp) (by simp) (w64 (t.next+1)) t.cookie).entered ino s t.next).up (by omega)
theorem Sz.ln {b:Nat} {t:Tree} (h:Sz b t) (ino to:Int) (s:Bytes):Sz (b+5) (lnN t ino to s).1:=by
 unfold lnN
 split
 ·exact h.up (by omega)
 ·split
  ·exact h.up (by omega)
  ·split
   ·exact h.up (by omega)
   ·exact ((h.with (n:={ nodeN t.nodes ino with links:=w64 ((nodeN t.nodes ino).links+1) }) (Nat.le_succ_of_le (h.find ino).1) (h.find ino).2 t.next t.cookie).entered to s ino).up (by omega)
theorem Sz.un {b:Nat} {t:Tree} (h:Sz b t) (ino:Int) (s:Bytes):Sz (b+5) (unN t ino s).1:=by
 unfold unN
 split
 ·exact h.up (by omega)
 ·split
  ·exact h.up (by omega)
  ·exact ((h.left ino s t.next t.cookie).unnamed _ t.next t.cookie).up (by omega)
theorem Sz.put {b:Nat} {t:Tree} (h:Sz b t) (ino:Int) (data:Bytes) (hd:data.length≤100000):Sz (b+5) (putN t ino data).1:=by
 unfold putN
 split
 ·exact h.up (by omega)
 ·split
  ·exact h.up (by omega)
  ·split
   ·exact h.up (by omega)
   ·exact (h.with (n:={ nodeN t.nodes ino with data:=data }) (Nat.le_succ_of_le (h.find ino).1) hd t.next t.cookie).up (by omega)
theorem Sz.free {b:Nat} {t:Tree} (h:Sz b t) (ino:Int):Sz (b+5) (freeN t ino).1:=by
 unfold freeN
 split
 ·exact h.up (by omega)
 ·split
  ·exact h.up (by omega)
  ·split
   ·exact h.up (by omega)
   ·exact (h.without ino t.next t.cookie).up (by omega)
theorem Sz.move {b:Nat} {t:Tree} (h:Sz b t) (frm:Int) (s:Bytes) (to:Int) (nm:Bytes) (ino y:Int):Sz (b+5) (moveN t frm s to nm ino y):=by
 unfold moveN
 have z1:=h.left frm s t.next t.cookie
 have z3:=(z1.left to nm t.next t.cookie).unnamed y t.next t.cookie
 have z:Sz (b+3) ⟨if (y != 0)=true then unnamedN (leftN (leftN t.nodes frm s) to nm) y else leftN t.nodes frm s,t.next,t.cookie⟩:=by
  split
  ·exact z3
  ·exact z1.up (by omega)
 split
 ·exact ((z.with (n:={ nodeN t.nodes ino with up:=to }) (Nat.le_trans (h.find ino).1 (by omega)) (h.find ino).2 t.next t.cookie).entered to nm ino).up (by omega)
 ·exact (z.entered to nm ino).up (by omega)
theorem Sz.mv {b:Nat} {t:Tree} (h:Sz b t) (frm:Int) (s:Bytes) (to:Int) (nm:Bytes):Sz (b+5) (mvN t frm s to nm).1:=by
 unfold mvN
 repeat' split
 all_goals first
  |exact h.up (by omega)
  |exact h.move frm s to nm _ _
theorem Sz.done {b:Nat} {t:Tree} (h:Sz b t) (s:Step) (hs:s.Ok):Sz (b+5) (doneN t s).1:=by
 unfold doneN
 repeat' split
 all_goals first
  |exact h.add _ _ _
  |exact h.ln _ _ _
  |exact h.un _ _
  |exact h.mv _ _ _ _
  |exact h.put _ _ hs.data
  |exact h.free _
def madeN (l:List Step):Tree:=l.foldl (fun t s=>(doneN t s).1) newN
theorem Sz.newN:Sz 1 newN:=⟨by simp [Go.Proofs.YtannopdcbocngaaGreatDoor.newN],fun n hn=>by simp [Go.Proofs.YtannopdcbocngaaGreatDoor.newN] at hn; subst hn; simp,fun n hn=>by simp [Go.Proofs.YtannopdcbocngaaGreatDoor.newN] at hn; subst hn; simp⟩
theorem k41 (nodes:List Node) (next cookie:Int) (s:Step) (hz:Sz 1000 ⟨nodes,next,cookie⟩) (hs:s.Ok) (M:AMem):callOp (acall tabT) 41 [.agg [eNodes nodes,.int .i64 next,.int .i64 cookie],.agg (eStepC s)] M =
  some (.tuple [eTree (doneN ⟨nodes,next,cookie⟩ s).1,.int .i64 (doneN ⟨nodes,next,cookie⟩ s).2.1,.int .i64 (doneN ⟨nodes,next,cookie⟩ s).2.2],M):=callOp0 (c41 ⟨nodes,next,cookie⟩ s hz hs) rfl rfl rfl rfl rfl M
theorem loop14 {steps:List Step} (hl:steps.length≤100) (ho:∀s,s∈steps→s.Ok) {k:List K} {R:Tree→Option (AVal×AMem)}
  (hx:∀t v q,kr (acall tabT) [.cellA 2 3] 0 k ⟨.exit 0,[(0,.slice .sh (steps.map eStep)),(2,.ptr 0 0),(3,.ptr 1 0),(4,v),(12,q)],[.cells zT,.cells (eTreeC t)]⟩=R t) :
  ∀(l pre:List Step) (t:Tree),steps=pre++l→Sz (1+5*pre.length) t→exK (acall tabT) [.cellA 2 3] 0 k (.loop [0,2,3,4] lb14_0) [(0,.slice .sh (steps.map eStep)),(2,.ptr 0 0),(3,.ptr 1 0),(4,.int .i64 pre.length)] [.cells zT,.cells (eTreeC t)]=R (l.foldl (fun t s=>(doneN t s).1) t):=by
 intro l
 induction l with
 |nil =>
  intro pre t h hz
  rw [exK_loop]
  simp only [E14,lt_end h,EVN,EVT,EVD,↓reduceIte,Nat.reduceEqDiff,reduceCtorEq,Nat.reduceAdd,Nat.reduceLeDiff,ne_eq,Nat.reduceLT,Int.reduceLT,Int.reduceLE,Int.reduceNeg]
  exact hx _ _ _
 |cons n r ih =>
  intro pre t h hz
  have hlen:pre.length+1≤100:=by rw [h] at hl; simp at hl; omega
  have hw:IntKind.i64.wrap ((pre.length:Int)+1)=((pre++[n]).length:Int):=by rw [wrapS (by omega) (by omega)]; exact step_len
  have hok:n.Ok:=ho n (by rw [h]; simp)
  have hd:Sz (1+5*(pre++[n]).length) (doneN t n).1:=(hz.done n hok).up (by simp; omega)
  have hi:=ih (pre++[n]) (doneN t n).1 (by rw [h]; simp) hd
  have hz':Sz 1000 ⟨t.nodes,t.next,t.cookie⟩:=hz.up (by omega)
  have ht4:List.take 6 (eStepC n)=eStepC n:=rfl
  have hsh:List.map AVal.shut (eStepC n)=eStepC n:=rfl
  have hid:List.flatMap AVal.ids1 (eStepC n)=[]:=rfl
  simp only [List.length_append,List.length_cons,List.length_nil] at hi
  rw [exK_loop,List.foldl_cons]
  simp only [E14,lt_mid h,at_mid h,eTreeC,zT,k41,hz',hok,ht4,hsh,hid,eTree,hw,EVN,EVT,EVD,↓reduceIte,Nat.reduceEqDiff,reduceCtorEq,Nat.reduceAdd,Nat.reduceLeDiff,ne_eq,Nat.reduceLT,Int.reduceLT,Int.reduceLE,Int.reduceNeg]
  exact hi
theorem c14 (steps:List Step) (hl:steps.length≤100) (ho:∀s,s∈steps→s.Ok):acall tabT 14 [.slice .sh (steps.map eStep)] []=some (eTree (madeN steps),[]):=by
 refine acall_ex rfl rfl rfl ?_
 simp only [fn14,E14,k40,eTree,eTreeC,EVN,EVT,EVD,↓reduceIte,Nat.reduceEqDiff,reduceCtorEq,Nat.reduceAdd,Nat.reduceLeDiff,ne_eq,Nat.reduceLT,Int.reduceLT,Int.reduceLE,Int.reduceNeg]
 exact loop14 (R:=fun t=>some (eTree t,[])) hl ho (fun t v q=>by simp only [E14,zT,eTree,eTreeC,EVN,EVT,EVD,↓reduceIte,Nat.reduceEqDiff,reduceCtorEq,Nat.reduceAdd,Nat.reduceLeDiff,ne_eq,Nat.reduceLT,Int.reduceLT,Int.reduceLE,Int.reduceNeg]) steps [] newN rfl Sz.newN
theorem k14 (steps:List Step) (hl:steps.length≤100) (ho:∀s,s∈steps→s.Ok) (M:AMem):callOp (acall tabT) 14 [.slice .sh (steps.map eStep)] M=some (eTree (madeN steps),M):=callOp0 (c14 steps hl ho) rfl rfl rfl rfl rfl M
end Go.Proofs.YtannopdcbocngaaGreatDoor
namespace Go.Proofs.YtannopdcbocngaaGreatDoor
open Go Go.Abs
attribute [local irreducible] exK opsK opK gK forkK kr acall callOp owhen obind
structure LowI (nodes:List Node) (ino:Int) (b:Nat):Prop where
 le:b≤nodes.length
 lt:∀h n,nodes[h]?=some n→(n.ino<ino↔h<b)
def isAt (nodes:List Node) (ino:Int) (b:Nat):Bool:=match nodes[b]? with
 |some n=>n.ino==ino
 |none=>false
end Go.Proofs.YtannopdcbocngaaGreatDoor
namespace Go.Proofs.YtannopdcbocngaaGreatDoor
open Go Go.Abs
attribute [local irreducible] exK opsK opK gK forkK kr acall callOp owhen obind
def Asc (nodes:List Node):Prop:=nodes.Pairwise fun a b=>a.ino<b.ino
def lowB (nodes:List Node) (ino:Int):Nat:=(nodes.takeWhile fun n=>decide (n.ino<ino)).length
theorem lowI_of {nodes:List Node} (h:Asc nodes) (ino:Int):LowI nodes ino (lowB nodes ino):=by
 unfold lowB
 induction nodes with
 |nil=>exact ⟨by simp,fun h n hn=>by simp at hn⟩
 |cons a r ih =>
  obtain ⟨h1,h2⟩:=List.pairwise_cons.1 h
  obtain ⟨i1,i2⟩:=ih h2
  by_cases ha:a.ino<ino
  ·rw [List.takeWhile_cons,if_pos (by simpa using ha)]
   refine ⟨by simpa using i1,fun k n hn=>?_⟩
   cases k with
   |zero=>simp at hn; subst hn; simp [ha]
   |succ k=>rw [i2 k n (by simpa using hn)]; simp
  ·rw [List.takeWhile_cons,if_neg (by simpa using ha)]
   refine ⟨by simp,fun k n hn=>?_⟩
   simp only [List.length_nil,Nat.not_lt_zero,iff_false]
   cases k with
   |zero=>simp at hn; subst hn; exact ha
   |succ k =>
    have:=h1 n (List.mem_of_getElem? (by simpa using hn))
    omega
theorem at_find {nodes:List Node} (h:Asc nodes) (ino:Int):(isAt nodes ino (lowB nodes ino)=true∧∃n,nodes[lowB nodes ino]?=some n∧find nodes ino=some n∧n.ino=ino)∨(isAt nodes ino (lowB nodes ino)=false∧find nodes ino=none):=by
 obtain ⟨l1,l2⟩:=lowI_of h ino
 cases hf:find nodes ino with
 |some n =>
  left
  obtain ⟨hm,he⟩:=find_mem hf
  obtain ⟨k,hk⟩:=List.getElem?_of_mem hm
  have hkb:¬k<lowB nodes ino:=fun hc=>by have:=(l2 k n hk).2 hc; omega
  have hb:lowB nodes ino<nodes.length:=by have:=(List.getElem?_eq_some_iff.1 hk).1; omega
  have hx:=List.getElem?_eq_getElem hb
  have hnl:¬nodes[lowB nodes ino].ino<ino:=fun hc=>Nat.lt_irrefl _ ((l2 _ _ hx).1 hc)
  have hke:k=lowB nodes ino:=by
   rcases Nat.lt_or_ge (lowB nodes ino) k with hlt|hge
   ·have hkl:=(List.getElem?_eq_some_iff.1 hk).1
    have h3:=List.pairwise_iff_getElem.1 h _ _ hb hkl hlt
    have h4:nodes[k]=n:=by rw [List.getElem?_eq_getElem hkl] at hk; injection hk
    rw [h4] at h3
    omega
   ·omega
  subst hke
  exact ⟨by unfold isAt; rw [hk]; simp [he],n,hk,rfl,he⟩
 |none =>
  right
  refine ⟨?_,rfl⟩
  unfold isAt
  split
  ·rename_i n hn
   have:=List.find?_eq_none.1 hf n (List.mem_of_getElem? hn)
   simpa using this
  ·rfl
end Go.Proofs.YtannopdcbocngaaGreatDoor
namespace Go.Proofs.YtannopdcbocngaaGreatDoor
open Go Go.Abs
attribute [local irreducible] exK opsK opK gK forkK kr acall callOp owhen obind
structure LowE (ents:List Ent) (s:Bytes) (b:Nat):Prop where
 le:b≤ents.length
 lt:∀h n,ents[h]?=some n→(strLt n.name s=true↔h<b)
def isAtE (ents:List Ent) (s:Bytes) (b:Nat):Bool:=match ents[b]? with
 |some n=>n.name==s
 |none=>false
def AscE (l:List Ent):Prop:=l.Pairwise fun a b=>strLt a.name b.name=true
def lowE (l:List Ent) (s:Bytes):Nat:=(l.takeWhile fun n=>strLt n.name s).length
end Go.Proofs.YtannopdcbocngaaGreatDoor
namespace Go.Proofs.YtannopdcbocngaaGreatDoor
open Go Go.Abs
attribute [local irreducible] exK opsK opK gK forkK kr acall callOp owhen obind
theorem strLt_irrefl:∀a:Bytes,strLt a a=false
 | []=>rfl
 |a::x=>by simp [strLt,strLt_irrefl x,UInt8.lt_irrefl]
theorem strLt_trans:∀ {a b c:Bytes},strLt a b=true→strLt b c=true→strLt a c=true
 | [],b,[],_,h2=>by cases b<;>simp [strLt] at h2
 | [],_,_::_,_,_=>rfl
 |_::_,[],_,h1,_=>by simp [strLt] at h1
 |_::_,_::_,[],_,h2=>by simp [strLt] at h2
 |a::x,b::y,c::z,h1,h2=>by
  simp only [strLt,Bool.or_eq_true,Bool.and_eq_true,decide_eq_true_eq,beq_iff_eq] at h1 h2 ⊢
  simp only [UInt8.lt_iff_toNat_lt] at h1 h2 ⊢
  rcases h1 with h1|⟨h1,h1'⟩
  ·rcases h2 with h2|⟨h2,_⟩
   ·left; omega
   ·left; rw [←h2]; exact h1
  ·rcases h2 with h2|⟨h2,h2'⟩
   ·left; rw [h1]; exact h2
   ·right; exact ⟨h1.trans h2,strLt_trans h1' h2'⟩
theorem lowE_of {l:List Ent} (h:AscE l) (s:Bytes):LowE l s (lowE l s):=by
 unfold lowE
 induction l with
 |nil=>exact ⟨by simp,fun h n hn=>by simp at hn⟩
 |cons a r ih =>
  obtain ⟨h1,h2⟩:=List.pairwise_cons.1 h
  obtain ⟨i1,i2⟩:=ih h2
  by_cases ha:strLt a.name s=true
  ·rw [List.takeWhile_cons,if_pos ha]
   refine ⟨by simpa using i1,fun k n hn=>?_⟩
   cases k with
   |zero=>simp at hn; subst hn; simp [ha]
   |succ k=>rw [i2 k n (by simpa using hn)]; simp
  ·rw [List.takeWhile_cons,if_neg ha]
   refine ⟨by simp,fun k n hn=>?_⟩
   simp only [List.length_nil,Nat.not_lt_zero,iff_false]
   cases k with
   |zero=>simp at hn; subst hn; exact ha
   |succ k=>exact fun hc=>ha (strLt_trans (h1 n (List.mem_of_getElem? (by simpa using hn))) hc)
theorem findE_mem {l:List Ent} {s:Bytes} {e:Ent} (h:findE l s=some e):e∈l∧e.name=s:=by
 unfold findE at h
 exact ⟨List.mem_of_find?_eq_some h,by simpa using List.find?_some h⟩
theorem at_findE {l:List Ent} (h:AscE l) (s:Bytes):(isAtE l s (lowE l s)=true∧∃n,l[lowE l s]?=some n∧findE l s=some n∧n.name=s)∨(isAtE l s (lowE l s)=false∧findE l s=none):=by
 obtain ⟨l1,l2⟩:=lowE_of h s
 cases hf:findE l s with
 |some n =>
  left
  obtain ⟨hm,he⟩:=findE_mem hf
  obtain ⟨k,hk⟩:=List.getElem?_of_mem hm
  have hkb:¬k<lowE l s:=fun hc=>by have:=(l2 k n hk).2 hc; rw [he,strLt_irrefl] at this; cases this
  have hb:lowE l s<l.length:=by have:=(List.getElem?_eq_some_iff.1 hk).1; omega
  have hx:=List.getElem?_eq_getElem hb
  have hnl:¬strLt l[lowE l s].name s=true:=fun hc=>Nat.lt_irrefl _ ((l2 _ _ hx).1 hc)
  have hke:k=lowE l s:=by
   rcases Nat.lt_or_ge (lowE l s) k with hlt|hge
   ·have hkl:=(List.getElem?_eq_some_iff.1 hk).1
    have h3:=List.pairwise_iff_getElem.1 h _ _ hb hkl hlt
    have h4:l[k]=n:=by rw [List.getElem?_eq_getElem hkl] at hk; injection hk
    rw [h4,he] at h3
    exact absurd h3 hnl
   ·omega
  subst hke
  exact ⟨by unfold isAtE; rw [hk]; simp [he],n,hk,rfl,he⟩
 |none =>
  right
  refine ⟨?_,rfl⟩
  unfold isAtE
  split
  ·rename_i n hn
   have:=List.find?_eq_none.1 hf n (List.mem_of_getElem? hn)
   simpa using this
  ·rfl
structure Srt (t:Tree):Prop where
 asc:Asc t.nodes
 ents:∀n,n∈t.nodes→AscE n.ents
theorem Srt.dir {t:Tree} (h:Srt t) (ino:Int):AscE (dirN t.nodes ino).1.ents:=by
 unfold dirN
 split
 ·exact List.Pairwise.nil
 ·rename_i n hn
  split
  ·exact h.ents n (find_mem hn).1
  ·exact List.Pairwise.nil
end Go.Proofs.YtannopdcbocngaaGreatDoor
namespace Go.Proofs.YtannopdcbocngaaGreatDoor
open Go Go.Abs
attribute [local irreducible] exK opsK opK gK forkK kr acall callOp owhen obind
theorem withL_pre (n:Node) (rest:List Node):∀(pre out:List Node),(∀m,m∈pre→m.ino<n.ino)→withL n (pre++rest) out false=withL n rest (out++pre) false
 | [],out,_=>by simp
 |m::r,out,h=>by
  have hm:=h m (List.mem_cons_self ..)
  have h1:¬n.ino≤m.ino:=by omega
  have h2:¬m.ino=n.ino:=by omega
  rw [List.cons_append,withL]
  simp only [ge_iff_le,h1,h2,decide_false,Bool.and_false,Bool.or_false,Bool.false_eq_true,if_false]
  rw [withL_pre n rest r _ fun x hx=>h x (List.mem_cons_of_mem _ hx)]
  simp
theorem withL_post (n:Node):∀(rest out:List Node),(∀m,m∈rest→n.ino<m.ino)→withL n rest out true=(out++rest,true)
 | [],out,_=>by simp [withL]
 |m::r,out,h=>by
  have hm:=h m (List.mem_cons_self ..)
  have h2:¬m.ino=n.ino:=by omega
  rw [withL]
  simp only [Bool.not_true,Bool.false_and,h2,Bool.true_or,Bool.false_eq_true,if_false]
  rw [withL_post n r _ fun x hx=>h x (List.mem_cons_of_mem _ hx)]
  simp
theorem take_low {nodes:List Node} {ino:Int} {b:Nat} (h:LowI nodes ino b):∀m,m∈nodes.take b→m.ino<ino:=fun m hm=>by
 obtain ⟨k,hk⟩:=List.getElem?_of_mem hm
 rw [List.getElem?_take] at hk
 split at hk
 ·rename_i hlt; exact (h.lt k m hk).2 hlt
 ·cases hk
theorem drop_high {nodes:List Node} {ino:Int} {b:Nat} (h:LowI nodes ino b):∀m,m∈nodes.drop b→ino≤m.ino:=fun m hm=>by
 obtain ⟨k,hk⟩:=List.getElem?_of_mem hm
 rw [List.getElem?_drop] at hk
 have:=h.lt _ m hk
 have hn:¬b+k<b:=by omega
 have:=fun hc=>hn (this.1 hc)
 omega
theorem withN_ins {nodes:List Node} (h:Asc nodes) {n:Node} (hf:find nodes n.ino=none):withN nodes n=nodes.take (lowB nodes n.ino)++n::nodes.drop (lowB nodes n.ino):=by
 have hl:=lowI_of h n.ino
 have hd:∀m,m∈nodes.drop (lowB nodes n.ino)→n.ino<m.ino:=fun m hm=>by
  have h1:=drop_high hl m hm
  have h2:=List.find?_eq_none.1 hf m (List.mem_of_mem_drop hm)
  have:¬m.ino=n.ino:=by simpa using h2
  omega
 unfold withN
 rw [show withL n nodes [] false=withL n (nodes.take (lowB nodes n.ino)++nodes.drop (lowB nodes n.ino)) [] false by rw [List.take_append_drop]]
 rw [withL_pre n _ _ _ (take_low hl)]
 generalize nodes.drop (lowB nodes n.ino)=rest at hd
 cases rest with
 |nil=>simp [withL]
 |cons m r =>
  have hm:=hd m (List.mem_cons_self ..)
  have h1:n.ino≤m.ino:=by omega
  have h2:¬m.ino=n.ino:=by omega
  rw [withL]
  simp only [ge_iff_le,h1,h2,decide_true,Bool.not_false,Bool.and_true,Bool.or_true,if_true,if_false]
  rw [withL_post n r _ fun x hx=>hd x (List.mem_cons_of_mem _ hx)]
  simp
theorem withN_set {nodes:List Node} (h:Asc nodes) {n o:Node} (ho:nodes[lowB nodes n.ino]?=some o) (he:o.ino=n.ino):withN nodes n=nodes.set (lowB nodes n.ino) n:=by
 have hl:=lowI_of h n.ino
 have hlt:=(List.getElem?_eq_some_iff.1 ho).1
 have hdr:nodes.drop (lowB nodes n.ino)=o::nodes.drop (lowB nodes n.ino+1):=by
  rw [List.drop_eq_getElem_cons hlt]
  rw [List.getElem?_eq_getElem hlt] at ho; injection ho with ho; rw [ho]
 have hd:∀m,m∈nodes.drop (lowB nodes n.ino+1)→n.ino<m.ino:=fun m hm=>by
  obtain ⟨k,hk⟩:=List.getElem?_of_mem hm
  rw [List.getElem?_drop] at hk
  have hkl:=(List.getElem?_eq_some_iff.1 hk).1
  have h3:=List.pairwise_iff_getElem.1 h _ _ hlt hkl (by omega)
  have h4:nodes[lowB nodes n.ino+1+k]=m:=by rw [List.getElem?_eq_getElem hkl] at hk; injection hk
  have h5:nodes[lowB nodes n.ino]=o:=by rw [List.getElem?_eq_getElem hlt] at ho; injection ho
  rw [h4,h5] at h3
  omega
 unfold withN
 rw [show withL n nodes [] false=withL n (nodes.take (lowB nodes n.ino)++nodes.drop (lowB nodes n.ino)) [] false by rw [List.take_append_drop]]
 rw [withL_pre n _ _ _ (take_low hl),hdr,withL]
 simp only [ge_iff_le,he,Int.le_refl,decide_true,Bool.not_false,Bool.and_true,Bool.or_true,if_true,List.append_nil]
 rw [withL_post n _ _ hd,List.set_eq_take_append_cons_drop,if_pos hlt]
 simp
end Go.Proofs.YtannopdcbocngaaGreatDoor
namespace Go.Proofs.YtannopdcbocngaaGreatDoor
open Go Go.Abs
attribute [local irreducible] exK opsK opK gK forkK kr acall callOp owhen obind
theorem withoutN_del {nodes:List Node} (h:Asc nodes) {ino:Int} {o:Node} (ho:nodes[lowB nodes ino]?=some o) (he:o.ino=ino):withoutN nodes ino=nodes.take (lowB nodes ino)++nodes.drop (lowB nodes ino+1):=by
 have hl:=lowI_of h ino
 have hlt:=(List.getElem?_eq_some_iff.1 ho).1
 have hd:∀m,m∈nodes.drop (lowB nodes ino+1)→ino<m.ino:=fun m hm=>by
  obtain ⟨k,hk⟩:=List.getElem?_of_mem hm
  rw [List.getElem?_drop] at hk
  have hkl:=(List.getElem?_eq_some_iff.1 hk).1
  have h3:=List.pairwise_iff_getElem.1 h _ _ hlt hkl (by omega)
  have h4:nodes[lowB nodes ino+1+k]=m:=by rw [List.getElem?_eq_getElem hkl] at hk; injection hk
  have h5:nodes[lowB nodes ino]=o:=by rw [List.getElem?_eq_getElem hlt] at ho; injection ho
  rw [h4,h5] at h3
  omega
 have hdr:nodes.drop (lowB nodes ino)=o::nodes.drop (lowB nodes ino+1):=by
  rw [List.drop_eq_getElem_cons hlt]
  rw [List.getElem?_eq_getElem hlt] at ho; injection ho with ho; rw [ho]
 unfold withoutN
 rw [show nodes.filter (fun n=>n.ino != ino)=(nodes.take (lowB nodes ino)++nodes.drop (lowB nodes ino)).filter (fun n=>n.ino != ino) by rw [List.take_append_drop]]
 rw [List.filter_append,hdr,List.filter_cons]
 simp only [he,bne_self_eq_false,Bool.false_eq_true,if_false]
 rw [List.filter_eq_self.2 fun m hm=>by have:=take_low hl m hm; simp; omega,List.filter_eq_self.2 fun m hm=>by have:=hd m hm; simp; omega]
theorem withoutN_none {nodes:List Node} {ino:Int} (hf:find nodes ino=none):withoutN nodes ino=nodes :=
 List.filter_eq_self.2 fun m hm=>by simpa using List.find?_eq_none.1 hf m hm
theorem strLt_asym {a b:Bytes} (h:strLt a b=true):strLt b a=false:=by
 cases hb:strLt b a with
 |false=>rfl
 |true=>have:=strLt_trans h hb; rw [strLt_irrefl] at this; cases this
theorem strLt_total:∀(a b:Bytes),strLt a b=true∨a=b∨strLt b a=true
 | [],[] => .inr (.inl rfl)
 | [],_::_ => .inl rfl
 |_::_,[] => .inr (.inr rfl)
 |a::x,b::y=>by
  simp only [strLt,Bool.or_eq_true,Bool.and_eq_true,decide_eq_true_eq,beq_iff_eq,List.cons.injEq,UInt8.lt_iff_toNat_lt]
  rcases strLt_total x y with h|h|h
  ·rcases Nat.lt_trichotomy a.toNat b.toNat with h1|h1|h1
   ·exact .inl (.inl h1)
   ·exact .inl (.inr ⟨UInt8.toNat_inj.1 h1,h⟩)
   ·exact .inr (.inr (.inl h1))
  ·rcases Nat.lt_trichotomy a.toNat b.toNat with h1|h1|h1
   ·exact .inl (.inl h1)
   ·exact .inr (.inl ⟨UInt8.toNat_inj.1 h1,h⟩)
   ·exact .inr (.inr (.inl h1))
  ·rcases Nat.lt_trichotomy a.toNat b.toNat with h1|h1|h1
   ·exact .inl (.inl h1)
   ·exact .inr (.inr (.inr ⟨(UInt8.toNat_inj.1 h1).symm,h⟩))
   ·exact .inr (.inr (.inl h1))
theorem gtB_of_lt {a b:Bytes} (h:strLt a b=true):gtB a b=false:=by simp [gtB,h]
theorem gtB_of_gt {a b:Bytes} (h:strLt b a=true):gtB a b=true:=by
 have h1:=strLt_asym h
 have h2:¬a=b:=by rintro rfl; rw [strLt_irrefl] at h; cases h
 simp [gtB,h1,h2]
theorem insL_pre (e:Ent) (rest:List Ent):∀(pre out:List Ent),(∀m,m∈pre→strLt m.name e.name=true)→insL e (pre++rest) out false=insL e rest (out++pre) false
 | [],out,_=>by simp
 |m::r,out,h=>by
  rw [List.cons_append,insL,gtB_of_lt (h m (List.mem_cons_self ..))]
  simp only [Bool.and_false,Bool.or_false,Bool.false_eq_true,if_false]
  rw [insL_pre e rest r _ fun x hx=>h x (List.mem_cons_of_mem _ hx)]
  simp
theorem insL_post (e:Ent):∀(rest out:List Ent),insL e rest out true=(out++rest,true)
 | [],out=>by simp [insL]
 |m::r,out=>by
  rw [insL]
  simp only [Bool.not_true,Bool.false_and,Bool.true_or,Bool.false_eq_true,if_false]
  rw [insL_post e r]
  simp
theorem takeE_low {l:List Ent} {s:Bytes} {b:Nat} (h:LowE l s b):∀m,m∈l.take b→strLt m.name s=true:=fun m hm=>by
 obtain ⟨k,hk⟩:=List.getElem?_of_mem hm
 rw [List.getElem?_take] at hk
 split at hk
 ·rename_i hlt; exact (h.lt k m hk).2 hlt
 ·cases hk
theorem dropE_high {l:List Ent} {s:Bytes} {b:Nat} (h:LowE l s b):∀m,m∈l.drop b→strLt m.name s=false:=fun m hm=>by
 obtain ⟨k,hk⟩:=List.getElem?_of_mem hm
 rw [List.getElem?_drop] at hk
 have:=h.lt _ m hk
 have hn:¬b+k<b:=by omega
 cases hc:strLt m.name s with
 |false=>rfl
 |true=>exact absurd (this.1 hc) hn
theorem insE_ins {l:List Ent} (h:AscE l) {e:Ent} (hf:findE l e.name=none):insE l e=l.take (lowE l e.name)++e::l.drop (lowE l e.name):=by
 have hl:=lowE_of h e.name
 have hd:∀m,m∈l.drop (lowE l e.name)→strLt e.name m.name=true:=fun m hm=>by
  have h1:=dropE_high hl m hm
  have h2:=List.find?_eq_none.1 hf m (List.mem_of_mem_drop hm)
  have h3:¬m.name=e.name:=by simpa using h2
  rcases strLt_total m.name e.name with h4|h4|h4
  ·rw [h1] at h4; cases h4
  ·exact absurd h4 h3
  ·exact h4
 unfold insE
 rw [show insL e l [] false=insL e (l.take (lowE l e.name)++l.drop (lowE l e.name)) [] false by rw [List.take_append_drop]]
 rw [insL_pre e _ _ _ (takeE_low hl)]
 generalize l.drop (lowE l e.name)=rest at hd
 cases rest with
 |nil=>simp [insL]
 |cons m r =>
  rw [insL,gtB_of_gt (hd m (List.mem_cons_self ..))]
  simp only [Bool.not_false,Bool.and_true,Bool.or_true,if_true]
  rw [insL_post]
  simp
theorem dropE_del {l:List Ent} (h:AscE l) {s:Bytes} {o:Ent} (ho:l[lowE l s]?=some o) (he:o.name=s):dropE l s=l.take (lowE l s)++l.drop (lowE l s+1):=by
 have hl:=lowE_of h s
 have hlt:=(List.getElem?_eq_some_iff.1 ho).1
 have hdr:l.drop (lowE l s)=o::l.drop (lowE l s+1):=by
  rw [List.drop_eq_getElem_cons hlt]
  rw [List.getElem?_eq_getElem hlt] at ho; injection ho with ho; rw [ho]
 have hd:∀m,m∈l.drop (lowE l s+1)→strLt s m.name=true:=fun m hm=>by
  obtain ⟨k,hk⟩:=List.getElem?_of_mem hm
  rw [List.getElem?_drop] at hk
  have hkl:=(List.getElem?_eq_some_iff.1 hk).1
  have h3:=List.pairwise_iff_getElem.1 h _ _ hlt hkl (by omega)
  have h4:l[lowE l s+1+k]=m:=by rw [List.getElem?_eq_getElem hkl] at hk; injection hk
  have h5:l[lowE l s]=o:=by rw [List.getElem?_eq_getElem hlt] at ho; injection ho
  rw [h4,h5,he] at h3
  exact h3
 have ne:∀ {a b:Bytes},strLt a b=true→¬a=b:=fun {a b} h=>by rintro rfl; rw [strLt_irrefl] at h; cases h
 unfold dropE
 rw [show l.filter (fun n=>n.name != s)=(l.take (lowE l s)++l.drop (lowE l s)).filter (fun n=>n.name != s) by rw [List.take_append_drop]]
 rw [List.filter_append,hdr,List.filter_cons]
 simp only [he,bne_self_eq_false,Bool.false_eq_true,if_false]
 rw [List.filter_eq_self.2 fun m hm=>by simpa using ne (takeE_low hl m hm),List.filter_eq_self.2 fun m hm=>by simpa using fun hc=>ne (hd m hm) hc.symm]
end Go.Proofs.YtannopdcbocngaaGreatDoor
namespace Go.Proofs.YtannopdcbocngaaGreatDoor
open Go Go.Abs
theorem asc_unique {nodes:List Node} (h:Asc nodes) {a b:Node} (ha:a∈nodes) (hb:b∈nodes) (he:a.ino=b.ino):a=b:=by
 obtain ⟨i,hi⟩:=List.getElem?_of_mem ha
 obtain ⟨k,hk⟩:=List.getElem?_of_mem hb
 have hil:=(List.getElem?_eq_some_iff.1 hi).1
 have hkl:=(List.getElem?_eq_some_iff.1 hk).1
 have e1:nodes[i]=a:=by rw [List.getElem?_eq_getElem hil] at hi; injection hi
 have e2:nodes[k]=b:=by rw [List.getElem?_eq_getElem hkl] at hk; injection hk
 rcases Nat.lt_trichotomy i k with hlt|heq|hgt
 ·have:=List.pairwise_iff_getElem.1 h _ _ hil hkl hlt
  rw [e1,e2] at this; omega
 ·subst heq; rw [←e1,←e2]
 ·have:=List.pairwise_iff_getElem.1 h _ _ hkl hil hgt
  rw [e1,e2] at this; omega
theorem find_iff {nodes:List Node} (h:Asc nodes) {i:Int} {m:Node}:find nodes i=some m↔m∈nodes∧m.ino=i:=by
 refine ⟨find_mem,fun ⟨h1,h2⟩=>?_⟩
 cases hf:find nodes i with
 |none =>
  have:=List.find?_eq_none.1 hf m h1
  simp [h2] at this
 |some k =>
  obtain ⟨k1,k2⟩:=find_mem hf
  rw [asc_unique h h1 k1 (by omega)]
theorem find_none_iff {nodes:List Node} {i:Int}:find nodes i=none↔∀m,m∈nodes→m.ino≠i:=by
 unfold find
 rw [List.find?_eq_none]
 simp
theorem set_split {nodes:List Node} {b:Nat} {o n:Node} (ho:nodes[b]?=some o):nodes=nodes.take b++o::nodes.drop (b+1)∧nodes.set b n=nodes.take b++n::nodes.drop (b+1):=by
 have hlt:=(List.getElem?_eq_some_iff.1 ho).1
 constructor
 ·rw [List.getElem?_eq_getElem hlt] at ho; injection ho with ho
  conv=>lhs; rw [←List.take_append_drop b nodes]
  rw [List.drop_eq_getElem_cons hlt,ho]
 ·rw [List.set_eq_take_append_cons_drop,if_pos hlt]
theorem mem_withN {nodes:List Node} (h:Asc nodes) {n m:Node}:m∈withN nodes n↔m=n∨(m∈nodes∧m.ino≠n.ino):=by
 rcases at_find h n.ino with ⟨_,o,h2,h3,h4⟩|⟨_,h2⟩
 ·rw [withN_set h h2 h4]
  obtain ⟨s1,s2⟩:=set_split (n:=n) h2
  have hon:o∈nodes:=(find_mem h3).1
  constructor
  ·intro hm
   rw [s2] at hm
   rcases List.mem_append.1 hm with hm|hm
   ·have hmn:=List.mem_of_mem_take hm
    have:=take_low (lowI_of h n.ino) m hm
    exact .inr ⟨hmn,by omega⟩
   ·rcases List.mem_cons.1 hm with rfl|hm
    ·exact .inl rfl
    ·refine .inr ⟨List.mem_of_mem_drop hm,fun he=>?_⟩
     have hp:=h
     unfold Asc at hp
     rw [s1,List.pairwise_append] at hp
     have:=(List.pairwise_cons.1 hp.2.1).1 m hm
     omega
  ·rintro (rfl|⟨hm,hne⟩)
   ·rw [s2]; simp
   ·rw [s1] at hm
    rw [s2]
    rcases List.mem_append.1 hm with hm|hm
    ·exact List.mem_append_left _ hm
    ·rcases List.mem_cons.1 hm with rfl|hm
     ·exact absurd h4 hne
     ·exact List.mem_append_right _ (List.mem_cons_of_mem _ hm)
 ·rw [withN_ins h h2]
  rw [find_none_iff] at h2
  constructor
  ·intro hm
   rcases List.mem_append.1 hm with hm|hm
   ·have:=List.mem_of_mem_take hm
    exact .inr ⟨this,h2 m this⟩
   ·rcases List.mem_cons.1 hm with rfl|hm
    ·exact .inl rfl
    ·have:=List.mem_of_mem_drop hm
     exact .inr ⟨this,h2 m this⟩
  ·rintro (rfl|⟨hm,_⟩)
   ·simp
   ·rw [←List.take_append_drop (lowB nodes n.ino) nodes] at hm
    rcases List.mem_append.1 hm with hm|hm
    ·exact List.mem_append_left _ hm
    ·exact List.mem_append_right _ (List.mem_cons_of_mem _ hm)
theorem withN_asc {nodes:List Node} (h:Asc nodes) (n:Node):Asc (withN nodes n):=by
 have hl:=lowI_of h n.ino
 rcases at_find h n.ino with ⟨_,o,h2,h3,h4⟩|⟨_,h2⟩
 ·rw [withN_set h h2 h4]
  obtain ⟨s1,s2⟩:=set_split (n:=n) h2
  have hp:=h
  unfold Asc at hp ⊢
  rw [s1,List.pairwise_append] at hp
  obtain ⟨p1,p2,p3⟩:=hp
  obtain ⟨p4,p5⟩:=List.pairwise_cons.1 p2
  rw [s2,List.pairwise_append]
  refine ⟨p1,List.pairwise_cons.2 ⟨fun m hm=>by have:=p4 m hm; omega,p5⟩,fun a ha c hc=>?_⟩
  rcases List.mem_cons.1 hc with rfl|hc
  ·exact take_low hl a ha
  ·exact p3 a ha c (List.mem_cons_of_mem _ hc)
 ·rw [withN_ins h h2]
  have hp:=h
  unfold Asc at hp ⊢
  rw [←List.take_append_drop (lowB nodes n.ino) nodes,List.pairwise_append] at hp
  obtain ⟨p1,p2,p3⟩:=hp
  rw [find_none_iff] at h2
  rw [List.pairwise_append]
  refine ⟨p1,List.pairwise_cons.2 ⟨fun m hm=>?_,p2⟩,fun a ha c hc=>?_⟩
  ·have k1:=drop_high hl m hm
   have k2:=h2 m (List.mem_of_mem_drop hm)
   omega
  ·rcases List.mem_cons.1 hc with rfl|hc
   ·exact take_low hl a ha
   ·exact p3 a ha c hc
theorem find_withN {nodes:List Node} (h:Asc nodes) (n:Node) (i:Int):find (withN nodes n) i=if i=n.ino then some n else find nodes i:=by
 split
 ·rename_i he
  exact (find_iff (withN_asc h n)).2 ⟨(mem_withN h).2 (.inl rfl),he.symm⟩
 ·rename_i hne
  cases hf:find nodes i with
  |none =>
   rw [find_none_iff] at hf ⊢
   intro m hm
   rcases (mem_withN h).1 hm with rfl|⟨hm,_⟩
   ·exact fun he=>hne he.symm
   ·exact hf m hm
  |some m =>
   obtain ⟨h1,h2⟩:=find_mem hf
   exact (find_iff (withN_asc h n)).2 ⟨(mem_withN h).2 (.inr ⟨h1,by omega⟩),h2⟩
theorem withoutN_asc {nodes:List Node} (h:Asc nodes) (i:Int):Asc (withoutN nodes i):=List.Pairwise.filter _ h
theorem find_withoutN {nodes:List Node} (h:Asc nodes) (k i:Int):find (withoutN nodes k) i=if i=k then none else find nodes i:=by
 split
 ·rename_i he
  rw [find_none_iff]
  intro m hm
  have:=(List.mem_filter.1 hm).2
  simp at this
  omega
 ·rename_i hne
  cases hf:find nodes i with
  |none =>
   rw [find_none_iff] at hf ⊢
   exact fun m hm=>hf m (List.mem_filter.1 hm).1
  |some m =>
   obtain ⟨h1,h2⟩:=find_mem hf
   exact (find_iff (withoutN_asc h k)).2 ⟨List.mem_filter.2 ⟨h1,by simp; omega⟩,h2⟩
theorem insE_asc {l:List Ent} (h:AscE l) {e:Ent} (hf:findE l e.name=none):AscE (insE l e):=by
 rw [insE_ins h hf]
 have hl:=lowE_of h e.name
 have hp:=h
 unfold AscE at hp ⊢
 rw [←List.take_append_drop (lowE l e.name) l,List.pairwise_append] at hp
 obtain ⟨p1,p2,p3⟩:=hp
 rw [List.pairwise_append]
 refine ⟨p1,List.pairwise_cons.2 ⟨fun m hm=>?_,p2⟩,fun a ha c hc=>?_⟩
 ·have k1:=dropE_high hl m hm
  have k2:¬m.name=e.name:=by simpa using List.find?_eq_none.1 hf m (List.mem_of_mem_drop hm)
  rcases strLt_total m.name e.name with h4|h4|h4
  ·rw [k1] at h4; cases h4
  ·exact absurd h4 k2
  ·exact h4
 ·rcases List.mem_cons.1 hc with rfl|hc
  ·exact takeE_low hl a ha
  ·exact p3 a ha c hc
theorem dropE_asc {l:List Ent} (h:AscE l) (s:Bytes):AscE (dropE l s):=List.Pairwise.filter _ h
theorem Srt.with {t:Tree} (h:Srt t) {n:Node} (hn:AscE n.ents) (next cookie:Int):Srt ⟨withN t.nodes n,next,cookie⟩ :=
 ⟨withN_asc h.asc n,fun m hm=>by
  rcases (mem_withN h.asc).1 hm with rfl|⟨hm,_⟩
  ·exact hn
  ·exact h.ents m hm⟩
theorem Srt.without {t:Tree} (h:Srt t) (i next cookie:Int):Srt ⟨withoutN t.nodes i,next,cookie⟩ :=
 ⟨withoutN_asc h.asc i,fun m hm=>h.ents m (List.mem_filter.1 hm).1⟩
theorem Srt.node {t:Tree} (h:Srt t) (i:Int):AscE (nodeN t.nodes i).ents:=by
 cases hf:find t.nodes i with
 |none=>simp [nodeN,hf,Node.zero]; exact List.Pairwise.nil
 |some n=>simp [nodeN,hf]; exact h.ents n (find_mem hf).1
theorem Srt.left {t:Tree} (h:Srt t) (i:Int) (s:Bytes) (next cookie:Int):Srt ⟨leftN t.nodes i s,next,cookie⟩ :=
 h.with (n:={ nodeN t.nodes i with ents:=dropE (nodeN t.nodes i).ents s }) (dropE_asc (h.node i) s) next cookie
theorem Srt.entered {t:Tree} (h:Srt t) (i:Int) (s:Bytes) (of:Int) (hf:findE (nodeN t.nodes i).ents s=none):Srt (enteredN t i s of) :=
 h.with (n:={ nodeN t.nodes i with ents:=insE (nodeN t.nodes i).ents ⟨s,of,t.cookie⟩ }) (insE_asc (h.node i) hf) t.next (w64 (t.cookie+1))
end Go.Proofs.YtannopdcbocngaaGreatDoor
namespace Go.Proofs.YtannopdcbocngaaGreatDoor
open Go Go.Abs
attribute [local irreducible] exK opsK opK gK forkK kr acall callOp owhen obind
theorem dir_ok {nodes:List Node} {dir:Int} (h:(dirN nodes dir).2=0):∃d,find nodes dir=some d∧d.kind=2∧dirN nodes dir=(d,0):=by
 unfold dirN at h ⊢
 split at h
 ·cases h
 ·rename_i d hd
  split at h
  ·rename_i hk; exact ⟨d,hd,hk,by simp [hd,hk]⟩
  ·cases h
end Go.Proofs.YtannopdcbocngaaGreatDoor
namespace Go.Proofs.YtannopdcbocngaaGreatDoor
open Go Go.Abs
attribute [local irreducible] exK opsK opK gK forkK kr acall callOp owhen obind
theorem look_ok {nodes:List Node} {dir:Int} {s:Bytes} (h:((lookN nodes dir s).2 != 0)=false):∃d e,find nodes dir=some d∧d.kind=2∧nameOk s=true∧findE d.ents s=some e∧lookN nodes dir s=(e.ino,0):=by
 have h:(lookN nodes dir s).2=0:=by simpa using h
 have h':=h
 unfold lookN at h
 split at h
 ·rename_i hc; exact absurd h hc
 ·rename_i hc
  obtain ⟨d,h1,h2,h3⟩:=dir_ok (by simpa using hc)
  rw [h3] at h
  split at h
  ·cases h
  ·rename_i hk
   split at h
   ·cases h
   ·rename_i e he
    have hk:nameOk s=true:=by simpa using hk
    refine ⟨d,e,h1,h2,hk,he,?_⟩
    unfold lookN
    rw [h3]
    simp [hk,he]
end Go.Proofs.YtannopdcbocngaaGreatDoor
namespace Go.Proofs.YtannopdcbocngaaGreatDoor
open Go Go.Abs
attribute [local irreducible] exK opsK opK gK forkK kr acall callOp owhen obind
theorem findE_dropE (l:List Ent) (s:Bytes):findE (dropE l s) s=none:=by
 unfold findE dropE
 rw [List.find?_eq_none]
 intro e he
 have:=(List.mem_filter.1 he).2
 simpa using this
theorem findE_dropE_none {l:List Ent} {s r:Bytes} (h:findE l r=none):findE (dropE l s) r=none:=by
 unfold findE dropE at *
 rw [List.find?_eq_none] at *
 exact fun e he=>h e (List.mem_filter.1 he).1
theorem find_leftN {nodes:List Node} (h:Asc nodes) {dir:Int} {s:Bytes} {d:Node} (hf:find nodes dir=some d) (i:Int):find (leftN nodes dir s) i=if i=dir then some { d with ents:=dropE d.ents s } else find nodes i:=by
 have hd:=(find_mem hf).2
 unfold leftN
 rw [hf]
 simp only [Option.getD_some]
 rw [find_withN h,show ({ d with ents:=dropE d.ents s }:Node).ino=dir from hd]
end Go.Proofs.YtannopdcbocngaaGreatDoor
namespace Go.Proofs.YtannopdcbocngaaGreatDoor
open Go Go.Abs
def cntE (l:List Ent) (i:Int):Nat:=l.countP fun e=>e.ino==i
def cnt (ns:List Node) (i:Int):Nat:=(ns.map fun n=>cntE n.ents i).sum
theorem cntE_nil (i:Int):cntE [] i=0:=rfl
theorem cntE_app (a b:List Ent) (i:Int):cntE (a++b) i=cntE a i+cntE b i:=List.countP_append
theorem cntE_cons (e:Ent) (l:List Ent) (i:Int):cntE (e::l) i=cntE l i+(if e.ino=i then 1 else 0):=by simp [cntE,List.countP_cons]
theorem cnt_app (a b:List Node) (i:Int):cnt (a++b) i=cnt a i+cnt b i:=by simp [cnt]
theorem cnt_cons (n:Node) (l:List Node) (i:Int):cnt (n::l) i=cntE n.ents i+cnt l i:=by simp [cnt]
theorem cnt_withN {ns:List Node} (h:Asc ns) (n:Node) (i:Int):cnt (withN ns n) i+cntE (nodeN ns n.ino).ents i=cnt ns i+cntE n.ents i:=by
 rcases at_find h n.ino with ⟨_,o,h2,h3,h4⟩|⟨_,h2⟩
 ·rw [withN_set h h2 h4]
  obtain ⟨s1,s2⟩:=set_split (n:=n) h2
  have e1:cnt ns i=cnt (ns.take (lowB ns n.ino)) i+(cntE o.ents i+cnt (ns.drop (lowB ns n.ino+1)) i):=by
   rw [←cnt_cons,←cnt_app,←s1]
  rw [s2,cnt_app,cnt_cons,e1]
  simp only [nodeN,h3,Option.getD_some]
  omega
 ·rw [withN_ins h h2]
  have e1:cnt ns i=cnt (ns.take (lowB ns n.ino)) i+cnt (ns.drop (lowB ns n.ino)) i:=by
   rw [←cnt_app,List.take_append_drop]
  rw [cnt_app,cnt_cons,e1]
  simp only [nodeN,h2,Option.getD_none,Node.zero,cntE_nil]
  omega
theorem cnt_withoutN {ns:List Node} (h:Asc ns) (k i:Int):cnt (withoutN ns k) i+cntE (nodeN ns k).ents i=cnt ns i:=by
 rcases at_find h k with ⟨_,o,h2,h3,h4⟩|⟨_,h2⟩
 ·rw [withoutN_del h h2 h4]
  obtain ⟨s1,_⟩:=set_split (n:=o) h2
  have e1:cnt ns i=cnt (ns.take (lowB ns k)) i+(cntE o.ents i+cnt (ns.drop (lowB ns k+1)) i):=by
   rw [←cnt_cons,←cnt_app,←s1]
  rw [cnt_app,e1]
  simp only [nodeN,h3,Option.getD_some]
  omega
 ·rw [withoutN_none h2]
  simp only [nodeN,h2,Option.getD_none,Node.zero,cntE_nil]
  omega
theorem cntE_pos {l:List Ent} {i:Int}:0<cntE l i↔∃e,e∈l∧e.ino=i:=by simp [cntE,List.countP_pos_iff]
theorem cnt_pos {i:Int}:∀ {ns:List Node},0<cnt ns i↔∃n e,n∈ns∧e∈n.ents∧e.ino=i
 | []=>by simp [cnt]
 |n::ns=>by
  rw [cnt_cons]
  constructor
  ·intro h
   rcases Nat.eq_zero_or_pos (cntE n.ents i) with h0|h0
   ·obtain ⟨m,e,h1,h2,h3⟩:=(cnt_pos (i:=i) (ns:=ns)).1 (by omega)
    exact ⟨m,e,List.mem_cons_of_mem _ h1,h2,h3⟩
   ·obtain ⟨e,h1,h2⟩:=cntE_pos.1 h0
    exact ⟨n,e,List.mem_cons_self,h1,h2⟩
  ·rintro ⟨m,e,h1,h2,h3⟩
   rcases List.mem_cons.1 h1 with rfl|h1
   ·have:=cntE_pos.2 ⟨e,h2,h3⟩; omega
   ·have:=(cnt_pos (i:=i) (ns:=ns)).2 ⟨m,e,h1,h2,h3⟩; omega
theorem mem_insE {l:List Ent} (h:AscE l) {e:Ent} (hf:findE l e.name=none) {x:Ent}:x∈insE l e↔x=e∨x∈l:=by
 rw [insE_ins h hf]
 have:x∈l↔x∈l.take (lowE l e.name)∨x∈l.drop (lowE l e.name):=by rw [←List.mem_append,List.take_append_drop]
 rw [this,List.mem_append,List.mem_cons]
 constructor
 ·rintro (h|h|h)
  ·exact .inr (.inl h)
  ·exact .inl h
  ·exact .inr (.inr h)
 ·rintro (h|h|h)
  ·exact .inr (.inl h)
  ·exact .inl h
  ·exact .inr (.inr h)
theorem cntE_insE {l:List Ent} (h:AscE l) {e:Ent} (hf:findE l e.name=none) (i:Int):cntE (insE l e) i=cntE l i+(if e.ino=i then 1 else 0):=by
 rw [insE_ins h hf,cntE_app,cntE_cons]
 have:cntE l i=cntE (l.take (lowE l e.name)) i+cntE (l.drop (lowE l e.name)) i:=by rw [←cntE_app,List.take_append_drop]
 omega
theorem mem_dropE {l:List Ent} {s:Bytes} {x:Ent}:x∈dropE l s↔x∈l∧x.name≠s:=by simp [dropE,List.mem_filter]
theorem setE_split {l:List Ent} {b:Nat} {o:Ent} (ho:l[b]?=some o):l=l.take b++o::l.drop (b+1):=by
 have hlt:=(List.getElem?_eq_some_iff.1 ho).1
 rw [List.getElem?_eq_getElem hlt] at ho; injection ho with ho
 conv=>lhs; rw [←List.take_append_drop b l]
 rw [List.drop_eq_getElem_cons hlt,ho]
theorem cntE_dropE {l:List Ent} (h:AscE l) {s:Bytes} {o:Ent} (hf:findE l s=some o) (i:Int):cntE (dropE l s) i+(if o.ino=i then 1 else 0)=cntE l i:=by
 rcases at_findE h s with ⟨_,o',h2,h3,h4⟩|⟨_,h2⟩
 ·rw [hf] at h3; injection h3 with h3; subst h3
  rw [dropE_del h h2 h4]
  have e1:cntE l i=cntE (l.take (lowE l s)) i+(cntE (l.drop (lowE l s+1)) i+(if o.ino=i then 1 else 0)):=by
   rw [←cntE_cons,←cntE_app,←setE_split h2]
  rw [cntE_app,e1]
  omega
 ·rw [hf] at h2; cases h2
theorem len_withN {ns:List Node} (h:Asc ns) {n o:Node} (hf:find ns n.ino=some o):(withN ns n).length=ns.length:=by
 rcases at_find h n.ino with ⟨_,o,h2,h3,h4⟩|⟨_,h2⟩
 ·rw [withN_set h h2 h4,List.length_set]
 ·rw [hf] at h2; cases h2
end Go.Proofs.YtannopdcbocngaaGreatDoor
namespace Go.Proofs.YtannopdcbocngaaGreatDoor
open Go Go.Abs
def Nm (s:Bytes):Prop:=s=[97]∨s=[98]∨s=[99]∨s=[100]∨s=[101]
structure GInv (t:Tree) (dep:Int→Nat) (x:Int):Prop where
 srt:Srt t
 root:∃r,find t.nodes 1=some r∧r.kind=2∧r.up=1
 num:∀i n,find t.nodes i=some n→1≤i∧i<t.next
 kind:∀i n,find t.nodes i=some n→n.kind=1∨n.kind=2
 file:∀i n,find t.nodes i=some n→n.kind=1→n.ents=[]∧n.up=0∧n.data.length≤4096
 dir:∀i n,find t.nodes i=some n→n.kind=2→n.data=[]
 ent:∀i n e,find t.nodes i=some n→e∈n.ents→1≤e.cookie∧e.cookie<t.cookie∧e.ino≠1∧Nm e.name∧∃m,find t.nodes e.ino=some m∧(m.kind=2→m.up=i)
 cook:∀i n,find t.nodes i=some n→n.ents.Pairwise fun a b=>a.cookie≠b.cookie
 links:∀i n,find t.nodes i=some n→n.links=(cnt t.nodes i:Int)+(if i=x then 1 else 0)
 one:∀i n,find t.nodes i=some n→n.kind=2→i≠1→n.links=1
 dep1:dep 1=0
 deps:∀i n,find t.nodes i=some n→n.kind=2→i≠1→dep i=dep n.up+1∧∃p,find t.nodes n.up=some p∧p.kind=2
 deep:∀i n,find t.nodes i=some n→n.kind=2→dep i≤12∧(dep i=12→n.ents=[])
 nodes:t.nodes.length≤200
 next:t.next≤1099511627776
 cookie:1≤t.cookie∧t.cookie≤1099511627776
theorem GInv.ino {t:Tree} {dep:Int→Nat} {x:Int} (_:GInv t dep x) {i:Int} {n:Node} (hf:find t.nodes i=some n):n.ino=i:=(find_mem hf).2
theorem GInv.upd {t t':Tree} {dep:Int→Nat} {x x' d:Int} {n n':Node} (h:GInv t dep x) (hs:Srt t') (hd:find t.nodes d=some n)
  (hf:∀i,find t'.nodes i=if i=d then some n' else find t.nodes i) (hk:n'.kind=n.kind) (hu:n'.up=n.up)
  (hfile:n.kind=1→n'.ents=[]∧n'.data.length≤4096) (hdir:n.kind=2→n'.data=[])
  (hent:∀e,e∈n'.ents→1≤e.cookie∧e.cookie<t'.cookie∧e.ino≠1∧Nm e.name∧∃m,find t.nodes e.ino=some m∧(m.kind=2→m.up=d))
  (hcook:n'.ents.Pairwise fun a b=>a.cookie≠b.cookie)
  (hc:∀i,1≤i→(cnt t'.nodes i:Int)+(if i=x' then 1 else 0)=cnt t.nodes i+(if i=x then 1 else 0)+(if i=d then n'.links-n.links else 0))
  (h1:n.kind=2→n'.links=n.links) (hdeep:dep d=12→n'.ents=[]) (hn:t'.nodes.length≤200) (hnx:t'.next=t.next) (hck:t.cookie≤t'.cookie) (hck':t'.cookie≤1099511627776):GInv t' dep x':=by
 have keep:∀j m,find t.nodes j=some m→∃m',find t'.nodes j=some m'∧m'.kind=m.kind∧m'.up=m.up:=by
  intro j m hm
  rw [hf]
  split
  ·rename_i he
   subst he
   rw [hd] at hm; injection hm with hm; subst hm
   exact ⟨n',rfl,hk,hu⟩
  ·exact ⟨m,hm,rfl,rfl⟩
 have back:∀j m',find t'.nodes j=some m'→(j=d∧m'=n')∨(j≠d∧find t.nodes j=some m'):=by
  intro j m' hm
  rw [hf] at hm
  split at hm
  ·rename_i he; injection hm with hm; exact .inl ⟨he,hm.symm⟩
  ·rename_i he; exact .inr ⟨he,hm⟩
 refine ⟨hs,?_,?_,?_,?_,?_,?_,?_,?_,?_,h.dep1,?_,?_,hn,by rw [hnx]; exact h.next,⟨by have:=h.cookie.1; omega,hck'⟩⟩
 ·obtain ⟨r,h1,h2,h3⟩:=h.root
  obtain ⟨r',k1,k2,k3⟩:=keep _ _ h1
  exact ⟨r',k1,by omega,by omega⟩
 ·intro i m hm
  rw [hnx]
  rcases back i m hm with ⟨rfl,rfl⟩|⟨_,hm⟩
  ·exact h.num _ _ hd
  ·exact h.num _ _ hm
 ·intro i m hm
  rcases back i m hm with ⟨rfl,rfl⟩|⟨_,hm⟩
  ·rw [hk]; exact h.kind _ _ hd
  ·exact h.kind _ _ hm
 ·intro i m hm hk1
  rcases back i m hm with ⟨rfl,rfl⟩|⟨_,hm⟩
  ·rw [hk] at hk1
   exact ⟨(hfile hk1).1,by rw [hu]; exact (h.file _ _ hd hk1).2.1,(hfile hk1).2⟩
  ·exact h.file _ _ hm hk1
 ·intro i m hm hk1
  rcases back i m hm with ⟨rfl,rfl⟩|⟨_,hm⟩
  ·rw [hk] at hk1
   exact hdir hk1
  ·exact h.dir _ _ hm hk1
 ·intro i m e hm he
  have key:∀m,find t.nodes e.ino=some m∧(m.kind=2→m.up=i)→∃m,find t'.nodes e.ino=some m∧(m.kind=2→m.up=i):=by
   rintro m ⟨k1,k2⟩
   obtain ⟨m',j1,j2,j3⟩:=keep _ _ k1
   exact ⟨m',j1,fun hk=>by rw [j3]; exact k2 (by omega)⟩
  rcases back i m hm with ⟨rfl,rfl⟩|⟨_,hm⟩
  ·obtain ⟨a1,a2,a3,a4,k,a5⟩:=hent e he
   exact ⟨a1,a2,a3,a4,key k a5⟩
  ·obtain ⟨a1,a2,a3,a4,k,a5⟩:=h.ent _ _ e hm he
   exact ⟨a1,by omega,a3,a4,key k a5⟩
 ·intro i m hm
  rcases back i m hm with ⟨rfl,rfl⟩|⟨_,hm⟩
  ·exact hcook
  ·exact h.cook _ _ hm
 ·intro i m hm
  rcases back i m hm with ⟨rfl,rfl⟩|⟨hne,hm⟩
  ·have:=hc i (h.num _ _ hd).1
   have:=h.links _ _ hd
   simp only [↓reduceIte] at *
   omega
  ·have:=hc i (h.num _ _ hm).1
   have:=h.links _ _ hm
   simp only [hne,↓reduceIte] at *
   omega
 ·intro i m hm hk1 hi
  rcases back i m hm with ⟨rfl,rfl⟩|⟨_,hm⟩
  ·rw [hk] at hk1
   rw [h1 hk1]; exact h.one _ _ hd hk1 hi
  ·exact h.one _ _ hm hk1 hi
 ·intro i m hm hk1 hi
  rcases back i m hm with ⟨rfl,rfl⟩|⟨_,hm⟩
  ·rw [hk] at hk1
   obtain ⟨a,p,b,c⟩:=h.deps _ _ hd hk1 hi
   obtain ⟨p',k1,k2,_⟩:=keep _ _ b
   rw [hu]; exact ⟨a,p',k1,by omega⟩
  ·obtain ⟨a,p,b,c⟩:=h.deps _ _ hm hk1 hi
   obtain ⟨p',k1,k2,_⟩:=keep _ _ b
   exact ⟨a,p',k1,by omega⟩
 ·intro i m hm hk1
  rcases back i m hm with ⟨rfl,rfl⟩|⟨_,hm⟩
  ·rw [hk] at hk1
   exact ⟨(h.deep _ _ hd hk1).1,hdeep⟩
  ·exact h.deep _ _ hm hk1
theorem GInv.left {t:Tree} {dep:Int→Nat} {d:Int} {n:Node} {s:Bytes} {e:Ent} (h:GInv t dep 0) (hd:find t.nodes d=some n) (he:findE n.ents s=some e):GInv ⟨leftN t.nodes d s,t.next,t.cookie⟩ dep e.ino:=by
 have hE:AscE n.ents:=h.srt.ents n (find_mem hd).1
 have hi:n.ino=d:=h.ino hd
 have hem:=findE_mem he
 have hw:leftN t.nodes d s=withN t.nodes { n with ents:=dropE n.ents s }:=by simp [leftN,hd]
 have hc:∀i,cnt (leftN t.nodes d s) i+(if e.ino=i then 1 else 0)=cnt t.nodes i:=by
  intro i
  have h1:=cnt_withN h.srt.asc { n with ents:=dropE n.ents s } i
  have h2:=cntE_dropE hE he i
  rw [hw]
  have h3:nodeN t.nodes n.ino=n:=by simp only [nodeN,hi,hd,Option.getD_some]
  simp only [h3] at h1
  omega
 refine h.upd (h.srt.left d s t.next t.cookie) hd (find_leftN h.srt.asc hd) rfl rfl ?_ ?_ ?_ ?_ ?_ (fun _=>rfl) ?_ ?_ rfl (Int.le_refl _) h.cookie.2
 ·intro hk
  obtain ⟨h1,_,h3⟩:=h.file _ _ hd hk
  exact ⟨by simp [h1,dropE],h3⟩
 ·exact h.dir _ _ hd
 ·intro x hx
  exact h.ent _ _ x hd (mem_dropE.1 hx).1
 ·exact List.Pairwise.filter _ (h.cook _ _ hd)
 ·intro i h0
  have h1:=hc i
  rw [if_neg (show i≠0 by omega)]
  have e1:(if i=d then (n.links-n.links:Int) else 0)=0:=by split<;>omega
  simp only [e1]
  by_cases h0:i=e.ino
  ·subst h0
   simp only [↓reduceIte] at h1 ⊢
   omega
  ·rw [if_neg (fun hh=>h0 hh.symm)] at h1
   rw [if_neg h0]
   omega
 ·intro h12
  have:=(h.deep _ _ hd ?_).2 h12
  ·simp [this,dropE]
  ·rcases h.kind _ _ hd with hk|hk
   ·have:=(h.file _ _ hd hk).1
    rw [this] at hem; cases hem.1
   ·exact hk
 ·show (leftN t.nodes d s).length≤200
  rw [hw,len_withN h.srt.asc (o:=n) (by simp only [hi]; exact hd)]
  exact h.nodes
theorem GInv.entered {t:Tree} {dep:Int→Nat} {x d:Int} {n m:Node} {s:Bytes} (h:GInv t dep x) (hd:find t.nodes d=some n) (hk:n.kind=2) (he:findE n.ents s=none) (hnm:Nm s)
  (hx:find t.nodes x=some m) (hx1:x≠1) (hup:m.kind=2→m.up=d) (hdp:dep d<12) (hck:t.cookie<1099511627776):GInv (enteredN t d s x) dep 0:=by
 have hE:AscE n.ents:=h.srt.ents n (find_mem hd).1
 have hi:n.ino=d:=h.ino hd
 have hcw:w64 (t.cookie+1)=t.cookie+1:=wrapS (by have:=h.cookie; omega) (by omega)
 have hw:enteredN t d s x=⟨withN t.nodes { n with ents:=insE n.ents ⟨s,x,t.cookie⟩ },t.next,t.cookie+1⟩:=by simp only [enteredN,hd,Option.getD_some,hcw]
 have hfn:findE n.ents (Ent.mk s x t.cookie).name=none:=he
 have hc:∀i,cnt (enteredN t d s x).nodes i=cnt t.nodes i+(if x=i then 1 else 0):=by
  intro i
  have h1:=cnt_withN h.srt.asc { n with ents:=insE n.ents ⟨s,x,t.cookie⟩ } i
  have h2:=cntE_insE hE hfn i
  rw [hw]
  have h3:nodeN t.nodes n.ino=n:=by simp only [nodeN,hi,hd,Option.getD_some]
  simp only [h3] at h1 h2 ⊢
  omega
 have hff:∀i,find (enteredN t d s x).nodes i=if i=d then some { n with ents:=insE n.ents ⟨s,x,t.cookie⟩ } else find t.nodes i:=by
  intro i
  rw [hw]
  have:=find_withN h.srt.asc { n with ents:=insE n.ents ⟨s,x,t.cookie⟩ } i
  rw [this]
  simp only [hi]
 refine h.upd (h.srt.entered d s x (by simp [nodeN,hd,he])) hd hff rfl rfl ?_ ?_ ?_ ?_ ?_ (fun _=>rfl) ?_ ?_ ?_ ?_ ?_
 ·intro hk1; omega
 ·exact h.dir _ _ hd
 ·intro e hem
  rw [hw]
  rcases (mem_insE hE hfn).1 hem with rfl|hem
  ·exact ⟨h.cookie.1,by simp only; omega,hx1,hnm,m,hx,hup⟩
  ·obtain ⟨a1,a2,a3,a4,a5⟩:=h.ent _ _ e hd hem
   exact ⟨a1,by simp only; omega,a3,a4,a5⟩
 ·rw [insE_ins hE hfn]
  have hp:=h.cook _ _ hd
  rw [←List.take_append_drop (lowE n.ents s) n.ents,List.pairwise_append] at hp
  obtain ⟨p1,p2,p3⟩:=hp
  rw [List.pairwise_append]
  refine ⟨p1,List.pairwise_cons.2 ⟨fun a ha=>?_,p2⟩,fun a ha c hc=>?_⟩
  ·have:=(h.ent _ _ a hd (List.mem_of_mem_drop ha)).2.1
   simp only; omega
  ·rcases List.mem_cons.1 hc with rfl|hc
   ·have:=(h.ent _ _ a hd (List.mem_of_mem_take ha)).2.1
    simp only; omega
   ·exact p3 a ha c hc
 ·intro i h0
  have h1:=hc i
  rw [if_neg (show i≠0 by omega)]
  have e1:(if i=d then (n.links-n.links:Int) else 0)=0:=by split<;>omega
  simp only [e1]
  by_cases h0:i=x
  ·subst h0
   simp only [↓reduceIte] at h1 ⊢
   omega
  ·rw [if_neg (fun hh=>h0 hh.symm)] at h1
   rw [if_neg h0]
   omega
 ·intro h12; omega
 ·rw [hw]
  simp only
  rw [len_withN h.srt.asc (o:=n) (by simp only [hi]; exact hd)]
  exact h.nodes
 ·rw [hw]
 ·rw [hw]; simp only; omega
 ·rw [hw]; simp only; omega
theorem GInv.file' {t:Tree} {dep:Int→Nat} {x x' d:Int} {n n':Node} (h:GInv t dep x) (hd:find t.nodes d=some n) (hk:n.kind=1) (hi':n'.ino=d) (hk':n'.kind=1) (hu:n'.up=n.up) (he:n'.ents=n.ents) (hda:n'.data.length≤4096)
  (hx:∀i:Int,1≤i→(if i=x' then 1 else 0:Int)=(if i=x then 1 else 0)+(if i=d then n'.links-n.links else 0)):GInv ⟨withN t.nodes n',t.next,t.cookie⟩ dep x':=by
 have hi:n.ino=d:=h.ino hd
 have hE:AscE n'.ents:=by rw [he]; exact h.srt.ents n (find_mem hd).1
 have hff:∀i,find (withN t.nodes n') i=if i=d then some n' else find t.nodes i:=by
  intro i
  rw [find_withN h.srt.asc n' i,hi']
 obtain ⟨f1,f2,f3⟩:=h.file _ _ hd hk
 refine h.upd (h.srt.with hE t.next t.cookie) hd hff (by omega) hu ?_ ?_ ?_ ?_ ?_ ?_ ?_ ?_ rfl (Int.le_refl _) h.cookie.2
 ·intro _; exact ⟨by rw [he]; exact f1,hda⟩
 ·intro h2; omega
 ·intro e hem; rw [he,f1] at hem; cases hem
 ·rw [he,f1]; exact List.Pairwise.nil
 ·intro i h0
  have h1:=cnt_withN h.srt.asc n' i
  have h2:=hx i h0
  simp only [nodeN,hi',hd,Option.getD_some,he] at h1
  simp only
  omega
 ·intro h2; omega
 ·intro _; rw [he,f1]
 ·simp only
  rw [len_withN h.srt.asc (o:=n) (by simp only [hi']; exact hd)]
  exact h.nodes
theorem GInv.named {t:Tree} {dep:Int→Nat} {x:Int} (h:GInv t dep x) {i:Int} {n:Node} (hi:find t.nodes i=some n) (hk:n.kind=2) (h1:i≠1) (hx:i≠x):∃p e,find t.nodes n.up=some p∧p.kind=2∧e∈p.ents∧e.ino=i:=by
 have a:=h.links _ _ hi
 have b:=h.one _ _ hi hk h1
 rw [if_neg hx] at a
 obtain ⟨m,e,e1,e2,e3⟩:=cnt_pos.1 (show 0<cnt t.nodes i by omega)
 have hm:find t.nodes m.ino=some m:=(find_iff h.srt.asc).2 ⟨e1,rfl⟩
 obtain ⟨_,_,_,_,k,k1,k2⟩:=h.ent _ _ e hm e2
 rw [e3,hi] at k1; injection k1 with k1; subst k1
 obtain ⟨_,p,p1,p2⟩:=h.deps _ _ hi hk h1
 rw [k2 hk] at p1 ⊢
 rw [hm] at p1; injection p1 with p1; subst p1
 exact ⟨m,e,hm,p2,e2,e3⟩
theorem GInv.drop {t:Tree} {dep:Int→Nat} {x k:Int} {n:Node} (h:GInv t dep x) (hx:x=k∨x=0) (hk:find t.nodes k=some n) (he:n.ents=[]) (h1:k≠1) (hc:cnt t.nodes k=0):GInv ⟨withoutN t.nodes k,t.next,t.cookie⟩ dep 0:=by
 have hff:∀i m,find (withoutN t.nodes k) i=some m↔i≠k∧find t.nodes i=some m:=by
  intro i m
  rw [find_withoutN h.srt.asc]
  split<;>simp_all
 have hcn:∀i,cnt (withoutN t.nodes k) i=cnt t.nodes i:=by
  intro i
  have:=cnt_withoutN h.srt.asc k i
  simp only [nodeN,hk,Option.getD_some,he,cntE_nil] at this
  omega
 have hno:∀i m e,find t.nodes i=some m→e∈m.ents→e.ino≠k:=by
  intro i m e hm hem hh
  have:=cnt_pos.2 ⟨m,e,(find_mem hm).1,hem,hh⟩
  omega
 refine ⟨h.srt.without k t.next t.cookie,?_,?_,?_,?_,?_,?_,?_,?_,?_,h.dep1,?_,?_,?_,h.next,h.cookie⟩
 ·obtain ⟨r,r1,r2⟩:=h.root
  exact ⟨r,(hff _ _).2 ⟨fun hh=>h1 hh.symm,r1⟩,r2⟩
 ·intro i m hm; exact h.num _ _ ((hff _ _).1 hm).2
 ·intro i m hm; exact h.kind _ _ ((hff _ _).1 hm).2
 ·intro i m hm; exact h.file _ _ ((hff _ _).1 hm).2
 ·intro i m hm; exact h.dir _ _ ((hff _ _).1 hm).2
 ·intro i m e hm hem
  have hm':=((hff _ _).1 hm).2
  obtain ⟨a1,a2,a3,a4,q,a5,a6⟩:=h.ent _ _ e hm' hem
  exact ⟨a1,a2,a3,a4,q,(hff _ _).2 ⟨hno _ _ e hm' hem,a5⟩,a6⟩
 ·intro i m hm; exact h.cook _ _ ((hff _ _).1 hm).2
 ·intro i m hm
  obtain ⟨m1,m2⟩:=(hff _ _).1 hm
  have:=h.links _ _ m2
  have h0:=(h.num _ _ m2).1
  rw [if_neg (show i≠0 by omega)]
  rw [if_neg (by rcases hx with rfl|rfl<;>omega)] at this
  simp only [hcn]
  exact this
 ·intro i m hm; exact h.one _ _ ((hff _ _).1 hm).2
 ·intro i m hm hk2 hi1
  obtain ⟨m1,m2⟩:=(hff _ _).1 hm
  obtain ⟨a,p,b,c⟩:=h.deps _ _ m2 hk2 hi1
  refine ⟨a,p,(hff _ _).2 ⟨fun hh=>?_,b⟩,c⟩
  have h0:=(h.num _ _ m2).1
  obtain ⟨q,e,q1,_,q3,_⟩:=h.named m2 hk2 hi1 (by rcases hx with rfl|rfl<;>omega)
  rw [hh,hk] at q1; injection q1 with q1; subst q1
  rw [he] at q3; cases q3
 ·intro i m hm; exact h.deep _ _ ((hff _ _).1 hm).2
 ·exact Nat.le_trans (List.length_filter_le _ _) h.nodes
theorem GInv.setUp {t:Tree} {dep dep':Int→Nat} {x to:Int} {n p:Node} (h:GInv t dep x) (hx:find t.nodes x=some n) (hk:n.kind=2) (hx1:x≠1) (hp:find t.nodes to=some p) (hpk:p.kind=2)
  (h1:dep' 1=0) (hds:∀i m,find t.nodes i=some m→m.kind=2→i≠1→i≠x→dep' i=dep' m.up+1) (hdx:dep' x=dep' to+1)
  (hdeep:∀i m,find t.nodes i=some m→m.kind=2→dep' i≤12∧(dep' i=12→m.ents=[])):GInv ⟨withN t.nodes { n with up:=to },t.next,t.cookie⟩ dep' x:=by
 have hi:n.ino=x:=h.ino hx
 have hff:∀i,find (withN t.nodes { n with up:=to }) i=if i=x then some { n with up:=to } else find t.nodes i:=by
  intro i
  rw [find_withN h.srt.asc { n with up:=to } i]
  simp only [hi]
 have keep:∀j m,find t.nodes j=some m→∃m',find (withN t.nodes { n with up:=to }) j=some m'∧m'.kind=m.kind∧(j≠x→m'.up=m.up):=by
  intro j m hm
  rw [hff]
  split
  ·rename_i he
   subst he
   rw [hx] at hm; injection hm with hm; subst hm
   exact ⟨_,rfl,rfl,fun hh=>absurd rfl hh⟩
  ·exact ⟨m,hm,rfl,fun _=>rfl⟩
 have back:∀j m',find (withN t.nodes { n with up:=to }) j=some m'→(j=x∧m'={ n with up:=to })∨(j≠x∧find t.nodes j=some m'):=by
  intro j m' hm
  rw [hff] at hm
  split at hm
  ·rename_i he; injection hm with hm; exact .inl ⟨he,hm.symm⟩
  ·rename_i he; exact .inr ⟨he,hm⟩
 have hcn:∀i,cnt (withN t.nodes { n with up:=to }) i=cnt t.nodes i:=by
  intro i
  have:=cnt_withN h.srt.asc { n with up:=to } i
  have h3:nodeN t.nodes n.ino=n:=by simp only [nodeN,hi,hx,Option.getD_some]
  simp only [h3] at this
  omega
 have hc0:cnt t.nodes x=0:=by
  have a:=h.links _ n hx
  have b:=h.one _ n hx hk hx1
  simp only [↓reduceIte] at a
  omega
 have hno:∀i m e,find t.nodes i=some m→e∈m.ents→e.ino≠x:=by
  intro i m e hm hem hh
  have:=cnt_pos.2 ⟨m,e,(find_mem hm).1,hem,hh⟩
  omega
 have hent:∀i m e,find t.nodes i=some m→e∈m.ents→1≤e.cookie∧e.cookie<t.cookie∧e.ino≠1∧Nm e.name∧∃m,find (withN t.nodes { n with up:=to }) e.ino=some m∧(m.kind=2→m.up=i):=by
  intro i m e hm hem
  obtain ⟨a1,a2,a3,a4,q,a5,a6⟩:=h.ent _ _ e hm hem
  obtain ⟨q',j1,j2,j3⟩:=keep _ _ a5
  exact ⟨a1,a2,a3,a4,q',j1,fun hk=>by rw [j3 (hno _ _ e hm hem)]; exact a6 (by omega)⟩
 refine ⟨h.srt.with (n:={ n with up:=to }) (h.srt.ents n (find_mem hx).1) t.next t.cookie,?_,?_,?_,?_,?_,?_,?_,?_,?_,h1,?_,?_,?_,h.next,h.cookie⟩
 ·obtain ⟨r,r1,r2,r3⟩:=h.root
  obtain ⟨r',k1,k2,k3⟩:=keep _ _ r1
  exact ⟨r',k1,by omega,by rw [k3 (fun hh=>hx1 hh.symm)]; exact r3⟩
 ·intro i m hm
  rcases back i m hm with ⟨rfl,rfl⟩|⟨_,hm⟩
  ·exact h.num _ n hx
  ·exact h.num _ _ hm
 ·intro i m hm
  rcases back i m hm with ⟨rfl,rfl⟩|⟨_,hm⟩
  ·exact h.kind _ n hx
  ·exact h.kind _ _ hm
 ·intro i m hm hk1
  rcases back i m hm with ⟨rfl,rfl⟩|⟨_,hm⟩
  ·simp only at hk1; omega
  ·exact h.file _ _ hm hk1
 ·intro i m hm hk1
  rcases back i m hm with ⟨rfl,rfl⟩|⟨_,hm⟩
  ·exact h.dir _ n hx hk
  ·exact h.dir _ _ hm hk1
 ·intro i m e hm hem
  rcases back i m hm with ⟨rfl,rfl⟩|⟨_,hm⟩
  ·exact hent _ n e hx hem
  ·exact hent _ _ e hm hem
 ·intro i m hm
  rcases back i m hm with ⟨rfl,rfl⟩|⟨_,hm⟩
  ·exact h.cook _ n hx
  ·exact h.cook _ _ hm
 ·intro i m hm
  simp only [hcn]
  rcases back i m hm with ⟨rfl,rfl⟩|⟨_,hm⟩
  ·exact h.links _ n hx
  ·exact h.links _ _ hm
 ·intro i m hm hk1 hi1
  rcases back i m hm with ⟨rfl,rfl⟩|⟨_,hm⟩
  ·exact h.one _ n hx hk hi1
  ·exact h.one _ _ hm hk1 hi1
 ·intro i m hm hk1 hi1
  rcases back i m hm with ⟨rfl,rfl⟩|⟨hne,hm⟩
  ·obtain ⟨p',k1,k2,_⟩:=keep _ _ hp
   exact ⟨hdx,p',k1,by omega⟩
  ·obtain ⟨_,q,b,c⟩:=h.deps _ _ hm hk1 hi1
   obtain ⟨q',k1,k2,_⟩:=keep _ _ b
   exact ⟨hds _ _ hm hk1 hi1 hne,q',k1,by omega⟩
 ·intro i m hm hk1
  rcases back i m hm with ⟨rfl,rfl⟩|⟨_,hm⟩
  ·exact hdeep _ n hx hk
  ·exact hdeep _ _ hm hk1
 ·simp only
  rw [len_withN h.srt.asc (o:=n) (by simp only [hi]; exact hx)]
  exact h.nodes
theorem GInv.made {t:Tree} {dep:Int→Nat} {d kind:Int} {p:Node} (h:GInv t dep 0) (hp:find t.nodes d=some p) (hpk:p.kind=2) (hk:kind=1∨kind=2) (hdp:dep d<12) (hl:t.nodes.length<200) (hn:t.next<1099511627776) :
  GInv ⟨withN t.nodes ⟨t.next,kind,1,[],[],if (kind==2)=true then d else 0⟩,t.next+1,t.cookie⟩ (fun i=>if i=t.next then dep d+1 else dep i) t.next:=by
 have hnew:find t.nodes t.next=none:=by
  cases hz:find t.nodes t.next with
  |none=>rfl
  |some m=>have:=h.num _ _ hz; omega
 have hnx:2≤t.next:=by
  obtain ⟨r,r1,_⟩:=h.root
  have:=(h.num _ _ r1).2; omega
 generalize hn':Node.mk t.next kind 1 [] [] (if (kind==2)=true then d else 0)=n'
 have i1:n'.ino=t.next:=by rw [←hn']
 have i2:n'.kind=kind:=by rw [←hn']
 have i3:n'.links=1:=by rw [←hn']
 have i4:n'.data=[]:=by rw [←hn']
 have i5:n'.ents=[]:=by rw [←hn']
 have i6:n'.up=if (kind==2)=true then d else 0:=by rw [←hn']
 have hff:∀i,find (withN t.nodes n') i=if i=t.next then some n' else find t.nodes i:=by
  intro i
  rw [find_withN h.srt.asc n' i,i1]
 have keep:∀j m,find t.nodes j=some m→find (withN t.nodes n') j=some m∧j≠t.next:=by
  intro j m hm
  have:=(h.num _ _ hm).2
  rw [hff,if_neg (by omega)]
  exact ⟨hm,by omega⟩
 have back:∀j m',find (withN t.nodes n') j=some m'→(j=t.next∧m'=n')∨(j≠t.next∧find t.nodes j=some m'):=by
  intro j m' hm
  rw [hff] at hm
  split at hm
  ·rename_i he; injection hm with hm; exact .inl ⟨he,hm.symm⟩
  ·rename_i he; exact .inr ⟨he,hm⟩
 have hcn:∀i,cnt (withN t.nodes n') i=cnt t.nodes i:=by
  intro i
  have:=cnt_withN h.srt.asc n' i
  simp only [nodeN,i1,hnew,Option.getD_none,Node.zero,i5,cntE_nil] at this
  omega
 have hc0:cnt t.nodes t.next=0:=by
  rcases Nat.eq_zero_or_pos (cnt t.nodes t.next) with h0|h0
  ·exact h0
  ·obtain ⟨m,e,e1,e2,e3⟩:=cnt_pos.1 h0
   obtain ⟨_,_,_,_,k,k1,_⟩:=h.ent _ _ e ((find_iff h.srt.asc).2 ⟨e1,rfl⟩) e2
   rw [e3,hnew] at k1; cases k1
 refine ⟨h.srt.with (n:=n') (by rw [i5]; exact List.Pairwise.nil) _ _,?_,?_,?_,?_,?_,?_,?_,?_,?_,?_,?_,?_,?_,?_,h.cookie⟩
 ·obtain ⟨r,r1,r2⟩:=h.root
  exact ⟨r,(keep _ _ r1).1,r2⟩
 ·intro i m hm
  simp only
  rcases back i m hm with ⟨rfl,rfl⟩|⟨_,hm⟩
  ·omega
  ·have:=h.num _ _ hm; omega
 ·intro i m hm
  rcases back i m hm with ⟨rfl,rfl⟩|⟨_,hm⟩
  ·rw [i2]; exact hk
  ·exact h.kind _ _ hm
 ·intro i m hm hk1
  rcases back i m hm with ⟨rfl,rfl⟩|⟨_,hm⟩
  ·rw [i2] at hk1
   exact ⟨i5,by rw [i6,hk1]; rfl,by rw [i4]; simp⟩
  ·exact h.file _ _ hm hk1
 ·intro i m hm hk1
  rcases back i m hm with ⟨rfl,rfl⟩|⟨_,hm⟩
  ·exact i4
  ·exact h.dir _ _ hm hk1
 ·intro i m e hm hem
  rcases back i m hm with ⟨rfl,rfl⟩|⟨_,hm⟩
  ·rw [i5] at hem; cases hem
  ·obtain ⟨a1,a2,a3,a4,q,a5,a6⟩:=h.ent _ _ e hm hem
   exact ⟨a1,a2,a3,a4,q,(keep _ _ a5).1,a6⟩
 ·intro i m hm
  rcases back i m hm with ⟨rfl,rfl⟩|⟨_,hm⟩
  ·rw [i5]; exact List.Pairwise.nil
  ·exact h.cook _ _ hm
 ·intro i m hm
  simp only [hcn]
  rcases back i m hm with ⟨rfl,rfl⟩|⟨hne,hm⟩
  ·rw [hc0,i3]; simp
  ·rw [if_neg hne]
   have:=h.links _ _ hm
   rw [if_neg (by have:=(h.num _ _ hm).1; omega)] at this
   exact this
 ·intro i m hm hk1 hi1
  rcases back i m hm with ⟨rfl,rfl⟩|⟨_,hm⟩
  ·exact i3
  ·exact h.one _ _ hm hk1 hi1
 ·show (if (1:Int)=t.next then dep d+1 else dep 1)=0
  rw [if_neg (by omega)]; exact h.dep1
 ·intro i m hm hk1 hi1
  show (if i=t.next then dep d+1 else dep i)=(if m.up=t.next then dep d+1 else dep m.up)+1∧_
  rcases back i m hm with ⟨rfl,rfl⟩|⟨hne,hm⟩
  ·rw [i2] at hk1
   have hu:m.up=d:=by rw [i6,hk1]; rfl
   rw [hu,if_pos rfl,if_neg (keep _ _ hp).2]
   exact ⟨rfl,p,(keep _ _ hp).1,hpk⟩
  ·obtain ⟨a,q,b,c⟩:=h.deps _ _ hm hk1 hi1
   rw [if_neg hne,if_neg (keep _ _ b).2]
   exact ⟨a,q,(keep _ _ b).1,c⟩
 ·intro i m hm hk1
  show (if i=t.next then dep d+1 else dep i)≤12∧((if i=t.next then dep d+1 else dep i)=12→_)
  rcases back i m hm with ⟨rfl,rfl⟩|⟨hne,hm⟩
  ·rw [if_pos rfl]; exact ⟨by omega,fun _=>i5⟩
  ·rw [if_neg hne]; exact h.deep _ _ hm hk1
 ·have:=withN_len t.nodes n'
  simp only; omega
 ·simp only; omega
end Go.Proofs.YtannopdcbocngaaGreatDoor
namespace Go.Proofs.YtannopdcbocngaaGreatDoor
open Go Go.Abs
theorem cover:∀(k:Nat) (l:List Nat),(∀j,j<k→j∈l)→k≤l.length
 |0,_,_=>Nat.zero_le _
 |k+1,l,h=>by
  have hk:=h k (by omega)
  have:=cover k (l.erase k) (fun j hj=>(List.mem_erase_of_ne (by omega)).2 (h j (by omega)))
  rw [List.length_erase_of_mem hk] at this
  have:=List.length_pos_of_mem hk
  omega
theorem GInv.up_at {t:Tree} {dep:Int→Nat} {x:Int} (h:GInv t dep x):∀(m:Nat) (i:Int) (n:Node),find t.nodes i=some n→n.kind=2→dep i=m→∀k,k≤m→∃j p,find t.nodes j=some p∧dep j=k:=by
 intro m
 induction m with
 |zero=>intro i n hi _ hm k hk; exact ⟨i,n,hi,by omega⟩
 |succ m ih =>
  intro i n hi hk2 hm k hk
  rcases Nat.eq_or_lt_of_le hk with rfl|hlt
  ·exact ⟨i,n,hi,hm⟩
  ·have h1:i≠1:=fun hh=>by subst hh; have:=h.dep1; omega
   obtain ⟨a,p,b,c⟩:=h.deps _ _ hi hk2 h1
   exact ih _ p b c (by omega) k (by omega)
theorem GInv.dep_lt {t:Tree} {dep:Int→Nat} {x:Int} (h:GInv t dep x) {i:Int} {n:Node} (hi:find t.nodes i=some n) (hk:n.kind=2):dep i<t.nodes.length:=by
 have:=cover (dep i+1) (t.nodes.map fun n=>dep n.ino) (fun j hj=>by
  obtain ⟨a,p,h1,h2⟩:=h.up_at _ _ _ hi hk rfl j (by omega)
  rw [List.mem_map]
  exact ⟨p,(find_mem h1).1,by rw [(find_mem h1).2,h2]⟩)
 rw [List.length_map] at this
 omega
theorem GInv.depthGo_eq {t:Tree} {dep:Int→Nat} {x:Int} (h:GInv t dep x):∀(m:Nat) (i:Int) (d:Nat) (n:Node),find t.nodes i=some n→n.kind=2→dep i≤m→depthGo t.nodes m i d=d+dep i:=by
 intro m
 induction m with
 |zero=>intro i d n _ _ hd; simp only [depthGo]; omega
 |succ m ih =>
  intro i d n hi hk hd
  simp only [depthGo]
  split
  ·rename_i h1; subst h1; have:=h.dep1; omega
  ·rename_i h1
   obtain ⟨a,p,b,c⟩:=h.deps _ _ hi hk h1
   have hu:upOf t.nodes i=n.up:=by simp [upOf,hi]
   rw [hu,ih _ _ p b c (by omega)]
   omega
theorem GInv.depthN_eq {t:Tree} {dep:Int→Nat} {x:Int} (h:GInv t dep x) {i:Int} {n:Node} (hi:find t.nodes i=some n) (hk:n.kind=2):depthN t.nodes i=dep i:=by
 have:=h.depthGo_eq 201 i 0 n hi hk (by have:=(h.deep _ _ hi hk).1; omega)
 simp only [depthN,this]; omega
theorem GInv.up_of {t:Tree} {dep:Int→Nat} {x:Int} (_:GInv t dep x) {i:Int} {n:Node} (hi:find t.nodes i=some n):upOf t.nodes i=n.up:=by simp [upOf,hi]
theorem GInv.below_fuel {t:Tree} {dep:Int→Nat} {x:Int} (h:GInv t dep x) (of:Int):∀(m:Nat) (i:Int) (n:Node),find t.nodes i=some n→n.kind=2→dep i<m→belowGo t.nodes of m i=belowGo t.nodes of (dep i+1) i:=by
 intro m
 induction m with
 |zero=>intro i n _ _ hd; omega
 |succ m ih =>
  intro i n hi hk hd
  by_cases h1:i=1
  ·subst h1; simp only [belowGo]; split<;>rfl
  ·obtain ⟨a,p,b,c⟩:=h.deps _ _ hi hk h1
   simp only [belowGo,h1,↓reduceIte,h.up_of hi]
   rw [ih _ p b c (by omega),a]
theorem GInv.below_self {t:Tree} (i:Int):belowN t.nodes i i=true:=by simp [belowN,belowGo]
theorem GInv.below_root {t:Tree} {of:Int} (h1:of≠1):belowN t.nodes 1 of=false:=by
 simp only [belowN,belowGo]
 rw [if_neg (fun hh=>h1 hh.symm)]
 rfl
theorem GInv.below_up {t:Tree} {dep:Int→Nat} {x:Int} (h:GInv t dep x) {of i:Int} {n:Node} (hi:find t.nodes i=some n) (hk:n.kind=2) (h1:i≠1) (ho:i≠of):belowN t.nodes i of=belowN t.nodes n.up of:=by
 obtain ⟨a,p,b,c⟩:=h.deps _ _ hi hk h1
 have d1:=h.dep_lt b c
 have d2:=h.dep_lt hi hk
 simp only [belowN]
 rw [h.below_fuel of _ _ p b c (by omega)]
 rw [h.below_fuel of _ _ n hi hk (by omega)]
 conv=>lhs; rw [belowGo]
 simp only [ho,h1,↓reduceIte,h.up_of hi]
 rw [a]
theorem GInv.below_dep {t:Tree} {dep:Int→Nat} {x:Int} (h:GInv t dep x) {of:Int}:∀(m:Nat) (i:Int) (n:Node),find t.nodes i=some n→n.kind=2→dep i=m→belowN t.nodes i of=true→dep of≤dep i:=by
 intro m
 induction m with
 |zero =>
  intro i n hi hk hm hb
  by_cases h1:i=1
  ·by_cases h2:of=1
   ·subst h1; subst h2; exact Nat.le_refl _
   ·subst h1; rw [GInv.below_root h2] at hb; cases hb
  ·obtain ⟨a,_⟩:=h.deps _ _ hi hk h1
   omega
 |succ m ih =>
  intro i n hi hk hm hb
  have h1:i≠1:=fun hh=>by subst hh; have:=h.dep1; omega
  obtain ⟨a,p,b,c⟩:=h.deps _ _ hi hk h1
  by_cases ho:i=of
  ·subst ho; exact Nat.le_refl _
  ·rw [h.below_up hi hk h1 ho] at hb
   have:=ih _ p b c (by omega) hb
   omega
end Go.Proofs.YtannopdcbocngaaGreatDoor
namespace Go.Proofs.YtannopdcbocngaaGreatDoor
open Go Go.Abs
theorem nodup_le {α:Type} [DecidableEq α]:∀(l k:List α),l.Nodup→(∀x,x∈l→x∈k)→l.length≤k.length
 | [],_,_,_=>Nat.zero_le _
 |a::l,k,h,hs=>by
  have ha:=hs a List.mem_cons_self
  obtain ⟨h1,h2⟩:=List.nodup_cons.1 h
  have:=nodup_le l (k.erase a) h2 (fun x hx=>(List.mem_erase_of_ne (by rintro rfl; exact h1 hx)).2 (hs x (List.mem_cons_of_mem _ hx)))
  rw [List.length_erase_of_mem ha] at this
  have:=List.length_pos_of_mem ha
  simp only [List.length_cons]
  omega
theorem nm_len {l:List Ent} (h:AscE l) (hn:∀e,e∈l→Nm e.name):l.length≤5:=by
 have:=nodup_le (l.map Ent.name) [[97],[98],[99],[100],[101]] (by
  unfold List.Nodup
  rw [List.pairwise_map]
  refine List.Pairwise.imp ?_ h
  intro a b hab he
  rw [he,strLt_irrefl] at hab; cases hab) (by
  intro x hx
  obtain ⟨e,he,rfl⟩:=List.mem_map.1 hx
  rcases hn e he with h|h|h|h|h<;>rw [h]<;>simp)
 simpa using this
theorem GInv.few {t:Tree} {dep:Int→Nat} {x:Int} (h:GInv t dep x) {i:Int} {n:Node} (hi:find t.nodes i=some n):n.ents.length≤5 :=
 nm_len (h.srt.ents n (find_mem hi).1) (fun e he=>(h.ent _ _ e hi he).2.2.2.1)
theorem cnt_le (i:Int):∀(ns:List Node),(∀n,n∈ns→n.ents.length≤5)→cnt ns i≤5*ns.length
 | [],_=>Nat.zero_le _
 |n::ns,h=>by
  have h1:=cnt_le i ns (fun m hm=>h m (List.mem_cons_of_mem _ hm))
  have h2:cntE n.ents i≤n.ents.length:=List.countP_le_length
  have h3:=h n List.mem_cons_self
  rw [cnt_cons,List.length_cons]
  omega
theorem GInv.cnt_lt {t:Tree} {dep:Int→Nat} {x:Int} (h:GInv t dep x) (i:Int):cnt t.nodes i≤1000:=by
 have:=cnt_le i t.nodes (fun n hn=>h.few ((find_iff h.srt.asc).2 ⟨hn,rfl⟩))
 have:=h.nodes
 omega
theorem GInv.ent_ne {t:Tree} {dep:Int→Nat} {x:Int} (h:GInv t dep x) {i:Int} {n:Node} (hi:find t.nodes i=some n) {e:Ent} (he:e∈n.ents):e.ino≠i:=by
 intro hh
 obtain ⟨_,_,h1,_,m,hm,hu⟩:=h.ent _ _ e hi he
 rw [hh,hi] at hm; injection hm with hm; subst hm
 have hk:n.kind=2:=by
  rcases h.kind _ _ hi with hk|hk
  ·rw [(h.file _ _ hi hk).1] at he; cases he
  ·exact hk
 have:=(h.deps _ _ hi hk (by omega)).1
 rw [hu hk] at this
 omega
theorem nameOf_nm (n:Nat) (h:nameOk (nameOf n)=true):Nm (nameOf n):=by
 unfold nameOf at h ⊢
 unfold Nm
 split
 ·simp
 ·simp
 ·simp
 ·simp
 ·simp
 ·rename_i h0 h1 h2 h3 h4
  split at h
  ·exact absurd (by assumption) h0
  ·exact absurd (by assumption) h1
  ·exact absurd (by assumption) h2
  ·exact absurd (by assumption) h3
  ·exact absurd (by assumption) h4
  ·exact absurd h (by decide)
theorem enter_ok {t:Tree} {ino:Int} {s:Bytes} (h:(enterErr t ino s != 0)=false):∃d,find t.nodes ino=some d∧d.kind=2∧nameOk s=true∧findE d.ents s=none∧d.ents.length<64∧depthN t.nodes ino<12∧t.cookie<1099511627776:=by
 have h0:enterErr t ino s=0:=by simpa using h
 unfold enterErr at h0
 split at h0
 ·rename_i h1; exact absurd h0 h1
 ·rename_i h1
  obtain ⟨d,d1,d2,d3⟩:=dir_ok (show (dirN t.nodes ino).2=0 by omega)
  rw [d3] at h0
  split at h0
  ·cases h0
  ·rename_i h2
   split at h0
   ·cases h0
   ·rename_i h3
    split at h0
    ·cases h0
    ·rename_i h4
     simp only [fullN,(find_mem d1).2,Bool.or_eq_true,decide_eq_true_eq,not_or] at h4
     refine ⟨d,d1,d2,by simpa using h2,by simpa using h3,by omega,by omega,by omega⟩
theorem GInv.cw {t:Tree} {dep:Int→Nat} {x:Int} (h:GInv t dep x) (hn:t.next<1099511627776):w64 (t.next+1)=t.next+1:=wrapS (by
 obtain ⟨r,r1,_⟩:=h.root
 have:=h.num _ _ r1; omega) (by omega)
theorem addN_inv {t:Tree} {dep:Int→Nat} (h:GInv t dep 0) (ino:Int) (s:Bytes) (kind:Int) (hs:nameOk s=true→Nm s):∃dep',GInv (addN t ino s kind).1 dep' 0:=by
 unfold addN
 split
 ·exact ⟨dep,h⟩
 ·rename_i hk
  split
  ·exact ⟨dep,h⟩
  ·rename_i he
   split
   ·exact ⟨dep,h⟩
   ·rename_i hb
    obtain ⟨d,d1,d2,d3,d4,d5,d6,d7⟩:=enter_ok (by simpa using he)
    simp only [Bool.or_eq_true,decide_eq_true_eq,not_or] at hb
    have hn:t.next<1099511627776:=by omega
    rw [h.depthN_eq d1 d2] at d6
    have hk':kind=1∨kind=2:=by
     simp only [Bool.and_eq_true,bne_iff_ne,ne_eq,not_and,Decidable.not_not] at hk
     by_cases h1:kind=1
     ·exact .inl h1
     ·exact .inr (hk h1)
    have hm:=h.made d1 d2 hk' d6 (by omega) hn
    rw [h.cw hn]
    have hlt:=(h.num _ _ d1).2
    have hne:ino≠t.next:=by omega
    refine ⟨_,hm.entered (d:=ino) (n:=d) (m:=⟨t.next,kind,1,[],[],if (kind==2)=true then ino else 0⟩) ?_ d2 d4 (hs d3) ?_ ?_ ?_ ?_ d7⟩
    ·simp only; rw [find_withN h.srt.asc]; simp only [hne,↓reduceIte]; exact d1
    ·simp only; rw [find_withN h.srt.asc]; simp only [↓reduceIte]
    ·have:=(h.num _ _ d1).1; omega
    ·intro h2
     simp only at h2
     simp [h2]
    ·simp only [hne,↓reduceIte]; exact d6
theorem lnN_inv {t:Tree} {dep:Int→Nat} (h:GInv t dep 0) (ino to:Int) (s:Bytes) (hs:nameOk s=true→Nm s):GInv (lnN t ino to s).1 dep 0:=by
 unfold lnN
 split
 ·exact h
 ·rename_i hf
  split
  ·exact h
  ·rename_i hk
   split
   ·exact h
   ·rename_i he
    obtain ⟨d,d1,d2,d3,d4,d5,d6,d7⟩:=enter_ok (by simpa using he)
    rw [h.depthN_eq d1 d2] at d6
    cases hi:find t.nodes ino with
    |none=>simp [hi] at hf
    |some n =>
     simp only [nodeN,hi,Option.getD_some] at hk ⊢
     have hk1:n.kind=1:=by
      rcases h.kind _ _ hi with h1|h1
      ·exact h1
      ·simp [h1] at hk
     have hlk:=h.links _ _ hi
     rw [if_neg (by have:=(h.num _ _ hi).1; omega)] at hlk
     have hcl:=h.cnt_lt ino
     have hw:w64 (n.links+1)=n.links+1:=wrapS (by omega) (by omega)
     rw [hw]
     obtain ⟨f1,f2,f3⟩:=h.file _ _ hi hk1
     have hg:=h.file' (n':={ n with links:=n.links+1 }) (x':=ino) hi hk1 (find_mem hi).2 hk1 rfl rfl f3 (fun i h0=>by
      simp only
      rw [if_neg (show i≠0 by omega)]
      split<;>omega)
     have hne:to≠ino:=fun hh=>by subst hh; rw [hi] at d1; injection d1 with d1; subst d1; omega
     refine hg.entered (d:=to) (n:=d) (m:={ n with links:=n.links+1 }) ?_ d2 d4 (hs d3) ?_ ?_ ?_ d6 d7
     ·simp only; rw [find_withN h.srt.asc]; simp only [h.ino hi,hne,↓reduceIte]; exact d1
     ·simp only; rw [find_withN h.srt.asc]; simp only [h.ino hi,↓reduceIte]
     ·intro hh; subst hh
      obtain ⟨r,r1,r2,_⟩:=h.root
      rw [hi] at r1; injection r1 with r1; subst r1; omega
     ·intro h2; simp only at h2; omega
theorem GInv.unnamed {t:Tree} {dep:Int→Nat} {k:Int} {n:Node} (h:GInv t dep k) (hk:find t.nodes k=some n) (he:n.ents=[]) (h1:k≠1):GInv ⟨unnamedN t.nodes k,t.next,t.cookie⟩ dep 0:=by
 unfold unnamedN
 simp only [nodeN,hk,Option.getD_some]
 have hl:=h.links _ _ hk
 simp only [↓reduceIte] at hl
 split
 ·rename_i h2
  have:=h.one _ _ hk (by simpa using h2) h1
  exact h.drop (.inl rfl) hk he h1 (by omega)
 ·rename_i h2
  have hk1:n.kind=1:=by
   rcases h.kind _ _ hk with h1|h1
   ·exact h1
   ·simp [h1] at h2
  have hcl:=h.cnt_lt k
  have hw:w64 (n.links-1)=n.links-1:=wrapS (by omega) (by omega)
  rw [hw]
  obtain ⟨f1,f2,f3⟩:=h.file _ _ hk hk1
  exact h.file' (n':={ n with links:=n.links-1 }) (x':=0) hk hk1 (find_mem hk).2 hk1 rfl rfl f3 (fun i h0=>by
   simp only
   rw [if_neg (show i≠0 by omega)]
   split<;>omega)
theorem GInv.un {t:Tree} {dep:Int→Nat} (h:GInv t dep 0) {d:Int} {n m:Node} {s:Bytes} {e:Ent} (hd:find t.nodes d=some n) (he:findE n.ents s=some e) (hm:find t.nodes e.ino=some m) (hm0:m.ents=[]):GInv ⟨unnamedN (leftN t.nodes d s) e.ino,t.next,t.cookie⟩ dep 0:=by
 have hem:=(findE_mem he).1
 have hl:=h.left hd he
 refine hl.unnamed (n:=m) ?_ hm0 (h.ent _ _ e hd hem).2.2.1
 simp only
 rw [find_leftN h.srt.asc hd,if_neg (h.ent_ne hd hem)]
 exact hm
theorem unN_inv {t:Tree} {dep:Int→Nat} (h:GInv t dep 0) (ino:Int) (s:Bytes):GInv (unN t ino s).1 dep 0:=by
 unfold unN
 split
 ·exact h
 ·rename_i hl
  obtain ⟨d,e,d1,d2,d3,d4,d5⟩:=look_ok (by simpa using hl)
  rw [d5]
  split
  ·exact h
  ·rename_i h0
   obtain ⟨_,_,_,_,m,hm,_⟩:=h.ent _ _ e d1 (findE_mem d4).1
   simp only [nodeN,hm,Option.getD_some,decide_eq_true_eq] at h0
   exact h.un d1 d4 hm (List.length_eq_zero_iff.1 (by omega))
theorem putN_inv {t:Tree} {dep:Int→Nat} (h:GInv t dep 0) (ino:Int) (data:Bytes):GInv (putN t ino data).1 dep 0:=by
 unfold putN
 split
 ·exact h
 ·rename_i hf
  split
  ·exact h
  ·rename_i hk
   split
   ·exact h
   ·rename_i hd
    cases hi:find t.nodes ino with
    |none=>simp [hi] at hf
    |some n =>
     simp only [nodeN,hi,Option.getD_some] at hk ⊢
     have hk1:n.kind=1:=by
      rcases h.kind _ _ hi with h1|h1
      ·exact h1
      ·simp [h1] at hk
     simp only [decide_eq_true_eq] at hd
     exact h.file' (n':={ n with data:=data }) (x':=0) hi hk1 (find_mem hi).2 hk1 rfl rfl (by simp only; omega) (fun i h0=>by
      simp only
      rw [if_neg (show i≠0 by omega)]
      split<;>omega)
theorem freeN_inv {t:Tree} {dep:Int→Nat} (h:GInv t dep 0) (ino:Int):GInv (freeN t ino).1 dep 0:=by
 unfold freeN
 split
 ·exact h
 ·rename_i hf
  split
  ·exact h
  ·rename_i hk
   split
   ·exact h
   ·rename_i hd
    cases hi:find t.nodes ino with
    |none=>simp [hi] at hf
    |some n =>
     simp only [nodeN,hi,Option.getD_some] at hk hd
     have hk1:n.kind=1:=by
      rcases h.kind _ _ hi with h1|h1
      ·exact h1
      ·simp [h1] at hk
     simp only [decide_eq_true_eq] at hd
     have hl:=h.links _ _ hi
     rw [if_neg (by have:=(h.num _ _ hi).1; omega)] at hl
     refine h.drop (.inr rfl) hi (h.file _ _ hi hk1).1 ?_ (by omega)
     intro hh; subst hh
     obtain ⟨r,r1,r2,_⟩:=h.root
     rw [hi] at r1; injection r1 with r1; subst r1; omega
end Go.Proofs.YtannopdcbocngaaGreatDoor
namespace Go.Proofs.YtannopdcbocngaaGreatDoor
open Go Go.Abs
theorem asc_ext:∀ {a b:List Node},Asc a→Asc b→(∀m,m∈a↔m∈b)→a=b
 | [],[],_,_,_=>rfl
 | [],y::b,_,_,h=>by have:=(h y).2 List.mem_cons_self; cases this
 |x::a,[],_,_,h=>by have:=(h x).1 List.mem_cons_self; cases this
 |x::a,y::b,ha,hb,h=>by
  obtain ⟨a1,a2⟩:=List.pairwise_cons.1 ha
  obtain ⟨b1,b2⟩:=List.pairwise_cons.1 hb
  have hxy:x=y:=by
   rcases List.mem_cons.1 ((h x).1 List.mem_cons_self) with h1|h1
   ·exact h1
   ·rcases List.mem_cons.1 ((h y).2 List.mem_cons_self) with h2|h2
    ·exact h2.symm
    ·have:=b1 x h1; have:=a1 y h2; omega
  subst hxy
  rw [asc_ext a2 b2 (fun m=>?_)]
  constructor
  ·intro hm
   rcases List.mem_cons.1 ((h m).1 (List.mem_cons_of_mem _ hm)) with h1|h1
   ·subst h1; have:=a1 m hm; omega
   ·exact h1
  ·intro hm
   rcases List.mem_cons.1 ((h m).2 (List.mem_cons_of_mem _ hm)) with h1|h1
   ·subst h1; have:=b1 m hm; omega
   ·exact h1
theorem find_ext {a b:List Node} (ha:Asc a) (hb:Asc b) (h:∀i,find a i=find b i):a=b :=
 asc_ext ha hb fun m=>by
  constructor
  ·intro hm
   have:=(find_iff ha).2 ⟨hm,rfl⟩
   rw [h] at this
   exact (find_mem this).1
  ·intro hm
   have:=(find_iff hb).2 ⟨hm,rfl⟩
   rw [←h] at this
   exact (find_mem this).1
theorem unnamedN_asc {nodes:List Node} (h:Asc nodes) (k:Int):Asc (unnamedN nodes k):=by
 unfold unnamedN
 split
 ·exact withoutN_asc h _
 ·exact withN_asc h _
theorem leftN_asc {nodes:List Node} (h:Asc nodes) (k:Int) (s:Bytes):Asc (leftN nodes k s):=withN_asc h _
def lessN (n:Node):Option Node:=if (n.kind==2)=true then none else some { n with links:=w64 (n.links-1) }
theorem find_unnamedN {nodes:List Node} (h:Asc nodes) {k:Int} {n:Node} (hk:find nodes k=some n) (i:Int):find (unnamedN nodes k) i=if i=k then lessN n else find nodes i:=by
 unfold unnamedN lessN
 simp only [nodeN,hk,Option.getD_some]
 split
 ·rw [find_withoutN h]
 ·rw [find_withN h]
  simp only [(find_mem hk).2]
theorem dropE_comm (l:List Ent) (a b:Bytes):dropE (dropE l a) b=dropE (dropE l b) a:=by
 simp only [dropE,List.filter_filter]
 congr 1
 funext e
 rw [Bool.and_comm]
theorem un_first {nodes:List Node} (h:Asc nodes) {f to y:Int} {s nm:Bytes} {dF dT m:Node} (hF:find nodes f=some dF) (hT:find nodes to=some dT) (hy:find nodes y=some m) (h1:y≠f) (h2:y≠to) :
  unnamedN (leftN (leftN nodes f s) to nm) y=leftN (unnamedN (leftN nodes to nm) y) f s:=by
 have a1:=leftN_asc h f s
 have a2:=leftN_asc h to nm
 have a3:=leftN_asc a1 to nm
 have a4:=unnamedN_asc a2 y
 have f1:=find_leftN h hF (s:=s)
 have f2:=find_leftN h hT (s:=nm)
 have hy1:find (leftN nodes to nm) y=some m:=by rw [f2,if_neg h2]; exact hy
 have f4:=find_unnamedN a2 hy1
 obtain ⟨dT',hT'⟩:∃dT',find (leftN nodes f s) to=some dT':=by rw [f1]; split<;>simp_all
 have f3:=find_leftN a1 hT' (s:=nm)
 have hy3:find (leftN (leftN nodes f s) to nm) y=some m:=by rw [f3,if_neg h2,f1,if_neg h1]; exact hy
 have f5:=find_unnamedN a3 hy3
 obtain ⟨dF',hF'⟩:∃dF',find (unnamedN (leftN nodes to nm) y) f=some dF':=by rw [f4,if_neg (fun hh=>h1 hh.symm),f2]; split<;>simp_all
 have f6:=find_leftN a4 hF' (s:=s)
 refine find_ext (unnamedN_asc a3 y) (leftN_asc a4 f s) (fun i=>?_)
 rw [f5,f6,f4,f3]
 rw [f1] at hT'
 rw [f4,if_neg (fun hh=>h1 hh.symm),f2] at hF'
 by_cases i1:i=y
 ·subst i1; simp [h1]
 ·simp only [i1,↓reduceIte]
  by_cases i2:i=to
  ·subst i2
   simp only [↓reduceIte]
   by_cases i3:i=f
   ·subst i3
    simp only [↓reduceIte] at hT' hF' ⊢
    injection hT' with hT'; injection hF' with hF'
    rw [←hT',←hF']
    rw [hF] at hT; injection hT with hT; subst hT
    simp only [dropE_comm]
   ·simp only [i3,↓reduceIte] at hT' ⊢
    rw [f2]; simp only [↓reduceIte]
    rw [hT] at hT'; injection hT' with hT'; rw [hT']
  ·simp only [i2,↓reduceIte]
   rw [f1,f2]
   by_cases i3:i=f
   ·subst i3
    simp only [↓reduceIte,i2] at hF' ⊢
    rw [hF] at hF'; injection hF' with hF'; rw [hF']
   ·simp only [i3,i2,↓reduceIte]
theorem GInv.move0 {t:Tree} {dep dep':Int→Nat} {f to:Int} {s nm:Bytes} {dF dT m:Node} {e:Ent} (h:GInv t dep 0) (hF:find t.nodes f=some dF) (he:findE dF.ents s=some e) (hT:find t.nodes to=some dT) (hTk:dT.kind=2) (hfree:findE dT.ents nm=none) (hnm:Nm nm)
  (hm:find t.nodes e.ino=some m) (hne:e.ino≠to) (hd12:dep' to<12) (hck:t.cookie<1099511627776)
  (hcase:(m.kind=1∧dep'=dep)∨(m.kind=2∧dep' 1=0∧(∀i n,find t.nodes i=some n→n.kind=2→i≠1→i≠e.ino→dep' i=dep' n.up+1)∧dep' e.ino=dep' to+1 ∧
   ∀i n,find t.nodes i=some n→n.kind=2→dep' i≤12∧(dep' i=12→n.ents=[]))):GInv (moveN t f s to nm e.ino 0) dep' 0:=by
 have hem:=(findE_mem he).1
 have hnf:e.ino≠f:=h.ent_ne hF hem
 have h1:e.ino≠1:=(h.ent _ _ e hF hem).2.2.1
 have hl:=h.left hF he
 have fl:=find_leftN h.srt.asc hF (s:=s)
 have hmx:find (leftN t.nodes f s) e.ino=some m:=by rw [fl,if_neg hnf]; exact hm
 obtain ⟨d1,g1,g2,g3⟩:∃d1,find (leftN t.nodes f s) to=some d1∧d1.kind=2∧findE d1.ents nm=none:=by
  rw [fl]
  split
  ·rename_i hh
   subst hh
   rw [hF] at hT; injection hT with hT; subst hT
   exact ⟨_,rfl,hTk,findE_dropE_none hfree⟩
  ·exact ⟨dT,hT,hTk,hfree⟩
 have hnode:nodeN t.nodes e.ino=m:=by simp [nodeN,hm]
 unfold moveN
 simp only [hnode,bne_self_eq_false,Bool.false_eq_true,↓reduceIte]
 rcases hcase with ⟨hk,rfl⟩|⟨hk,c1,c2,c3,c4⟩
 ·rw [if_neg (by simp [hk])]
  exact hl.entered g1 g2 g3 hnm hmx h1 (fun h2=>by omega) hd12 hck
 ·rw [if_pos (by simp [hk])]
  have hs:=hl.setUp (dep':=dep') hmx hk h1 g1 g2 c1 (fun i n hi hk2 hi1 hie=>by
    simp only [fl] at hi
    split at hi
    ·rename_i hh; subst hh
     injection hi with hi; subst hi
     exact c2 i dF hF hk2 hi1 hie
    ·exact c2 _ _ hi hk2 hi1 hie) c3 (fun i n hi hk2=>by
    simp only [fl] at hi
    split at hi
    ·rename_i hh; subst hh
     injection hi with hi; subst hi
     obtain ⟨q1,q2⟩:=c4 i dF hF hk2
     exact ⟨q1,fun h12=>by simp [q2 h12,dropE]⟩
    ·exact c4 _ _ hi hk2)
  have hmi:m.ino=e.ino:=(find_mem hm).2
  have fw:=find_withN (leftN_asc h.srt.asc f s) { m with up:=to }
  refine hs.entered (n:=d1) (m:={ m with up:=to }) ?_ g2 g3 hnm ?_ h1 (fun _=>rfl) hd12 hck
  ·simp only
   rw [fw]
   rw [if_neg (show ¬to=m.ino from fun hh=>hne (by omega))]
   exact g1
  ·simp only
   rw [fw]
   simp only [hmi,↓reduceIte]
end Go.Proofs.YtannopdcbocngaaGreatDoor
