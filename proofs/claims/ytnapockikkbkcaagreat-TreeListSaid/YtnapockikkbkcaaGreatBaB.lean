import Derived.Test.YtnapockikkbkcaaGreatProg
import Derived.KernelRfl
import Derived.Laws.Strings
import Derived.Test.YtnapockikkbkcaaGreatBaA
set_option linter.unusedSimpArgs false
set_option linter.unusedVariables false
set_option linter.defProp false
namespace Go.Proofs.YtnapockikkbkcaaGreat
open Go Go.Abs
def q42_0 : ACode :=
 (.seq (.region [
 ob 6 (.faddr 4 (.tmp 2)),
 ob 7 (.load1 (.tmp 6)),
 ob 8 (.mv (.tmp 1)),
 ob 9 (.call 76 [(.tmp 7), (.tmp 8), (.cst (.func 77 []))]),
 ob 10 (.extract (.tmp 9) 0),
 ob 11 (.extract (.tmp 9) 1),
 ob 4 (.mv (.tmp 10)),
 ob 5 (.mv (.tmp 11))] false [4, 5]) (.ret))
def E42 := exK_head q42_0.eq_1
def ann42 : Ann := { n := 12, own := [], lv := [(0, [1, 2]), (1, [4, 5])], lp := [] }
def fn42 : AFn := AFn.mk 2 [.tmp 4, .tmp 5]
  (.seq (.region [
  ob 2 (.box (.tmp 0)),
  ob 4 (.mv (.cst (.int .i64 0))),
  ob 5 (.mv (.cst (.bool false)))] false [1, 2]) q42_0)
theorem ok42 : compFn Tryz.prog ann42 Tryz.f42 = some fn42 := by kernel_rfl
def q43_0 : ACode :=
 (.seq (.region [
 ob 16 (.build [(.int .i64 0), (.int .i64 0), (.int .i64 0), (.slice .c0 []), (.slice .c0 []), (.int .i64 0)] []),
 ox (.store 6 (.tmp 4) (.tmp 16)),
 ob 5 (.mv (.cst (.bool false)))] false [4, 5]) (.ret))
def q43_1 : ACode :=
 (.seq (.region [
 ob 17 (.mv (.tmp 0)),
 ob 18 (.chk (.tmp 17)),
 ob 19 (.faddr 0 (.tmp 18)),
 ob 20 (.faddr 0 (.tmp 19)),
 ob 21 (.load1 (.tmp 20)),
 ob 22 (.mv (.tmp 6)),
 ob 23 (.iaddr 6 (.tmp 21) (.tmp 22)),
 ob 24 (.loadA 6 (.tmp 23)),
 ox (.store 6 (.tmp 4) (.tmp 24)),
 ob 5 (.mv (.cst (.bool true)))] false [4, 5]) (.ret))
def q43_2 : ACode :=
 (.seq (.seq (.region [
 ob 14 (.mv (.tmp 7)),
 ob 15 (.not (.tmp 14))] false [0, 4, 6, 15]) (.cond (.tmp 15) q43_0 (.skip))) q43_1)
def q43_3 : ACode :=
 (.seq (.region [
 ob 9 (.mv (.tmp 0)),
 ob 10 (.mv (.tmp 1)),
 ob 11 (.call 79 [(.tmp 9), (.tmp 10)]),
 ob 8 (.mv (.tmp 11)),
 ob 12 (.extract (.tmp 8) 0),
 ob 13 (.extract (.tmp 8) 1),
 ob 6 (.mv (.tmp 12)),
 ob 7 (.mv (.tmp 13))] false [0, 4, 6, 7]) q43_2)
def E43 := And.intro (exK_head q43_0.eq_1) (And.intro (exK_head q43_1.eq_1) (And.intro (exK_head q43_2.eq_1) (exK_head q43_3.eq_1)))
def ann43 : Ann := { n := 25, own := [], lv := [(0, [0, 1, 4]), (1, [0, 4, 6, 7]), (2, [0, 4, 6, 15]), (3, [4, 5]), (4, [4, 5])], lp := [] }
def fn43 : AFn := AFn.mk 2 [.cellA 4 6, .tmp 5]
  (.seq (.region [
  ob 4 (.box0 [(.int .i64 0), (.int .i64 0), (.int .i64 0), (.slice .c0 []), (.slice .c0 []), (.int .i64 0)]),
  ob 5 (.mv (.cst (.bool false)))] false [0, 1, 4]) q43_3)
theorem ok43 : compFn Tryz.prog ann43 Tryz.f43 = some fn43 := by kernel_rfl
def q44_0 : ACode :=
 (.seq (.region [
 ob 36 (.mv (.tmp 5)),
 ob 4 (.mv (.tmp 36))] false [4]) (.ret))
def q44_1 : ACode :=
 (.region [
 ob 39 (.mv (.tmp 5)),
 ob 40 (.mv (.tmp 1)),
 ob 41 (.lits 1 [(.tmp 40)]),
 ob 42 (.append 1 8 (.tmp 39) (.tmp 41)),
 ob 5 (.mv (.tmp 42))] false [0, 1, 5])
def q44_2 : ACode :=
 (.seq (.region [
 ob 37 (.faddr 5 (.tmp 6)),
 ob 38 (.load1 (.tmp 37)),
 ob 1 (.mv (.tmp 38))] false [0, 1, 5]) q44_1)
def q44_3 : ACode :=
 (.seq (.seq (.region [
 ob 29 (.mv (.tmp 7)),
 ob 30 (.not (.tmp 29)),
 ob 31 (.mv (.tmp 30)),
 og 32 31 false (.faddr 1 (.tmp 6)),
 og 33 31 false (.load1 (.tmp 32)),
 og 34 31 false (.bin .neq (.tmp 33) (.cst (.int .i64 2))),
 ob 35 (.pick (.tmp 31) (.cst (.bool true)) (.tmp 34))] false [0, 5, 6, 35]) (.cond (.tmp 35) q44_0 (.skip))) q44_2)
def q44_4 : ACode :=
 (.block 1 (.seq (.region [
 ob 24 (.mv (.tmp 0)),
 ob 25 (.mv (.tmp 1)),
 ob 26 (.call 43 [(.tmp 24), (.tmp 25)]),
 ob 23 (.mv (.tmp 26)),
 ob 27 (.extract (.tmp 23) 0),
 ob 28 (.extract (.tmp 23) 1),
 ob 6 (.box0 [(.int .i64 0), (.int .i64 0), (.int .i64 0), (.slice .c0 []), (.slice .c0 []), (.int .i64 0)]),
 ox (.store 6 (.tmp 6) (.tmp 27)),
 ob 7 (.mv (.tmp 28))] false [0, 5, 6, 7]) q44_3))
def lb44_0 : ACode :=
 (.seq (.seq (.region [
 ob 10 (.mv (.tmp 1)),
 ob 11 (.bin .neq (.tmp 10) (.cst (.int .i64 1))),
 ob 12 (.mv (.tmp 11)),
 og 13 12 true (.mv (.tmp 5)),
 og 14 12 true (.lenV (.tmp 13)),
 og 15 12 true (.mv (.tmp 0)),
 og 16 12 true (.chk (.tmp 15)),
 og 17 12 true (.faddr 0 (.tmp 16)),
 og 18 12 true (.faddr 0 (.tmp 17)),
 og 19 12 true (.load1 (.tmp 18)),
 og 20 12 true (.lenV (.tmp 19)),
 og 21 12 true (.bin .leq (.tmp 14) (.tmp 20)),
 ob 22 (.pick (.tmp 12) (.tmp 21) (.cst (.bool false)))] false [0, 1, 5, 22]) (.cond (.tmp 22) (.skip) (.exit 0))) q44_4)
def q44_5 : ACode :=
 (.seq (.region [
 ob 43 (.mv (.tmp 5)),
 ob 4 (.mv (.tmp 43))] false [4]) (.ret))
def q44_6 : ACode :=
 (.seq (.block 0 (.loop [0, 1, 5] lb44_0)) q44_5)
def q44_7 : ACode :=
 (.seq (.region [
 ob 8 (.mv (.tmp 1)),
 ob 9 (.litsO 1 [(.tmp 8)]),
 ob 5 (.mv (.tmp 9))] false [0, 1, 5]) q44_6)
def E44 := And.intro (exK_head q44_0.eq_1) (And.intro (exK_head q44_1.eq_1) (And.intro (exK_head q44_2.eq_1) (And.intro (exK_head q44_3.eq_1) (And.intro (exK_head q44_4.eq_1) (And.intro (exK_head lb44_0.eq_1) (And.intro (exK_head q44_5.eq_1) (And.intro (exK_head q44_6.eq_1) (exK_head q44_7.eq_1))))))))
def ann44 : Ann := { n := 44, own := [9], lv := [(0, [0, 1]), (1, [0, 1, 5]), (2, [0, 1, 5, 22]), (3, [0, 5, 6, 7]), (4, [0, 5, 6, 35]), (5, [4]), (6, [0, 1, 5]), (7, [0, 1, 5]), (8, [4])], lp := [(2, [0, 1, 5])] }
def fn44 : AFn := AFn.mk 2 [.tmp 4]
  (.seq (.region [
  ob 4 (.mv (.cst (.slice .c0 [])))] false [0, 1]) q44_7)
theorem ok44 : compFn Tryz.prog ann44 Tryz.f44 = some fn44 := by kernel_rfl
def q45_0 : ACode :=
 (.seq (.region [
 ob 5 (.mv (.tmp 0)),
 ob 6 (.mv (.tmp 1)),
 ob 7 (.call 80 [(.tmp 5), (.tmp 6)]),
 ob 8 (.bin .geq (.tmp 7) (.cst (.int .i64 0))),
 ob 4 (.mv (.tmp 8))] false [4]) (.ret))
def E45 := exK_head q45_0.eq_1
def ann45 : Ann := { n := 9, own := [], lv := [(0, [0, 1]), (1, [4])], lp := [] }
def fn45 : AFn := AFn.mk 2 [.tmp 4]
  (.seq (.region [
  ob 4 (.mv (.cst (.bool false)))] false [0, 1]) q45_0)
theorem ok45 : compFn Tryz.prog ann45 Tryz.f45 = some fn45 := by kernel_rfl
def q46_0 : ACode :=
 (.seq (.region [
 ob 4 (.mv (.cst (.int .i64 73)))] false [4]) (.ret))
def q46_1 : ACode :=
 (.seq (.region [
 ob 4 (.mv (.cst (.int .i64 72)))] false [4]) (.ret))
def q46_2 : ACode :=
 (.seq (.region [
 ob 4 (.mv (.cst (.int .i64 74)))] false [4]) (.ret))
def q46_3 : ACode :=
 (.seq (.region [
 ob 24 (.faddr 4 (.tmp 3)),
 ob 25 (.load1 (.tmp 24)),
 ob 26 (.lenV (.tmp 25)),
 ob 27 (.bin .gtr (.tmp 26) (.cst (.int .i64 0))),
 ob 23 (.mv (.tmp 27))] false [23]) (.cond (.tmp 23) q46_2 (.skip)))
def q46_4 : ACode :=
 (.seq (.region [
 ob 15 (.faddr 1 (.tmp 2)),
 ob 16 (.load1 (.tmp 15)),
 ob 17 (.bin .neq (.tmp 16) (.cst (.int .i64 2))),
 ob 18 (.mv (.tmp 17)),
 og 19 18 true (.faddr 1 (.tmp 3)),
 og 20 18 true (.load1 (.tmp 19)),
 og 21 18 true (.bin .eql (.tmp 20) (.cst (.int .i64 2))),
 ob 22 (.pick (.tmp 18) (.tmp 21) (.cst (.bool false))),
 ob 14 (.mv (.tmp 22))] false [3, 14]) (.cond (.tmp 14) q46_1 q46_3))
def q46_5 : ACode :=
 (.seq (.region [
 ob 4 (.mv (.cst (.int .i64 0)))] false [4]) (.ret))
def q46_6 : ACode :=
 (.seq (.block 0 (.seq (.region [
 ob 6 (.faddr 1 (.tmp 2)),
 ob 7 (.load1 (.tmp 6)),
 ob 8 (.bin .eql (.tmp 7) (.cst (.int .i64 2))),
 ob 9 (.mv (.tmp 8)),
 og 10 9 true (.faddr 1 (.tmp 3)),
 og 11 9 true (.load1 (.tmp 10)),
 og 12 9 true (.bin .neq (.tmp 11) (.cst (.int .i64 2))),
 ob 13 (.pick (.tmp 9) (.tmp 12) (.cst (.bool false))),
 ob 5 (.mv (.tmp 13))] false [2, 3, 5]) (.cond (.tmp 5) q46_0 q46_4))) q46_5)
def E46 := And.intro (exK_head q46_0.eq_1) (And.intro (exK_head q46_1.eq_1) (And.intro (exK_head q46_2.eq_1) (And.intro (exK_head q46_3.eq_1) (And.intro (exK_head q46_4.eq_1) (And.intro (exK_head q46_5.eq_1) (exK_head q46_6.eq_1))))))
def ann46 : Ann := { n := 28, own := [], lv := [(0, [2, 3]), (1, [2, 3, 5]), (2, [4]), (3, [3, 14]), (4, [4]), (5, [23]), (6, [4]), (7, [4])], lp := [] }
def fn46 : AFn := AFn.mk 2 [.tmp 4]
  (.seq (.region [
  ob 2 (.box (.tmp 0)),
  ob 3 (.box (.tmp 1)),
  ob 4 (.mv (.cst (.int .i64 0)))] false [2, 3]) q46_6)
theorem ok46 : compFn Tryz.prog ann46 Tryz.f46 = some fn46 := by kernel_rfl
def q47_0 : ACode :=
 (.seq (.region [
 ob 11 (.load1 (.tmp 3)),
 ob 12 (.chk (.tmp 11)),
 ob 13 (.faddr 0 (.tmp 12)),
 ob 14 (.faddr 0 (.tmp 13)),
 ob 15 (.load1 (.tmp 14)),
 ob 16 (.fn 83 [(.tmp 3), (.tmp 5), (.tmp 7), (.tmp 4)]),
 ob 17 (.call 82 [(.tmp 15), (.tmp 16)]),
 ob 6 (.mv (.tmp 17))] false [6]) (.ret))
def q47_1 : ACode :=
 (.seq (.region [
 ob 8 (.load1 (.tmp 3)),
 ob 9 (.load1 (.tmp 4)),
 ob 10 (.call 81 [(.tmp 8), (.tmp 9)]),
 ob 7 (.box0 [(.int .i64 0)]),
 ox (.store 1 (.tmp 7) (.tmp 10))] false [3, 4, 5, 7]) q47_0)
def E47 := And.intro (exK_head q47_0.eq_1) (exK_head q47_1.eq_1)
def ann47 : Ann := { n := 18, own := [], lv := [(0, [3, 4, 5]), (1, [3, 4, 5, 7]), (2, [6])], lp := [] }
def fn47 : AFn := AFn.mk 3 [.tmp 6]
  (.seq (.region [
  ob 3 (.box (.tmp 0)),
  ob 4 (.box (.tmp 1)),
  ob 5 (.box (.tmp 2)),
  ob 6 (.mv (.cst (.bool false)))] false [3, 4, 5]) q47_1)
theorem ok47 : compFn Tryz.prog ann47 Tryz.f47 = some fn47 := by kernel_rfl
def q48_0 : ACode :=
 (.region [
 ob 31 (.mv (.tmp 0)),
 ob 32 (.loadA 6 (.tmp 6)),
 ob 33 (.callF 50 [(.tmp 31), (.tmp 32)])] false [])
def q48_1 : ACode :=
 (.seq (.region [
 ob 23 (.faddr 4 (.tmp 6)),
 ob 24 (.load1 (.tmp 23)),
 ob 25 (.callD 58 [(.tmp 24)]),
 ob 26 (.mv (.tmp 8)),
 ob 27 (.mv (.tmp 8)),
 ob 28 (.bin .add (.tmp 27) (.cst (.int .i64 1))),
 ob 29 (.callD 84 [(.tmp 25), (.tmp 26), (.tmp 28)]),
 ob 30 (.faddr 4 (.tmp 6)),
 ox (.store 1 (.tmp 30) (.tmp 29))] false [0, 6]) q48_0)
def q48_2 : ACode :=
 (.seq (.region [
 ob 22 (.mv (.tmp 9))] false [0, 6, 8, 22]) (.cond (.tmp 22) q48_1 (.skip)))
def q48_3 : ACode :=
 (.seq (.region [
 ob 17 (.loadA 6 (.tmp 6)),
 ob 18 (.mv (.tmp 2)),
 ob 19 (.call 42 [(.tmp 17), (.tmp 18)]),
 ob 16 (.mv (.tmp 19)),
 ob 20 (.extract (.tmp 16) 0),
 ob 21 (.extract (.tmp 16) 1),
 ob 8 (.mv (.tmp 20)),
 ob 9 (.mv (.tmp 21))] false [0, 6, 8, 9]) q48_2)
def E48 := And.intro (exK_head q48_0.eq_1) (And.intro (exK_head q48_1.eq_1) (And.intro (exK_head q48_2.eq_1) (exK_head q48_3.eq_1)))
def ann48 : Ann := { n := 34, own := [1000058, 1000084, 2000050], lv := [(0, [0, 2, 6]), (1, [0, 6, 8, 9]), (2, [0, 6, 8, 22]), (3, [0, 6]), (4, [])], lp := [] }
def fn48 : AFn := AFn.mk 3 []
  (.seq (.region [
  ob 11 (.mv (.tmp 0)),
  ob 12 (.mv (.tmp 1)),
  ob 13 (.call 43 [(.tmp 11), (.tmp 12)]),
  ob 10 (.mv (.tmp 13)),
  ob 14 (.extract (.tmp 10) 0),
  ob 15 (.extract (.tmp 10) 1),
  ob 6 (.box0 [(.int .i64 0), (.int .i64 0), (.int .i64 0), (.slice .c0 []), (.slice .c0 []), (.int .i64 0)]),
  ox (.store 6 (.tmp 6) (.tmp 14)),
  ob 7 (.mv (.tmp 15))] false [0, 2, 6]) q48_3)
theorem ok48 : compFn Tryz.prog ann48 Tryz.f48 = some fn48 := by kernel_rfl
def q49_0 : ACode :=
 (.seq (.region [
 ob 7 (.mv (.tmp 0)),
 ob 8 (.faddr 0 (.tmp 3)),
 ob 9 (.load1 (.tmp 8)),
 ob 10 (.call 75 [(.tmp 7), (.tmp 9)])] false []) (.ret))
def q49_1 : ACode :=
 (.region [
 ob 15 (.mv (.tmp 0)),
 ob 16 (.loadA 6 (.tmp 3)),
 ob 17 (.call 50 [(.tmp 15), (.tmp 16)])] false [])
def q49_2 : ACode :=
 (.seq (.region [
 ob 11 (.faddr 2 (.tmp 3)),
 ob 12 (.load1 (.tmp 11)),
 ob 13 (.bin .sub (.tmp 12) (.cst (.int .i64 1))),
 ob 14 (.faddr 2 (.tmp 3)),
 ox (.store 1 (.tmp 14) (.tmp 13))] false [0, 3]) q49_1)
def q49_3 : ACode :=
 (.seq (.seq (.region [
 ob 4 (.faddr 1 (.tmp 3)),
 ob 5 (.load1 (.tmp 4)),
 ob 6 (.bin .eql (.tmp 5) (.cst (.int .i64 2)))] false [0, 3, 6]) (.cond (.tmp 6) q49_0 (.skip))) q49_2)
def E49 := And.intro (exK_head q49_0.eq_1) (And.intro (exK_head q49_1.eq_1) (And.intro (exK_head q49_2.eq_1) (exK_head q49_3.eq_1)))
def ann49 : Ann := { n := 18, own := [], lv := [(0, [0, 3]), (1, [0, 3, 6]), (2, []), (3, [0, 3]), (4, [])], lp := [] }
def fn49 : AFn := AFn.mk 2 []
  (.seq (.region [
  ob 3 (.box (.tmp 1))] false [0, 3]) q49_3)
theorem ok49 : compFn Tryz.prog ann49 Tryz.f49 = some fn49 := by kernel_rfl
def q50_0 : ACode :=
 (.seq (.region [
 ob 24 (.mv (.tmp 0)),
 ob 25 (.chk (.tmp 24)),
 ob 26 (.faddr 0 (.tmp 25)),
 ob 27 (.faddr 0 (.tmp 26)),
 ob 28 (.load1 (.tmp 27)),
 ob 29 (.mv (.tmp 4)),
 ob 30 (.loadA 6 (.tmp 3)),
 ob 31 (.iaddr 6 (.tmp 28) (.tmp 29)),
 ox (.store 6 (.tmp 31) (.tmp 30))] true []) (.ret))
def q50_1 : ACode :=
 (.region [
 ob 32 (.mv (.tmp 0)),
 ob 33 (.mv (.tmp 0)),
 ob 34 (.chk (.tmp 33)),
 ob 35 (.faddr 0 (.tmp 34)),
 ob 36 (.faddr 0 (.tmp 35)),
 ob 37 (.load1 (.tmp 36)),
 ob 38 (.mv (.tmp 4)),
 ob 39 (.loadA 6 (.tmp 3)),
 ob 40 (.lits 6 [(.tmp 39)]),
 ob 41 (.callD 86 [(.tmp 37), (.tmp 38), (.tmp 40)]),
 ob 42 (.chk (.tmp 32)),
 ob 43 (.faddr 0 (.tmp 42)),
 ob 44 (.faddr 0 (.tmp 43)),
 ox (.store 1 (.tmp 44) (.tmp 41))] true [])
def q50_2 : ACode :=
 (.seq (.seq (.region [
 ob 23 (.mv (.tmp 5))] false [0, 3, 4, 23]) (.cond (.tmp 23) q50_0 (.skip))) q50_1)
def q50_3 : ACode :=
 (.seq (.region [
 ob 13 (.mv (.tmp 0)),
 ob 14 (.mv (.tmp 0)),
 ob 15 (.chk (.tmp 14)),
 ob 16 (.faddr 0 (.tmp 15)),
 ob 17 (.faddr 0 (.tmp 16)),
 ob 18 (.load1 (.tmp 17)),
 ob 19 (.callD 85 [(.tmp 18)]),
 ob 20 (.chk (.tmp 13)),
 ob 21 (.faddr 0 (.tmp 20)),
 ob 22 (.faddr 0 (.tmp 21)),
 ox (.store 1 (.tmp 22) (.tmp 19))] false [0, 3, 4, 5]) q50_2)
def q50_4 : ACode :=
 (.seq (.region [
 ob 7 (.mv (.tmp 0)),
 ob 8 (.faddr 0 (.tmp 3)),
 ob 9 (.load1 (.tmp 8)),
 ob 10 (.call 79 [(.tmp 7), (.tmp 9)]),
 ob 6 (.mv (.tmp 10)),
 ob 11 (.extract (.tmp 6) 0),
 ob 12 (.extract (.tmp 6) 1),
 ob 4 (.mv (.tmp 11)),
 ob 5 (.mv (.tmp 12))] false [0, 3, 4, 5]) q50_3)
def E50 := And.intro (exK_head q50_0.eq_1) (And.intro (exK_head q50_1.eq_1) (And.intro (exK_head q50_2.eq_1) (And.intro (exK_head q50_3.eq_1) (exK_head q50_4.eq_1))))
def ann50 : Ann := { n := 45, own := [1000085, 1000086], lv := [(0, [0, 3]), (1, [0, 3, 4, 5]), (2, [0, 3, 4, 5]), (3, [0, 3, 4, 23]), (4, []), (5, [])], lp := [] }
def fn50 : AFn := AFn.mk 2 []
  (.seq (.region [
  ob 3 (.box (.tmp 1))] false [0, 3]) q50_4)
theorem ok50 : compFn Tryz.prog ann50 Tryz.f50 = some fn50 := by kernel_rfl
def q51_0 : ACode :=
 (.region [
 ob 48 (.mv (.tmp 0)),
 ob 49 (.loadA 6 (.tmp 8)),
 ob 50 (.callF 50 [(.tmp 48), (.tmp 49)])] false [])
def q51_1 : ACode :=
 (.seq (.region [
 ob 39 (.mv (.tmp 0)),
 ob 40 (.chk (.tmp 39)),
 ob 41 (.faddr 0 (.tmp 40)),
 ob 42 (.faddr 2 (.tmp 41)),
 ob 43 (.load1 (.tmp 42)),
 ob 44 (.bin .add (.tmp 43) (.cst (.int .i64 1))),
 ob 45 (.chk (.tmp 39)),
 ob 46 (.faddr 0 (.tmp 45)),
 ob 47 (.faddr 2 (.tmp 46)),
 ox (.store 1 (.tmp 47) (.tmp 44))] false [0, 8]) q51_0)
def q51_2 : ACode :=
 (.seq (.region [
 ob 24 (.faddr 4 (.tmp 8)),
 ob 25 (.load1 (.tmp 24)),
 ⟨(some 26), .callD 58 [(.tmp 25)], none, true, false, []⟩,
 ob 27 (.mv (.tmp 10)),
 ob 28 (.mv (.tmp 2)),
 ob 29 (.mv (.tmp 3)),
 ob 30 (.mv (.tmp 0)),
 ob 31 (.chk (.tmp 30)),
 ob 32 (.faddr 0 (.tmp 31)),
 ob 33 (.faddr 2 (.tmp 32)),
 ob 34 (.load1 (.tmp 33)),
 ob 35 (.build [(.str []), (.int .i64 0), (.int .i64 0)] [(0, 1, (.tmp 28)), (1, 1, (.tmp 29)), (2, 1, (.tmp 34))]),
 ob 36 (.lits 3 [(.tmp 35)]),
 ob 37 (.callD 87 [(.tmp 26), (.tmp 27), (.tmp 36)]),
 ob 38 (.faddr 4 (.tmp 8)),
 ox (.store 1 (.tmp 38) (.tmp 37))] true [0, 8]) q51_1)
def q51_3 : ACode :=
 (.seq (.region [
 ob 19 (.loadA 6 (.tmp 8)),
 ob 20 (.mv (.tmp 2)),
 ob 21 (.call 42 [(.tmp 19), (.tmp 20)]),
 ob 18 (.mv (.tmp 21)),
 ob 22 (.extract (.tmp 18) 0),
 ob 23 (.extract (.tmp 18) 1),
 ob 10 (.mv (.tmp 22)),
 ob 11 (.mv (.tmp 23))] false [0, 2, 3, 8, 10]) q51_2)
def E51 := And.intro (exK_head q51_0.eq_1) (And.intro (exK_head q51_1.eq_1) (And.intro (exK_head q51_2.eq_1) (exK_head q51_3.eq_1)))
def ann51 : Ann := { n := 51, own := [1000058, 1000087, 2000050], lv := [(0, [0, 2, 3, 8]), (1, [0, 2, 3, 8, 10]), (2, [0, 8]), (3, [0, 8]), (4, [])], lp := [] }
def fn51 : AFn := AFn.mk 4 []
  (.seq (.region [
  ob 13 (.mv (.tmp 0)),
  ob 14 (.mv (.tmp 1)),
  ob 15 (.call 43 [(.tmp 13), (.tmp 14)]),
  ob 12 (.mv (.tmp 15)),
  ob 16 (.extract (.tmp 12) 0),
  ob 17 (.extract (.tmp 12) 1),
  ob 8 (.box0 [(.int .i64 0), (.int .i64 0), (.int .i64 0), (.slice .c0 []), (.slice .c0 []), (.int .i64 0)]),
  ox (.store 6 (.tmp 8) (.tmp 16)),
  ob 9 (.mv (.tmp 17))] false [0, 2, 3, 8]) q51_3)
theorem ok51 : compFn Tryz.prog ann51 Tryz.f51 = some fn51 := by kernel_rfl
def q52_0 : ACode :=
 (.seq (.region [
 ob 5 (.faddr 0 (.tmp 2)),
 ob 6 (.load1 (.tmp 5)),
 ob 7 (.faddr 0 (.tmp 3)),
 ob 8 (.load1 (.tmp 7)),
 ob 9 (.bin .eql (.tmp 6) (.tmp 8)),
 ob 10 (.mv (.tmp 9)),
 og 11 10 true (.faddr 1 (.tmp 2)),
 og 12 10 true (.load1 (.tmp 11)),
 og 13 10 true (.faddr 1 (.tmp 3)),
 og 14 10 true (.load1 (.tmp 13)),
 og 15 10 true (.bin .eql (.tmp 12) (.tmp 14)),
 ob 16 (.pick (.tmp 10) (.tmp 15) (.cst (.bool false))),
 ob 17 (.mv (.tmp 16)),
 og 18 17 true (.faddr 2 (.tmp 2)),
 og 19 17 true (.load1 (.tmp 18)),
 og 20 17 true (.faddr 2 (.tmp 3)),
 og 21 17 true (.load1 (.tmp 20)),
 og 22 17 true (.bin .eql (.tmp 19) (.tmp 21)),
 ob 23 (.pick (.tmp 17) (.tmp 22) (.cst (.bool false))),
 ob 24 (.mv (.tmp 23)),
 og 25 24 true (.faddr 5 (.tmp 2)),
 og 26 24 true (.load1 (.tmp 25)),
 og 27 24 true (.faddr 5 (.tmp 3)),
 og 28 24 true (.load1 (.tmp 27)),
 og 29 24 true (.bin .eql (.tmp 26) (.tmp 28)),
 ob 30 (.pick (.tmp 24) (.tmp 29) (.cst (.bool false))),
 ob 31 (.mv (.tmp 30)),
 og 32 31 true (.faddr 3 (.tmp 2)),
 og 33 31 true (.load1 (.tmp 32)),
 og 34 31 true (.faddr 3 (.tmp 3)),
 og 35 31 true (.load1 (.tmp 34)),
 og 36 31 true (.call 53 [(.tmp 33), (.tmp 35)]),
 ob 37 (.pick (.tmp 31) (.tmp 36) (.cst (.bool false))),
 ob 38 (.mv (.tmp 37)),
 og 39 38 true (.faddr 4 (.tmp 2)),
 og 40 38 true (.load1 (.tmp 39)),
 og 41 38 true (.faddr 4 (.tmp 3)),
 og 42 38 true (.load1 (.tmp 41)),
 og 43 38 true (.call 54 [(.tmp 40), (.tmp 42)]),
 ob 44 (.pick (.tmp 38) (.tmp 43) (.cst (.bool false))),
 ob 4 (.mv (.tmp 44))] false [4]) (.ret))
def E52 := exK_head q52_0.eq_1
def ann52 : Ann := { n := 45, own := [], lv := [(0, [2, 3]), (1, [4])], lp := [] }
def fn52 : AFn := AFn.mk 2 [.tmp 4]
  (.seq (.region [
  ob 2 (.box (.tmp 0)),
  ob 3 (.box (.tmp 1)),
  ob 4 (.mv (.cst (.bool false)))] false [2, 3]) q52_0)
theorem ok52 : compFn Tryz.prog ann52 Tryz.f52 = some fn52 := by kernel_rfl
def q53_0 : ACode :=
 (.seq (.region [
 ob 5 (.mv (.tmp 0)),
 ob 6 (.b2s (.tmp 5)),
 ob 7 (.mv (.tmp 1)),
 ob 8 (.b2s (.tmp 7)),
 ob 9 (.bin .eql (.tmp 6) (.tmp 8)),
 ob 4 (.mv (.tmp 9))] false [4]) (.ret))
def E53 := exK_head q53_0.eq_1
def ann53 : Ann := { n := 10, own := [], lv := [(0, [0, 1]), (1, [4])], lp := [] }
def fn53 : AFn := AFn.mk 2 [.tmp 4]
  (.seq (.region [
  ob 4 (.mv (.cst (.bool false)))] false [0, 1]) q53_0)
theorem ok53 : compFn Tryz.prog ann53 Tryz.f53 = some fn53 := by kernel_rfl
def q54_0 : ACode :=
 (.seq (.region [
 ob 4 (.mv (.cst (.bool false)))] false [4]) (.ret))
def q54_1 : ACode :=
 (.seq (.region [
 ob 4 (.mv (.cst (.bool false)))] false [4]) (.ret))
def q54_2 : ACode :=
 (.seq (.region [
 ob 16 (.mv (.tmp 0)),
 ob 17 (.mv (.tmp 5)),
 ob 18 (.iaddr 3 (.tmp 16) (.tmp 17)),
 ob 19 (.loadA 3 (.tmp 18)),
 ob 20 (.mv (.tmp 1)),
 ob 21 (.mv (.tmp 5)),
 ob 22 (.iaddr 3 (.tmp 20) (.tmp 21)),
 ob 23 (.loadA 3 (.tmp 22)),
 ob 24 (.eqA [.s, .i, .i] true (.tmp 19) (.tmp 23))] true [0, 1, 12, 13, 24]) (.cond (.tmp 24) q54_1 (.skip)))
def q54_3 : ACode :=
 (.region [
 ob 25 (.bin .add (.tmp 13) (.cst (.int .i64 1))),
 ob 13 (.mv (.tmp 25))] false [0, 1, 12, 13])
def q54_4 : ACode :=
 (.seq (.block 1 (.seq (.region [
 ob 15 (.mv (.tmp 13)),
 ob 5 (.mv (.tmp 15))] false [0, 1, 5, 12, 13]) q54_2)) q54_3)
def q54_5 : ACode :=
 (.seq (.cond (.tmp 14) (.skip) (.exit 0)) q54_4)
def lb54_0 : ACode :=
 (.seq (.region [
 ob 14 (.bin .lss (.tmp 13) (.tmp 12))] false [0, 1, 12, 13, 14]) q54_5)
def q54_6 : ACode :=
 (.seq (.region [
 ob 4 (.mv (.cst (.bool true)))] false [4]) (.ret))
def q54_7 : ACode :=
 (.seq (.seq (.region [
 ob 11 (.mv (.tmp 0)),
 ob 12 (.lenV (.tmp 11)),
 ob 13 (.mv (.cst (.int .i64 0)))] false [0, 1, 12, 13]) (.block 0 (.loop [0, 1, 12, 13] lb54_0))) q54_6)
def q54_8 : ACode :=
 (.seq (.seq (.region [
 ob 6 (.mv (.tmp 0)),
 ob 7 (.lenV (.tmp 6)),
 ob 8 (.mv (.tmp 1)),
 ob 9 (.lenV (.tmp 8)),
 ob 10 (.bin .neq (.tmp 7) (.tmp 9))] false [0, 1, 10]) (.cond (.tmp 10) q54_0 (.skip))) q54_7)
def E54 := And.intro (exK_head q54_0.eq_1) (And.intro (exK_head q54_1.eq_1) (And.intro (exK_head q54_2.eq_1) (And.intro (exK_head q54_3.eq_1) (And.intro (exK_head q54_4.eq_1) (And.intro (exK_head q54_5.eq_1) (And.intro (exK_head lb54_0.eq_1) (And.intro (exK_head q54_6.eq_1) (And.intro (exK_head q54_7.eq_1) (exK_head q54_8.eq_1)))))))))
def ann54 : Ann := { n := 26, own := [], lv := [(0, [0, 1]), (1, [0, 1, 10]), (2, [4]), (3, [0, 1, 12, 13]), (4, [0, 1, 12, 13, 14]), (5, [0, 1, 5, 12, 13]), (6, [0, 1, 12, 13, 24]), (7, [4]), (8, [0, 1, 12, 13]), (9, [4])], lp := [(4, [0, 1, 12, 13])] }
def fn54 : AFn := AFn.mk 2 [.tmp 4]
  (.seq (.region [
  ob 4 (.mv (.cst (.bool false)))] false [0, 1]) q54_8)
theorem ok54 : compFn Tryz.prog ann54 Tryz.f54 = some fn54 := by kernel_rfl
def q55_0 : ACode :=
 (.seq (.region [
 ob 6 (.mv (.cst (.bool false)))] false [6]) (.ret))
def q55_1 : ACode :=
 (.seq (.region [
 ob 6 (.mv (.cst (.bool false)))] false [6]) (.ret))
def q55_2 : ACode :=
 (.seq (.region [
 ob 26 (.mv (.tmp 2)),
 ob 27 (.loadA 6 (.tmp 8)),
 ob 28 (.loadA 6 (.tmp 9)),
 ob 29 (.callV (.tmp 26) [(.tmp 27), (.tmp 28)]),
 ob 30 (.not (.tmp 29))] false [1, 2, 15, 16, 17, 30]) (.cond (.tmp 30) q55_1 (.skip)))
def q55_3 : ACode :=
 (.seq (.region [
 ob 22 (.mv (.tmp 1)),
 ob 23 (.mv (.tmp 7)),
 ob 24 (.iaddr 6 (.tmp 22) (.tmp 23)),
 ob 25 (.loadA 6 (.tmp 24)),
 ob 9 (.box0 [(.int .i64 0), (.int .i64 0), (.int .i64 0), (.slice .c0 []), (.slice .c0 []), (.int .i64 0)]),
 ox (.store 6 (.tmp 9) (.tmp 25))] false [1, 2, 8, 9, 15, 16, 17]) q55_2)
def q55_4 : ACode :=
 (.region [
 ob 31 (.bin .add (.tmp 17) (.cst (.int .i64 1))),
 ob 17 (.mv (.tmp 31))] false [1, 2, 15, 16, 17])
def q55_5 : ACode :=
 (.seq (.block 1 (.seq (.region [
 ob 19 (.mv (.tmp 17)),
 ob 20 (.iaddr 6 (.tmp 15) (.tmp 17)),
 ob 21 (.loadA 6 (.tmp 20)),
 ob 8 (.box0 [(.int .i64 0), (.int .i64 0), (.int .i64 0), (.slice .c0 []), (.slice .c0 []), (.int .i64 0)]),
 ob 7 (.mv (.tmp 19)),
 ox (.store 6 (.tmp 8) (.tmp 21))] false [1, 2, 7, 8, 15, 16, 17]) q55_3)) q55_4)
def q55_6 : ACode :=
 (.seq (.cond (.tmp 18) (.skip) (.exit 0)) q55_5)
def lb55_0 : ACode :=
 (.seq (.region [
 ob 18 (.bin .lss (.tmp 17) (.tmp 16))] false [1, 2, 15, 16, 17, 18]) q55_6)
def q55_7 : ACode :=
 (.block 0 (.loop [1, 2, 15, 16, 17] lb55_0))
def q55_8 : ACode :=
 (.seq (.region [
 ob 6 (.mv (.cst (.bool true)))] false [6]) (.ret))
def q55_9 : ACode :=
 (.seq (.seq (.region [
 ob 15 (.mv (.tmp 0)),
 ob 16 (.lenV (.tmp 15)),
 ob 17 (.mv (.cst (.int .i64 0)))] false [1, 2, 15, 16, 17]) q55_7) q55_8)
def q55_10 : ACode :=
 (.seq (.seq (.region [
 ob 10 (.mv (.tmp 0)),
 ob 11 (.lenV (.tmp 10)),
 ob 12 (.mv (.tmp 1)),
 ob 13 (.lenV (.tmp 12)),
 ob 14 (.bin .neq (.tmp 11) (.tmp 13))] false [0, 1, 2, 14]) (.cond (.tmp 14) q55_0 (.skip))) q55_9)
def E55 := And.intro (exK_head q55_0.eq_1) (And.intro (exK_head q55_1.eq_1) (And.intro (exK_head q55_2.eq_1) (And.intro (exK_head q55_3.eq_1) (And.intro (exK_head q55_4.eq_1) (And.intro (exK_head q55_5.eq_1) (And.intro (exK_head q55_6.eq_1) (And.intro (exK_head lb55_0.eq_1) (And.intro (exK_head q55_7.eq_1) (And.intro (exK_head q55_8.eq_1) (And.intro (exK_head q55_9.eq_1) (exK_head q55_10.eq_1)))))))))))
def ann55 : Ann := { n := 32, own := [], lv := [(0, [0, 1, 2]), (1, [0, 1, 2, 14]), (2, [6]), (3, [1, 2, 15, 16, 17]), (4, [1, 2, 15, 16, 17, 18]), (5, [1, 2, 7, 8, 15, 16, 17]), (6, [1, 2, 8, 9, 15, 16, 17]), (7, [1, 2, 15, 16, 17, 30]), (8, [6]), (9, [1, 2, 15, 16, 17]), (10, [6])], lp := [(4, [1, 2, 15, 16, 17])] }
def fn55 : AFn := AFn.mk 3 [.tmp 6]
  (.seq (.region [
  ob 6 (.mv (.cst (.bool false)))] false [0, 1, 2]) q55_10)
theorem ok55 : compFn Tryz.prog ann55 Tryz.f55 = some fn55 := by kernel_rfl
def q56_0 : ACode :=
 (.seq (.region [
 ob 12 (.build [(.int .i64 0), (.int .i64 0), (.int .i64 0), (.slice .c0 []), (.slice .c0 []), (.int .i64 0)] []),
 ox (.store 6 (.tmp 4) (.tmp 12)),
 ob 5 (.mv (.cst (.bool false)))] false [4, 5]) (.ret))
def q56_1 : ACode :=
 (.seq (.region [
 ob 13 (.faddr 0 (.tmp 2)),
 ob 14 (.load1 (.tmp 13)),
 ob 15 (.mv (.tmp 6)),
 ob 16 (.iaddr 6 (.tmp 14) (.tmp 15)),
 ob 17 (.loadA 6 (.tmp 16)),
 ox (.store 6 (.tmp 4) (.tmp 17)),
 ob 5 (.mv (.cst (.bool true)))] false [4, 5]) (.ret))
def q56_2 : ACode :=
 (.seq (.seq (.region [
 ob 10 (.mv (.tmp 6)),
 ob 11 (.bin .lss (.tmp 10) (.cst (.int .i64 0)))] false [2, 4, 6, 11]) (.cond (.tmp 11) q56_0 (.skip))) q56_1)
def q56_3 : ACode :=
 (.seq (.region [
 ob 7 (.loadA 3 (.tmp 2)),
 ob 8 (.mv (.tmp 1)),
 ob 9 (.call 88 [(.tmp 7), (.tmp 8)]),
 ob 6 (.mv (.tmp 9))] false [2, 4, 6]) q56_2)
def E56 := And.intro (exK_head q56_0.eq_1) (And.intro (exK_head q56_1.eq_1) (And.intro (exK_head q56_2.eq_1) (exK_head q56_3.eq_1)))
def ann56 : Ann := { n := 18, own := [], lv := [(0, [1, 2, 4]), (1, [2, 4, 6]), (2, [2, 4, 6, 11]), (3, [4, 5]), (4, [4, 5])], lp := [] }
def fn56 : AFn := AFn.mk 2 [.cellA 4 6, .tmp 5]
  (.seq (.region [
  ob 2 (.box (.tmp 0)),
  ob 4 (.box0 [(.int .i64 0), (.int .i64 0), (.int .i64 0), (.slice .c0 []), (.slice .c0 []), (.int .i64 0)]),
  ob 5 (.mv (.cst (.bool false)))] false [1, 2, 4]) q56_3)
theorem ok56 : compFn Tryz.prog ann56 Tryz.f56 = some fn56 := by kernel_rfl
def q57_0 : ACode :=
 (.seq (.region [
 ob 13 (.mv (.tmp 0)),
 ob 4 (.mv (.tmp 13))] false [4]) (.ret))
def q57_1 : ACode :=
 (.region [
 ob 34 (.mv (.tmp 5)),
 ob 35 (.bin .add (.tmp 34) (.cst (.int .i64 1))),
 ob 5 (.mv (.tmp 35))] false [0, 1, 5, 6])
def q57_2 : ACode :=
 (.seq (.region [
 ob 30 (.mv (.tmp 0)),
 ob 31 (.mv (.tmp 5)),
 ob 32 (.loadA 3 (.tmp 7)),
 ob 33 (.iaddr 3 (.tmp 30) (.tmp 31)),
 ox (.store 3 (.tmp 33) (.tmp 32))] false [0, 1, 5, 6]) q57_1)
def q57_3 : ACode :=
 (.seq (.region [
 ob 26 (.mv (.tmp 1)),
 ob 27 (.loadA 3 (.tmp 7)),
 ob 28 (.callV (.tmp 26) [(.tmp 27)]),
 ob 29 (.not (.tmp 28))] false [0, 1, 5, 6, 7, 29]) (.cond (.tmp 29) q57_2 (.skip)))
def q57_4 : ACode :=
 (.region [
 ob 20 (.mv (.tmp 6)),
 ob 21 (.bin .add (.tmp 20) (.cst (.int .i64 1))),
 ob 6 (.mv (.tmp 21))] false [0, 1, 5, 6])
def q57_5 : ACode :=
 (.seq (.block 1 (.seq (.region [
 ob 22 (.mv (.tmp 0)),
 ob 23 (.mv (.tmp 6)),
 ob 24 (.iaddr 3 (.tmp 22) (.tmp 23)),
 ob 25 (.loadA 3 (.tmp 24)),
 ob 7 (.box0 [(.str []), (.int .i64 0), (.int .i64 0)]),
 ox (.store 3 (.tmp 7) (.tmp 25))] false [0, 1, 5, 6, 7]) q57_3)) q57_4)
def lb57_0 : ACode :=
 (.seq (.seq (.region [
 ob 16 (.mv (.tmp 6)),
 ob 17 (.mv (.tmp 0)),
 ob 18 (.lenV (.tmp 17)),
 ob 19 (.bin .lss (.tmp 16) (.tmp 18))] false [0, 1, 5, 6, 19]) (.cond (.tmp 19) (.skip) (.exit 0))) q57_5)
def q57_6 : ACode :=
 (.seq (.region [
 ob 39 (.mv (.tmp 0)),
 ob 40 (.mv (.tmp 5)),
 ob 41 (.sliceV 3 (.tmp 39) none (some (.tmp 40)) none),
 ob 4 (.mv (.tmp 41))] false [4]) (.ret))
def q57_7 : ACode :=
 (.seq (.region [
 ob 36 (.mv (.tmp 0)),
 ob 37 (.mv (.tmp 5)),
 ob 38 (.sliceV 3 (.tmp 36) (some (.tmp 37)) none none),
 ox (.clearA 3 [(.str []), (.int .i64 0), (.int .i64 0)] (.tmp 38))] false [0, 5]) q57_6)
def q57_8 : ACode :=
 (.seq (.seq (.region [
 ob 14 (.mv (.tmp 5)),
 ob 15 (.bin .add (.tmp 14) (.cst (.int .i64 1))),
 ob 6 (.mv (.tmp 15))] false [0, 1, 5, 6]) (.block 0 (.loop [0, 1, 5, 6] lb57_0))) q57_7)
def q57_9 : ACode :=
 (.seq (.seq (.region [
 ob 11 (.mv (.tmp 5)),
 ob 12 (.bin .eql (.tmp 11) (.cst (.int .i64 (-1))))] false [0, 1, 5, 12]) (.cond (.tmp 12) q57_0 (.skip))) q57_8)
def q57_10 : ACode :=
 (.seq (.region [
 ob 8 (.mv (.tmp 0)),
 ob 9 (.mv (.tmp 1)),
 ob 10 (.call 89 [(.tmp 8), (.tmp 9)]),
 ob 5 (.mv (.tmp 10))] false [0, 1, 5]) q57_9)
def E57 := And.intro (exK_head q57_0.eq_1) (And.intro (exK_head q57_1.eq_1) (And.intro (exK_head q57_2.eq_1) (And.intro (exK_head q57_3.eq_1) (And.intro (exK_head q57_4.eq_1) (And.intro (exK_head q57_5.eq_1) (And.intro (exK_head lb57_0.eq_1) (And.intro (exK_head q57_6.eq_1) (And.intro (exK_head q57_7.eq_1) (And.intro (exK_head q57_8.eq_1) (And.intro (exK_head q57_9.eq_1) (exK_head q57_10.eq_1)))))))))))
def ann57 : Ann := { n := 42, own := [], lv := [(0, [0, 1]), (1, [0, 1, 5]), (2, [0, 1, 5, 12]), (3, [4]), (4, [0, 1, 5, 6]), (5, [0, 1, 5, 6, 19]), (6, [0, 1, 5, 6]), (7, [0, 1, 5, 6, 7]), (8, [0, 1, 5, 6, 7, 29]), (9, [0, 1, 5, 6]), (10, [0, 1, 5, 6]), (11, [0, 5]), (12, [4])], lp := [(5, [0, 1, 5, 6])] }
def fn57 : AFn := AFn.mk 2 [.tmp 4]
  (.seq (.region [
  ob 4 (.mv (.cst (.slice .c0 [])))] false [0, 1]) q57_10)
theorem ok57 : compFn Tryz.prog ann57 Tryz.f57 = some fn57 := by kernel_rfl
def q59_0 : ACode :=
 (.seq (.region [
 ob 4 (.faddr 2 (.tmp 2)),
 ob 5 (.load1 (.tmp 4)),
 ob 6 (.load1 (.tmp 1)),
 ob 7 (.bin .lss (.tmp 5) (.tmp 6)),
 ob 3 (.mv (.tmp 7))] false [3]) (.ret))
def E59 := exK_head q59_0.eq_1
def ann59 : Ann := { n := 8, own := [], lv := [(0, [1, 2]), (1, [3])], lp := [] }
def fn59 : AFn := AFn.mk 2 [.tmp 3]
  (.seq (.region [
  ob 2 (.box (.tmp 0)),
  ob 3 (.mv (.cst (.bool false)))] false [1, 2]) q59_0)
theorem ok59 : compFn Tryz.prog ann59 Tryz.f59 = some fn59 := by kernel_rfl
def q60_0 : ACode :=
 (.region [
 ob 7 (.mv (.tmp 0)),
 ob 8 (.mv (.tmp 4)),
 ob 9 (.mv (.tmp 4)),
 ob 10 (.conv .u64 (.tmp 9)),
 ob 11 (.call 91 [(.tmp 10)]),
 ob 12 (.mv (.tmp 1)),
 ob 13 (.call 90 [(.tmp 7), (.cst (.int .i64 0)), (.tmp 8), (.tmp 11), (.tmp 12)])] false [])
def E60 := exK_head q60_0.eq_1
def ann60 : Ann := { n := 14, own := [], lv := [(0, [0, 1, 4]), (1, [])], lp := [] }
def fn60 : AFn := AFn.mk 2 []
  (.seq (.region [
  ob 5 (.mv (.tmp 0)),
  ob 6 (.lenV (.tmp 5)),
  ob 4 (.mv (.tmp 6))] false [0, 1, 4]) q60_0)
theorem ok60 : compFn Tryz.prog ann60 Tryz.f60 = some fn60 := by kernel_rfl
def q61_0 : ACode :=
 (.seq (.region [
 ob 5 (.faddr 2 (.tmp 2)),
 ob 6 (.load1 (.tmp 5)),
 ob 7 (.faddr 2 (.tmp 3)),
 ob 8 (.load1 (.tmp 7)),
 ob 9 (.call 62 [(.tmp 6), (.tmp 8)]),
 ob 4 (.mv (.tmp 9))] false [4]) (.ret))
def E61 := exK_head q61_0.eq_1
def ann61 : Ann := { n := 10, own := [], lv := [(0, [2, 3]), (1, [4])], lp := [] }
def fn61 : AFn := AFn.mk 2 [.tmp 4]
  (.seq (.region [
  ob 2 (.box (.tmp 0)),
  ob 3 (.box (.tmp 1)),
  ob 4 (.mv (.cst (.int .i64 0)))] false [2, 3]) q61_0)
theorem ok61 : compFn Tryz.prog ann61 Tryz.f61 = some fn61 := by kernel_rfl
def q62_0 : ACode :=
 (.seq (.region [
 ob 4 (.mv (.cst (.int .i64 0)))] false [4]) (.ret))
def q62_1 : ACode :=
 (.seq (.region [
 ob 4 (.mv (.cst (.int .i64 (-1))))] false [4]) (.ret))
def q62_2 : ACode :=
 (.seq (.seq (.region [
 ob 12 (.mv (.tmp 6))] false [12]) (.cond (.tmp 12) q62_0 (.skip))) q62_1)
def q62_3 : ACode :=
 (.seq (.region [
 ob 4 (.mv (.cst (.int .i64 1)))] false [4]) (.ret))
def q62_4 : ACode :=
 (.seq (.region [
 ob 4 (.mv (.cst (.int .i64 (-1))))] false [4]) (.ret))
def q62_5 : ACode :=
 (.seq (.region [
 ob 4 (.mv (.cst (.int .i64 1)))] false [4]) (.ret))
def q62_6 : ACode :=
 (.seq (.region [
 ob 4 (.mv (.cst (.int .i64 0)))] false [4]) (.ret))
def q62_7 : ACode :=
 (.seq (.seq (.region [
 ob 17 (.mv (.tmp 0)),
 ob 18 (.mv (.tmp 1)),
 ob 19 (.bin .gtr (.tmp 17) (.tmp 18))] false [19]) (.cond (.tmp 19) q62_5 (.skip))) q62_6)
def q62_8 : ACode :=
 (.seq (.seq (.region [
 ob 14 (.mv (.tmp 0)),
 ob 15 (.mv (.tmp 1)),
 ob 16 (.bin .lss (.tmp 14) (.tmp 15))] false [0, 1, 16]) (.cond (.tmp 16) q62_4 (.skip))) q62_7)
def q62_9 : ACode :=
 (.seq (.seq (.region [
 ob 13 (.mv (.tmp 6))] false [0, 1, 13]) (.cond (.tmp 13) q62_3 (.skip))) q62_8)
def q62_10 : ACode :=
 (.seq (.seq (.region [
 ob 11 (.mv (.tmp 5))] false [0, 1, 6, 11]) (.cond (.tmp 11) q62_2 (.skip))) q62_9)
def q62_11 : ACode :=
 (.seq (.region [
 ob 9 (.mv (.tmp 1)),
 ob 10 (.call 92 [(.tmp 9)]),
 ob 6 (.mv (.tmp 10))] false [0, 1, 5, 6]) q62_10)
def q62_12 : ACode :=
 (.seq (.region [
 ob 7 (.mv (.tmp 0)),
 ob 8 (.call 92 [(.tmp 7)]),
 ob 5 (.mv (.tmp 8))] false [0, 1, 5]) q62_11)
def E62 := And.intro (exK_head q62_0.eq_1) (And.intro (exK_head q62_1.eq_1) (And.intro (exK_head q62_2.eq_1) (And.intro (exK_head q62_3.eq_1) (And.intro (exK_head q62_4.eq_1) (And.intro (exK_head q62_5.eq_1) (And.intro (exK_head q62_6.eq_1) (And.intro (exK_head q62_7.eq_1) (And.intro (exK_head q62_8.eq_1) (And.intro (exK_head q62_9.eq_1) (And.intro (exK_head q62_10.eq_1) (And.intro (exK_head q62_11.eq_1) (exK_head q62_12.eq_1))))))))))))
def ann62 : Ann := { n := 20, own := [], lv := [(0, [0, 1]), (1, [0, 1, 5]), (2, [0, 1, 5, 6]), (3, [0, 1, 6, 11]), (4, [12]), (5, [4]), (6, [4]), (7, [0, 1, 13]), (8, [4]), (9, [0, 1, 16]), (10, [4]), (11, [19]), (12, [4]), (13, [4])], lp := [] }
def fn62 : AFn := AFn.mk 2 [.tmp 4]
  (.seq (.region [
  ob 4 (.mv (.cst (.int .i64 0)))] false [0, 1]) q62_12)
theorem ok62 : compFn Tryz.prog ann62 Tryz.f62 = some fn62 := by kernel_rfl
def q63_0 : ACode :=
 (.seq (.region [
 ob 19 (.loadA 3 (.tmp 4)),
 ox (.store 3 (.tmp 8) (.tmp 19)),
 ob 9 (.mv (.cst (.int .i64 0))),
 ob 10 (.mv (.cst (.int .i64 1)))] false [8, 9, 10]) (.ret))
def q63_1 : ACode :=
 (.seq (.region [
 ob 26 (.loadA 3 (.tmp 4)),
 ob 27 (.mv (.tmp 11)),
 ox (.store 3 (.tmp 8) (.tmp 26)),
 ob 9 (.mv (.cst (.int .i64 0))),
 ob 10 (.mv (.tmp 27))] false [8, 9, 10]) (.ret))
def q63_2 : ACode :=
 (.seq (.region [
 ob 37 (.loadA 3 (.tmp 4)),
 ox (.store 3 (.tmp 8) (.tmp 37)),
 ob 9 (.mv (.cst (.int .i64 0))),
 ob 10 (.mv (.cst (.int .i64 76)))] false [8, 9, 10]) (.ret))
def q63_3 : ACode :=
 (.region [
 ob 44 (.mv (.tmp 1)),
 ob 45 (.faddr 5 (.tmp 12)),
 ox (.store 1 (.tmp 45) (.tmp 44))] false [1, 2, 4, 8, 12])
def q63_4 : ACode :=
 (.seq (.region [
 ob 50 (.loadA 3 (.tmp 4)),
 ob 51 (.loadA 6 (.tmp 12)),
 ⟨(some 52), .call 95 [(.tmp 50), (.tmp 51)], none, true, false, []⟩,
 ob 53 (.mv (.tmp 1)),
 ob 54 (.mv (.tmp 2)),
 ob 55 (.faddr 0 (.tmp 12)),
 ob 56 (.load1 (.tmp 55)),
 ⟨(some 57), .call 94 [(.tmp 52), (.tmp 53), (.tmp 54), (.tmp 56)], none, true, false, []⟩,
 ob 58 (.faddr 0 (.tmp 12)),
 ob 59 (.load1 (.tmp 58)),
 ⟨none, .store 3 (.tmp 8) (.tmp 57), none, true, false, [58]⟩,
 ob 9 (.mv (.tmp 59)),
 ob 10 (.mv (.cst (.int .i64 0)))] true [8, 9, 10]) (.ret))
def q63_5 : ACode :=
 (.seq (.region [
 ob 46 (.faddr 1 (.tmp 4)),
 ob 47 (.load1 (.tmp 46)),
 ob 48 (.bin .add (.tmp 47) (.cst (.int .i64 1))),
 ob 49 (.faddr 1 (.tmp 4)),
 ox (.store 1 (.tmp 49) (.tmp 48))] false [1, 2, 4, 8, 12]) q63_4)
def q63_6 : ACode :=
 (.seq (.seq (.region [
 ob 42 (.mv (.tmp 3)),
 ob 43 (.bin .eql (.tmp 42) (.cst (.int .i64 2)))] false [1, 2, 4, 8, 12, 43]) (.cond (.tmp 43) q63_3 (.skip))) q63_5)
def q63_7 : ACode :=
 (.seq (.region [
 ob 38 (.faddr 1 (.tmp 4)),
 ob 39 (.load1 (.tmp 38)),
 ob 40 (.mv (.tmp 3)),
 ob 41 (.build [(.int .i64 0), (.int .i64 0), (.int .i64 0), (.slice .c0 []), (.slice .c0 []), (.int .i64 0)] [(0, 1, (.tmp 39)), (1, 1, (.tmp 40)), (2, 1, (.cst (.int .i64 1)))]),
 ob 12 (.box0 [(.int .i64 0), (.int .i64 0), (.int .i64 0), (.slice .c0 []), (.slice .c0 []), (.int .i64 0)]),
 ox (.store 6 (.tmp 12) (.tmp 41))] false [1, 2, 3, 4, 8, 12]) q63_6)
def q63_8 : ACode :=
 (.seq (.seq (.region [
 ob 28 (.faddr 0 (.tmp 4)),
 ob 29 (.load1 (.tmp 28)),
 ob 30 (.lenV (.tmp 29)),
 ob 31 (.bin .geq (.tmp 30) (.cst (.int .i64 200))),
 ob 32 (.mv (.tmp 31)),
 og 33 32 false (.faddr 1 (.tmp 4)),
 og 34 32 false (.load1 (.tmp 33)),
 og 35 32 false (.bin .geq (.tmp 34) (.cst (.int .i64 1099511627776))),
 ob 36 (.pick (.tmp 32) (.cst (.bool true)) (.tmp 35))] false [1, 2, 3, 4, 8, 36]) (.cond (.tmp 36) q63_2 (.skip))) q63_7)
def q63_9 : ACode :=
 (.seq (.seq (.region [
 ob 24 (.mv (.tmp 11)),
 ob 25 (.bin .neq (.tmp 24) (.cst (.int .i64 0)))] false [1, 2, 3, 4, 8, 11, 25]) (.cond (.tmp 25) q63_1 (.skip))) q63_8)
def q63_10 : ACode :=
 (.seq (.region [
 ob 20 (.loadA 3 (.tmp 4)),
 ob 21 (.mv (.tmp 1)),
 ob 22 (.mv (.tmp 2)),
 ob 23 (.call 93 [(.tmp 20), (.tmp 21), (.tmp 22)]),
 ob 11 (.mv (.tmp 23))] false [1, 2, 3, 4, 8, 11]) q63_9)
def q63_11 : ACode :=
 (.seq (.seq (.region [
 ob 13 (.mv (.tmp 3)),
 ob 14 (.bin .neq (.tmp 13) (.cst (.int .i64 1))),
 ob 15 (.mv (.tmp 14)),
 og 16 15 true (.mv (.tmp 3)),
 og 17 15 true (.bin .neq (.tmp 16) (.cst (.int .i64 2))),
 ob 18 (.pick (.tmp 15) (.tmp 17) (.cst (.bool false)))] false [1, 2, 3, 4, 8, 18]) (.cond (.tmp 18) q63_0 (.skip))) q63_10)
def E63 := And.intro (exK_head q63_0.eq_1) (And.intro (exK_head q63_1.eq_1) (And.intro (exK_head q63_2.eq_1) (And.intro (exK_head q63_3.eq_1) (And.intro (exK_head q63_4.eq_1) (And.intro (exK_head q63_5.eq_1) (And.intro (exK_head q63_6.eq_1) (And.intro (exK_head q63_7.eq_1) (And.intro (exK_head q63_8.eq_1) (And.intro (exK_head q63_9.eq_1) (And.intro (exK_head q63_10.eq_1) (exK_head q63_11.eq_1)))))))))))
def ann63 : Ann := { n := 60, own := [], lv := [(0, [1, 2, 3, 4, 8]), (1, [1, 2, 3, 4, 8, 18]), (2, [8, 9, 10]), (3, [1, 2, 3, 4, 8, 11]), (4, [1, 2, 3, 4, 8, 11, 25]), (5, [8, 9, 10]), (6, [1, 2, 3, 4, 8, 36]), (7, [8, 9, 10]), (8, [1, 2, 3, 4, 8, 12]), (9, [1, 2, 4, 8, 12, 43]), (10, [1, 2, 4, 8, 12]), (11, [1, 2, 4, 8, 12]), (12, [8, 9, 10])], lp := [] }
def fn63 : AFn := AFn.mk 4 [.cellA 8 3, .tmp 9, .tmp 10]
  (.seq (.region [
  ob 4 (.box (.tmp 0)),
  ob 8 (.box0 [(.slice .c0 []), (.int .i64 0), (.int .i64 0)]),
  ob 9 (.mv (.cst (.int .i64 0))),
  ob 10 (.mv (.cst (.int .i64 0)))] false [1, 2, 3, 4, 8]) q63_11)
theorem ok63 : compFn Tryz.prog ann63 Tryz.f63 = some fn63 := by kernel_rfl
def q64_0 : ACode :=
 (.seq (.region [
 ob 31 (.loadA 3 (.tmp 4)),
 ox (.store 3 (.tmp 8) (.tmp 31)),
 ob 9 (.mv (.cst (.int .i64 70)))] false [8, 9]) (.ret))
def q64_1 : ACode :=
 (.seq (.region [
 ob 35 (.loadA 3 (.tmp 4)),
 ox (.store 3 (.tmp 8) (.tmp 35)),
 ob 9 (.mv (.cst (.int .i64 72)))] false [8, 9]) (.ret))
def q64_2 : ACode :=
 (.seq (.region [
 ob 42 (.loadA 3 (.tmp 4)),
 ob 43 (.mv (.tmp 12)),
 ox (.store 3 (.tmp 8) (.tmp 42)),
 ob 9 (.mv (.tmp 43))] false [8, 9]) (.ret))
def q64_3 : ACode :=
 (.seq (.region [
 ob 48 (.loadA 3 (.tmp 4)),
 ob 49 (.loadA 6 (.tmp 10)),
 ob 50 (.call 95 [(.tmp 48), (.tmp 49)]),
 ob 51 (.mv (.tmp 2)),
 ob 52 (.mv (.tmp 3)),
 ob 53 (.mv (.tmp 1)),
 ob 54 (.call 94 [(.tmp 50), (.tmp 51), (.tmp 52), (.tmp 53)]),
 ox (.store 3 (.tmp 8) (.tmp 54)),
 ob 9 (.mv (.cst (.int .i64 0)))] false [8, 9]) (.ret))
def q64_4 : ACode :=
 (.seq (.region [
 ob 44 (.faddr 2 (.tmp 10)),
 ob 45 (.load1 (.tmp 44)),
 ob 46 (.bin .add (.tmp 45) (.cst (.int .i64 1))),
 ob 47 (.faddr 2 (.tmp 10)),
 ox (.store 1 (.tmp 47) (.tmp 46))] false [1, 2, 3, 4, 8, 10]) q64_3)
def q64_5 : ACode :=
 (.seq (.seq (.region [
 ob 40 (.mv (.tmp 12)),
 ob 41 (.bin .neq (.tmp 40) (.cst (.int .i64 0)))] false [1, 2, 3, 4, 8, 10, 12, 41]) (.cond (.tmp 41) q64_2 (.skip))) q64_4)
def q64_6 : ACode :=
 (.seq (.region [
 ob 36 (.loadA 3 (.tmp 4)),
 ob 37 (.mv (.tmp 2)),
 ob 38 (.mv (.tmp 3)),
 ob 39 (.call 93 [(.tmp 36), (.tmp 37), (.tmp 38)]),
 ob 12 (.mv (.tmp 39))] false [1, 2, 3, 4, 8, 10, 12]) q64_5)
def q64_7 : ACode :=
 (.seq (.seq (.region [
 ob 32 (.faddr 1 (.tmp 10)),
 ob 33 (.load1 (.tmp 32)),
 ob 34 (.bin .eql (.tmp 33) (.cst (.int .i64 2)))] false [1, 2, 3, 4, 8, 10, 34]) (.cond (.tmp 34) q64_1 (.skip))) q64_6)
def q64_8 : ACode :=
 (.seq (.seq (.region [
 ob 19 (.mv (.tmp 11)),
 ob 20 (.not (.tmp 19)),
 ob 21 (.mv (.tmp 20)),
 og 22 21 false (.faddr 1 (.tmp 10)),
 og 23 21 false (.load1 (.tmp 22)),
 og 24 21 false (.bin .eql (.tmp 23) (.cst (.int .i64 1))),
 og 25 21 false (.mv (.tmp 24)),
 og 26 25 true (.faddr 2 (.tmp 10)),
 og 27 25 true (.load1 (.tmp 26)),
 og 28 25 true (.bin .eql (.tmp 27) (.cst (.int .i64 0))),
 og 29 21 false (.pick (.tmp 25) (.tmp 28) (.cst (.bool false))),
 ob 30 (.pick (.tmp 21) (.cst (.bool true)) (.tmp 29))] false [1, 2, 3, 4, 8, 10, 30]) (.cond (.tmp 30) q64_0 (.skip))) q64_7)
def q64_9 : ACode :=
 (.seq (.region [
 ob 14 (.loadA 3 (.tmp 4)),
 ob 15 (.mv (.tmp 1)),
 ob 16 (.call 56 [(.tmp 14), (.tmp 15)]),
 ob 13 (.mv (.tmp 16)),
 ob 17 (.extract (.tmp 13) 0),
 ob 18 (.extract (.tmp 13) 1),
 ob 10 (.box0 [(.int .i64 0), (.int .i64 0), (.int .i64 0), (.slice .c0 []), (.slice .c0 []), (.int .i64 0)]),
 ox (.store 6 (.tmp 10) (.tmp 17)),
 ob 11 (.mv (.tmp 18))] false [1, 2, 3, 4, 8, 10, 11]) q64_8)
def E64 := And.intro (exK_head q64_0.eq_1) (And.intro (exK_head q64_1.eq_1) (And.intro (exK_head q64_2.eq_1) (And.intro (exK_head q64_3.eq_1) (And.intro (exK_head q64_4.eq_1) (And.intro (exK_head q64_5.eq_1) (And.intro (exK_head q64_6.eq_1) (And.intro (exK_head q64_7.eq_1) (And.intro (exK_head q64_8.eq_1) (exK_head q64_9.eq_1)))))))))
def ann64 : Ann := { n := 55, own := [], lv := [(0, [1, 2, 3, 4, 8]), (1, [1, 2, 3, 4, 8, 10, 11]), (2, [1, 2, 3, 4, 8, 10, 30]), (3, [8, 9]), (4, [1, 2, 3, 4, 8, 10, 34]), (5, [8, 9]), (6, [1, 2, 3, 4, 8, 10, 12]), (7, [1, 2, 3, 4, 8, 10, 12, 41]), (8, [8, 9]), (9, [1, 2, 3, 4, 8, 10]), (10, [8, 9])], lp := [] }
def fn64 : AFn := AFn.mk 4 [.cellA 8 3, .tmp 9]
  (.seq (.region [
  ob 4 (.box (.tmp 0)),
  ob 8 (.box0 [(.slice .c0 []), (.int .i64 0), (.int .i64 0)]),
  ob 9 (.mv (.cst (.int .i64 0)))] false [1, 2, 3, 4, 8]) q64_9)
theorem ok64 : compFn Tryz.prog ann64 Tryz.f64 = some fn64 := by kernel_rfl
def q65_0 : ACode :=
 (.seq (.region [
 ob 22 (.loadA 3 (.tmp 3)),
 ob 23 (.mv (.tmp 10)),
 ox (.store 3 (.tmp 6) (.tmp 22)),
 ob 7 (.mv (.cst (.int .i64 0))),
 ob 8 (.mv (.tmp 23))] false [6, 7, 8]) (.ret))
def q65_1 : ACode :=
 (.seq (.region [
 ob 34 (.loadA 3 (.tmp 3)),
 ox (.store 3 (.tmp 6) (.tmp 34)),
 ob 7 (.mv (.cst (.int .i64 0))),
 ob 8 (.mv (.cst (.int .i64 74)))] false [6, 7, 8]) (.ret))
def q65_2 : ACode :=
 (.seq (.region [
 ob 35 (.loadA 3 (.tmp 3)),
 ob 36 (.mv (.tmp 1)),
 ob 37 (.mv (.tmp 2)),
 ob 38 (.call 98 [(.tmp 35), (.tmp 36), (.tmp 37)]),
 ob 39 (.mv (.tmp 9)),
 ob 40 (.call 97 [(.tmp 38), (.tmp 39)]),
 ob 41 (.mv (.tmp 9)),
 ox (.store 3 (.tmp 6) (.tmp 40)),
 ob 7 (.mv (.tmp 41)),
 ob 8 (.mv (.cst (.int .i64 0)))] false [6, 7, 8]) (.ret))
def q65_3 : ACode :=
 (.seq (.seq (.region [
 ob 30 (.faddr 4 (.tmp 11)),
 ob 31 (.load1 (.tmp 30)),
 ob 32 (.lenV (.tmp 31)),
 ob 33 (.bin .gtr (.tmp 32) (.cst (.int .i64 0)))] false [1, 2, 3, 6, 9, 33]) (.cond (.tmp 33) q65_1 (.skip))) q65_2)
def q65_4 : ACode :=
 (.seq (.region [
 ob 25 (.loadA 3 (.tmp 3)),
 ob 26 (.mv (.tmp 9)),
 ob 27 (.call 56 [(.tmp 25), (.tmp 26)]),
 ob 24 (.mv (.tmp 27)),
 ob 28 (.extract (.tmp 24) 0),
 ob 29 (.extract (.tmp 24) 1),
 ob 11 (.box0 [(.int .i64 0), (.int .i64 0), (.int .i64 0), (.slice .c0 []), (.slice .c0 []), (.int .i64 0)]),
 ox (.store 6 (.tmp 11) (.tmp 28)),
 ob 12 (.mv (.tmp 29))] false [1, 2, 3, 6, 9, 11]) q65_3)
def q65_5 : ACode :=
 (.seq (.seq (.region [
 ob 20 (.mv (.tmp 10)),
 ob 21 (.bin .neq (.tmp 20) (.cst (.int .i64 0)))] false [1, 2, 3, 6, 9, 10, 21]) (.cond (.tmp 21) q65_0 (.skip))) q65_4)
def q65_6 : ACode :=
 (.seq (.region [
 ob 14 (.loadA 3 (.tmp 3)),
 ob 15 (.mv (.tmp 1)),
 ob 16 (.mv (.tmp 2)),
 ob 17 (.call 96 [(.tmp 14), (.tmp 15), (.tmp 16)]),
 ob 13 (.mv (.tmp 17)),
 ob 18 (.extract (.tmp 13) 0),
 ob 19 (.extract (.tmp 13) 1),
 ob 9 (.mv (.tmp 18)),
 ob 10 (.mv (.tmp 19))] false [1, 2, 3, 6, 9, 10]) q65_5)
def E65 := And.intro (exK_head q65_0.eq_1) (And.intro (exK_head q65_1.eq_1) (And.intro (exK_head q65_2.eq_1) (And.intro (exK_head q65_3.eq_1) (And.intro (exK_head q65_4.eq_1) (And.intro (exK_head q65_5.eq_1) (exK_head q65_6.eq_1))))))
def ann65 : Ann := { n := 42, own := [], lv := [(0, [1, 2, 3, 6]), (1, [1, 2, 3, 6, 9, 10]), (2, [1, 2, 3, 6, 9, 10, 21]), (3, [6, 7, 8]), (4, [1, 2, 3, 6, 9, 11]), (5, [1, 2, 3, 6, 9, 33]), (6, [6, 7, 8]), (7, [6, 7, 8])], lp := [] }
def fn65 : AFn := AFn.mk 3 [.cellA 6 3, .tmp 7, .tmp 8]
  (.seq (.region [
  ob 3 (.box (.tmp 0)),
  ob 6 (.box0 [(.slice .c0 []), (.int .i64 0), (.int .i64 0)]),
  ob 7 (.mv (.cst (.int .i64 0))),
  ob 8 (.mv (.cst (.int .i64 0)))] false [1, 2, 3, 6]) q65_6)
theorem ok65 : compFn Tryz.prog ann65 Tryz.f65 = some fn65 := by kernel_rfl
def q66_0 : ACode :=
 (.seq (.region [
 ob 31 (.loadA 3 (.tmp 5)),
 ob 32 (.mv (.tmp 14)),
 ox (.store 3 (.tmp 10) (.tmp 31)),
 ob 11 (.mv (.cst (.int .i64 0))),
 ob 12 (.mv (.tmp 32))] false [10, 11, 12]) (.ret))
def q66_1 : ACode :=
 (.seq (.region [
 ob 41 (.loadA 3 (.tmp 5)),
 ob 42 (.mv (.tmp 14)),
 ox (.store 3 (.tmp 10) (.tmp 41)),
 ob 11 (.mv (.cst (.int .i64 0))),
 ob 12 (.mv (.tmp 42))] false [10, 11, 12]) (.ret))
def q66_2 : ACode :=
 (.seq (.region [
 ob 46 (.loadA 3 (.tmp 5)),
 ox (.store 3 (.tmp 10) (.tmp 46)),
 ob 11 (.mv (.cst (.int .i64 0))),
 ob 12 (.mv (.cst (.int .i64 60)))] false [10, 11, 12]) (.ret))
def q66_3 : ACode :=
 (.region [
 ob 52 (.faddr 4 (.tmp 15)),
 ob 53 (.load1 (.tmp 52)),
 ob 54 (.mv (.tmp 17)),
 ob 55 (.iaddr 3 (.tmp 53) (.tmp 54)),
 ob 56 (.faddr 1 (.tmp 55)),
 ob 57 (.load1 (.tmp 56)),
 ob 16 (.mv (.tmp 57))] false [1, 2, 3, 4, 5, 10, 13, 15, 16])
def q66_4 : ACode :=
 (.seq (.region [
 ob 61 (.loadA 3 (.tmp 5)),
 ox (.store 3 (.tmp 10) (.tmp 61)),
 ob 11 (.mv (.cst (.int .i64 0))),
 ob 12 (.mv (.cst (.int .i64 0)))] false [10, 11, 12]) (.ret))
def q66_5 : ACode :=
 (.seq (.region [
 ob 77 (.loadA 3 (.tmp 5)),
 ox (.store 3 (.tmp 10) (.tmp 77)),
 ob 11 (.mv (.cst (.int .i64 0))),
 ob 12 (.mv (.cst (.int .i64 75)))] false [10, 11, 12]) (.ret))
def q66_6 : ACode :=
 (.seq (.region [
 ob 84 (.loadA 3 (.tmp 5)),
 ob 85 (.mv (.tmp 14)),
 ox (.store 3 (.tmp 10) (.tmp 84)),
 ob 11 (.mv (.cst (.int .i64 0))),
 ob 12 (.mv (.tmp 85))] false [10, 11, 12]) (.ret))
def q66_7 : ACode :=
 (.seq (.region [
 ob 124 (.loadA 3 (.tmp 5)),
 ox (.store 3 (.tmp 10) (.tmp 124)),
 ob 11 (.mv (.cst (.int .i64 0))),
 ob 12 (.mv (.cst (.int .i64 76)))] false [10, 11, 12]) (.ret))
def q66_8 : ACode :=
 (.region [
 ob 131 (.loadA 3 (.tmp 21)),
 ob 132 (.mv (.tmp 3)),
 ob 133 (.mv (.tmp 4)),
 ob 134 (.call 98 [(.tmp 131), (.tmp 132), (.tmp 133)]),
 ob 135 (.mv (.tmp 16)),
 ob 136 (.call 97 [(.tmp 134), (.tmp 135)]),
 ox (.store 3 (.tmp 21) (.tmp 136))] false [3, 4, 10, 13, 16, 18, 21])
def q66_9 : ACode :=
 (.region [
 ob 142 (.loadA 3 (.tmp 21)),
 ob 143 (.loadA 6 (.tmp 18)),
 ob 144 (.call 95 [(.tmp 142), (.tmp 143)]),
 ox (.store 3 (.tmp 21) (.tmp 144))] false [3, 4, 10, 13, 16, 21])
def q66_10 : ACode :=
 (.seq (.region [
 ob 140 (.mv (.tmp 3)),
 ob 141 (.faddr 5 (.tmp 18)),
 ox (.store 1 (.tmp 141) (.tmp 140))] false [3, 4, 10, 13, 16, 18, 21]) q66_9)
def q66_11 : ACode :=
 (.seq (.region [
 ob 145 (.loadA 3 (.tmp 21)),
 ob 146 (.mv (.tmp 3)),
 ob 147 (.mv (.tmp 4)),
 ob 148 (.mv (.tmp 13)),
 ob 149 (.call 94 [(.tmp 145), (.tmp 146), (.tmp 147), (.tmp 148)]),
 ob 150 (.mv (.tmp 16)),
 ox (.store 3 (.tmp 10) (.tmp 149)),
 ob 11 (.mv (.tmp 150)),
 ob 12 (.mv (.cst (.int .i64 0)))] false [10, 11, 12]) (.ret))
def q66_12 : ACode :=
 (.seq (.seq (.region [
 ob 137 (.faddr 1 (.tmp 18)),
 ob 138 (.load1 (.tmp 137)),
 ob 139 (.bin .eql (.tmp 138) (.cst (.int .i64 2)))] false [3, 4, 10, 13, 16, 18, 21, 139]) (.cond (.tmp 139) q66_10 (.skip))) q66_11)
def q66_13 : ACode :=
 (.seq (.seq (.region [
 ob 129 (.mv (.tmp 16)),
 ob 130 (.bin .neq (.tmp 129) (.cst (.int .i64 0)))] false [3, 4, 10, 13, 16, 18, 21, 130]) (.cond (.tmp 130) q66_8 (.skip))) q66_12)
def q66_14 : ACode :=
 (.seq (.region [
 ob 125 (.loadA 3 (.tmp 5)),
 ob 126 (.mv (.tmp 1)),
 ob 127 (.mv (.tmp 2)),
 ob 128 (.call 98 [(.tmp 125), (.tmp 126), (.tmp 127)]),
 ob 21 (.box0 [(.slice .c0 []), (.int .i64 0), (.int .i64 0)]),
 ox (.store 3 (.tmp 21) (.tmp 128))] false [3, 4, 10, 13, 16, 18, 21]) q66_13)
def q66_15 : ACode :=
 (.seq (.seq (.region [
 ob 89 (.mv (.tmp 16)),
 ob 90 (.bin .eql (.tmp 89) (.cst (.int .i64 0))),
 ob 91 (.mv (.tmp 90)),
 og 92 91 true (.mv (.tmp 3)),
 og 93 91 true (.mv (.tmp 1)),
 og 94 91 true (.bin .neq (.tmp 92) (.tmp 93)),
 ob 95 (.pick (.tmp 91) (.tmp 94) (.cst (.bool false))),
 ob 96 (.mv (.tmp 95)),
 og 97 96 true (.faddr 4 (.tmp 15)),
 og 98 96 true (.load1 (.tmp 97)),
 og 99 96 true (.lenV (.tmp 98)),
 og 100 96 true (.bin .geq (.tmp 99) (.cst (.int .i64 64))),
 ob 101 (.pick (.tmp 96) (.tmp 100) (.cst (.bool false))),
 ob 102 (.mv (.tmp 101)),
 og 103 102 false (.mv (.tmp 20)),
 og 104 102 false (.bin .geq (.tmp 103) (.cst (.int .i64 12))),
 ob 105 (.pick (.tmp 102) (.cst (.bool true)) (.tmp 104)),
 ob 106 (.mv (.tmp 105)),
 og 107 106 false (.faddr 1 (.tmp 18)),
 og 108 106 false (.load1 (.tmp 107)),
 og 109 106 false (.bin .eql (.tmp 108) (.cst (.int .i64 2))),
 og 110 106 false (.mv (.tmp 109)),
 og 111 110 true (.loadA 3 (.tmp 5)),
 og 112 110 true (.mv (.tmp 13)),
 og 113 110 true (.mv (.tmp 20)),
 og 114 110 true (.bin .add (.tmp 113) (.cst (.int .i64 1))),
 og 115 110 true (.call 104 [(.tmp 111), (.tmp 112), (.tmp 114)]),
 og 116 110 true (.bin .gtr (.tmp 115) (.cst (.int .i64 12))),
 og 117 106 false (.pick (.tmp 110) (.tmp 116) (.cst (.bool false))),
 ob 118 (.pick (.tmp 106) (.cst (.bool true)) (.tmp 117)),
 ob 119 (.mv (.tmp 118)),
 og 120 119 false (.faddr 2 (.tmp 5)),
 og 121 119 false (.load1 (.tmp 120)),
 og 122 119 false (.bin .geq (.tmp 121) (.cst (.int .i64 1099511627776))),
 ob 123 (.pick (.tmp 119) (.cst (.bool true)) (.tmp 122))] false [1, 2, 3, 4, 5, 10, 13, 16, 18, 123]) (.cond (.tmp 123) q66_7 (.skip))) q66_14)
def q66_16 : ACode :=
 (.seq (.region [
 ob 86 (.loadA 3 (.tmp 5)),
 ob 87 (.mv (.tmp 3)),
 ob 88 (.call 103 [(.tmp 86), (.tmp 87)]),
 ob 20 (.mv (.tmp 88))] false [1, 2, 3, 4, 5, 10, 13, 15, 16, 18, 20]) q66_15)
def q66_17 : ACode :=
 (.seq (.seq (.region [
 ob 82 (.mv (.tmp 14)),
 ob 83 (.bin .neq (.tmp 82) (.cst (.int .i64 0)))] false [1, 2, 3, 4, 5, 10, 13, 14, 15, 16, 18, 83]) (.cond (.tmp 83) q66_6 (.skip))) q66_16)
def q66_18 : ACode :=
 (.seq (.region [
 ob 78 (.loadA 3 (.tmp 5)),
 ob 79 (.loadA 6 (.tmp 18)),
 ob 80 (.mv (.tmp 16)),
 ob 81 (.call 102 [(.tmp 78), (.tmp 79), (.tmp 80)]),
 ob 14 (.mv (.tmp 81))] false [1, 2, 3, 4, 5, 10, 13, 14, 15, 16, 18]) q66_17)
def q66_19 : ACode :=
 (.seq (.seq (.region [
 ob 68 (.faddr 1 (.tmp 18)),
 ob 69 (.load1 (.tmp 68)),
 ob 70 (.bin .eql (.tmp 69) (.cst (.int .i64 2))),
 ob 71 (.mv (.tmp 70)),
 og 72 71 true (.loadA 3 (.tmp 5)),
 og 73 71 true (.mv (.tmp 3)),
 og 74 71 true (.mv (.tmp 13)),
 og 75 71 true (.call 101 [(.tmp 72), (.tmp 73), (.tmp 74)]),
 ob 76 (.pick (.tmp 71) (.tmp 75) (.cst (.bool false)))] false [1, 2, 3, 4, 5, 10, 13, 15, 16, 18, 76]) (.cond (.tmp 76) q66_5 (.skip))) q66_18)
def q66_20 : ACode :=
 (.seq (.region [
 ob 63 (.loadA 3 (.tmp 5)),
 ob 64 (.mv (.tmp 13)),
 ob 65 (.call 56 [(.tmp 63), (.tmp 64)]),
 ob 62 (.mv (.tmp 65)),
 ob 66 (.extract (.tmp 62) 0),
 ob 67 (.extract (.tmp 62) 1),
 ob 18 (.box0 [(.int .i64 0), (.int .i64 0), (.int .i64 0), (.slice .c0 []), (.slice .c0 []), (.int .i64 0)]),
 ox (.store 6 (.tmp 18) (.tmp 66)),
 ob 19 (.mv (.tmp 67))] false [1, 2, 3, 4, 5, 10, 13, 15, 16, 18]) q66_19)
def q66_21 : ACode :=
 (.seq (.seq (.region [
 ob 58 (.mv (.tmp 16)),
 ob 59 (.mv (.tmp 13)),
 ob 60 (.bin .eql (.tmp 58) (.tmp 59))] false [1, 2, 3, 4, 5, 10, 13, 15, 16, 60]) (.cond (.tmp 60) q66_4 (.skip))) q66_20)
def q66_22 : ACode :=
 (.seq (.seq (.region [
 ob 50 (.mv (.tmp 17)),
 ob 51 (.bin .geq (.tmp 50) (.cst (.int .i64 0)))] false [1, 2, 3, 4, 5, 10, 13, 15, 16, 17, 51]) (.cond (.tmp 51) q66_3 (.skip))) q66_21)
def q66_23 : ACode :=
 (.seq (.region [
 ob 47 (.loadA 6 (.tmp 15)),
 ob 48 (.mv (.tmp 4)),
 ob 49 (.call 100 [(.tmp 47), (.tmp 48)]),
 ob 17 (.mv (.tmp 49))] false [1, 2, 3, 4, 5, 10, 13, 15, 16, 17]) q66_22)
def q66_24 : ACode :=
 (.seq (.region [
 ob 16 (.mv (.cst (.int .i64 0)))] false [1, 2, 3, 4, 5, 10, 13, 15, 16]) q66_23)
def q66_25 : ACode :=
 (.seq (.seq (.region [
 ob 43 (.mv (.tmp 4)),
 ob 44 (.call 22 [(.tmp 43)]),
 ob 45 (.not (.tmp 44))] false [1, 2, 3, 4, 5, 10, 13, 15, 45]) (.cond (.tmp 45) q66_2 (.skip))) q66_24)
def q66_26 : ACode :=
 (.seq (.seq (.region [
 ob 39 (.mv (.tmp 14)),
 ob 40 (.bin .neq (.tmp 39) (.cst (.int .i64 0)))] false [1, 2, 3, 4, 5, 10, 13, 14, 15, 40]) (.cond (.tmp 40) q66_1 (.skip))) q66_25)
def q66_27 : ACode :=
 (.seq (.region [
 ob 34 (.loadA 3 (.tmp 5)),
 ob 35 (.mv (.tmp 3)),
 ob 36 (.call 99 [(.tmp 34), (.tmp 35)]),
 ob 33 (.mv (.tmp 36)),
 ob 37 (.extract (.tmp 33) 0),
 ob 38 (.extract (.tmp 33) 1),
 ob 15 (.box0 [(.int .i64 0), (.int .i64 0), (.int .i64 0), (.slice .c0 []), (.slice .c0 []), (.int .i64 0)]),
 ox (.store 6 (.tmp 15) (.tmp 37)),
 ob 14 (.mv (.tmp 38))] false [1, 2, 3, 4, 5, 10, 13, 14, 15]) q66_26)
def q66_28 : ACode :=
 (.seq (.seq (.region [
 ob 29 (.mv (.tmp 14)),
 ob 30 (.bin .neq (.tmp 29) (.cst (.int .i64 0)))] false [1, 2, 3, 4, 5, 10, 13, 14, 30]) (.cond (.tmp 30) q66_0 (.skip))) q66_27)
def q66_29 : ACode :=
 (.seq (.region [
 ob 23 (.loadA 3 (.tmp 5)),
 ob 24 (.mv (.tmp 1)),
 ob 25 (.mv (.tmp 2)),
 ob 26 (.call 96 [(.tmp 23), (.tmp 24), (.tmp 25)]),
 ob 22 (.mv (.tmp 26)),
 ob 27 (.extract (.tmp 22) 0),
 ob 28 (.extract (.tmp 22) 1),
 ob 13 (.mv (.tmp 27)),
 ob 14 (.mv (.tmp 28))] false [1, 2, 3, 4, 5, 10, 13, 14]) q66_28)
def E66 := And.intro (exK_head q66_0.eq_1) (And.intro (exK_head q66_1.eq_1) (And.intro (exK_head q66_2.eq_1) (And.intro (exK_head q66_3.eq_1) (And.intro (exK_head q66_4.eq_1) (And.intro (exK_head q66_5.eq_1) (And.intro (exK_head q66_6.eq_1) (And.intro (exK_head q66_7.eq_1) (And.intro (exK_head q66_8.eq_1) (And.intro (exK_head q66_9.eq_1) (And.intro (exK_head q66_10.eq_1) (And.intro (exK_head q66_11.eq_1) (And.intro (exK_head q66_12.eq_1) (And.intro (exK_head q66_13.eq_1) (And.intro (exK_head q66_14.eq_1) (And.intro (exK_head q66_15.eq_1) (And.intro (exK_head q66_16.eq_1) (And.intro (exK_head q66_17.eq_1) (And.intro (exK_head q66_18.eq_1) (And.intro (exK_head q66_19.eq_1) (And.intro (exK_head q66_20.eq_1) (And.intro (exK_head q66_21.eq_1) (And.intro (exK_head q66_22.eq_1) (And.intro (exK_head q66_23.eq_1) (And.intro (exK_head q66_24.eq_1) (And.intro (exK_head q66_25.eq_1) (And.intro (exK_head q66_26.eq_1) (And.intro (exK_head q66_27.eq_1) (And.intro (exK_head q66_28.eq_1) (exK_head q66_29.eq_1)))))))))))))))))))))))))))))
def ann66 : Ann := { n := 151, own := [], lv := [(0, [1, 2, 3, 4, 5, 10]), (1, [1, 2, 3, 4, 5, 10, 13, 14]), (2, [1, 2, 3, 4, 5, 10, 13, 14, 30]), (3, [10, 11, 12]), (4, [1, 2, 3, 4, 5, 10, 13, 14, 15]), (5, [1, 2, 3, 4, 5, 10, 13, 14, 15, 40]), (6, [10, 11, 12]), (7, [1, 2, 3, 4, 5, 10, 13, 15, 45]), (8, [10, 11, 12]), (9, [1, 2, 3, 4, 5, 10, 13, 15, 16]), (10, [1, 2, 3, 4, 5, 10, 13, 15, 16, 17]), (11, [1, 2, 3, 4, 5, 10, 13, 15, 16, 17, 51]), (12, [1, 2, 3, 4, 5, 10, 13, 15, 16]), (13, [1, 2, 3, 4, 5, 10, 13, 15, 16, 60]), (14, [10, 11, 12]), (15, [1, 2, 3, 4, 5, 10, 13, 15, 16, 18]), (16, [1, 2, 3, 4, 5, 10, 13, 15, 16, 18, 76]), (17, [10, 11, 12]), (18, [1, 2, 3, 4, 5, 10, 13, 14, 15, 16, 18]), (19, [1, 2, 3, 4, 5, 10, 13, 14, 15, 16, 18, 83]), (20, [10, 11, 12]), (21, [1, 2, 3, 4, 5, 10, 13, 15, 16, 18, 20]), (22, [1, 2, 3, 4, 5, 10, 13, 16, 18, 123]), (23, [10, 11, 12]), (24, [3, 4, 10, 13, 16, 18, 21]), (25, [3, 4, 10, 13, 16, 18, 21, 130]), (26, [3, 4, 10, 13, 16, 18, 21]), (27, [3, 4, 10, 13, 16, 18, 21, 139]), (28, [3, 4, 10, 13, 16, 18, 21]), (29, [3, 4, 10, 13, 16, 21]), (30, [10, 11, 12])], lp := [] }
def fn66 : AFn := AFn.mk 5 [.cellA 10 3, .tmp 11, .tmp 12]
  (.seq (.region [
  ob 5 (.box (.tmp 0)),
  ob 10 (.box0 [(.slice .c0 []), (.int .i64 0), (.int .i64 0)]),
  ob 11 (.mv (.cst (.int .i64 0))),
  ob 12 (.mv (.cst (.int .i64 0)))] false [1, 2, 3, 4, 5, 10]) q66_29)
theorem ok66 : compFn Tryz.prog ann66 Tryz.f66 = some fn66 := by kernel_rfl
def q67_0 : ACode :=
 (.seq (.region [
 ob 18 (.loadA 3 (.tmp 3)),
 ox (.store 3 (.tmp 6) (.tmp 18)),
 ob 7 (.mv (.cst (.int .i64 70)))] false [6, 7]) (.ret))
def q67_1 : ACode :=
 (.seq (.region [
 ob 22 (.loadA 3 (.tmp 3)),
 ox (.store 3 (.tmp 6) (.tmp 22)),
 ob 7 (.mv (.cst (.int .i64 72)))] false [6, 7]) (.ret))
def q67_2 : ACode :=
 (.seq (.region [
 ob 26 (.loadA 3 (.tmp 3)),
 ox (.store 3 (.tmp 6) (.tmp 26)),
 ob 7 (.mv (.cst (.int .i64 2)))] false [6, 7]) (.ret))
def q67_3 : ACode :=
 (.seq (.region [
 ob 31 (.loadA 3 (.tmp 3)),
 ob 32 (.loadA 6 (.tmp 8)),
 ob 33 (.call 95 [(.tmp 31), (.tmp 32)]),
 ox (.store 3 (.tmp 6) (.tmp 33)),
 ob 7 (.mv (.cst (.int .i64 0)))] false [6, 7]) (.ret))
def q67_4 : ACode :=
 (.seq (.region [
 ob 27 (.litsO 1 []),
 ob 28 (.mv (.tmp 2)),
 ob 29 (.append 1 1 (.tmp 27) (.tmp 28)),
 ob 30 (.faddr 3 (.tmp 8)),
 ox (.store 1 (.tmp 30) (.tmp 29))] false [3, 6, 8]) q67_3)
def q67_5 : ACode :=
 (.seq (.seq (.region [
 ob 23 (.mv (.tmp 2)),
 ob 24 (.lenV (.tmp 23)),
 ob 25 (.bin .gtr (.tmp 24) (.cst (.int .i64 4096)))] false [2, 3, 6, 8, 25]) (.cond (.tmp 25) q67_2 (.skip))) q67_4)
def q67_6 : ACode :=
 (.seq (.seq (.region [
 ob 19 (.faddr 1 (.tmp 8)),
 ob 20 (.load1 (.tmp 19)),
 ob 21 (.bin .eql (.tmp 20) (.cst (.int .i64 2)))] false [2, 3, 6, 8, 21]) (.cond (.tmp 21) q67_1 (.skip))) q67_5)
def q67_7 : ACode :=
 (.seq (.seq (.region [
 ob 16 (.mv (.tmp 9)),
 ob 17 (.not (.tmp 16))] false [2, 3, 6, 8, 17]) (.cond (.tmp 17) q67_0 (.skip))) q67_6)
def q67_8 : ACode :=
 (.seq (.region [
 ob 11 (.loadA 3 (.tmp 3)),
 ob 12 (.mv (.tmp 1)),
 ob 13 (.call 56 [(.tmp 11), (.tmp 12)]),
 ob 10 (.mv (.tmp 13)),
 ob 14 (.extract (.tmp 10) 0),
 ob 15 (.extract (.tmp 10) 1),
 ob 8 (.box0 [(.int .i64 0), (.int .i64 0), (.int .i64 0), (.slice .c0 []), (.slice .c0 []), (.int .i64 0)]),
 ox (.store 6 (.tmp 8) (.tmp 14)),
 ob 9 (.mv (.tmp 15))] false [2, 3, 6, 8, 9]) q67_7)
def E67 := And.intro (exK_head q67_0.eq_1) (And.intro (exK_head q67_1.eq_1) (And.intro (exK_head q67_2.eq_1) (And.intro (exK_head q67_3.eq_1) (And.intro (exK_head q67_4.eq_1) (And.intro (exK_head q67_5.eq_1) (And.intro (exK_head q67_6.eq_1) (And.intro (exK_head q67_7.eq_1) (exK_head q67_8.eq_1))))))))
def ann67 : Ann := { n := 34, own := [27], lv := [(0, [1, 2, 3, 6]), (1, [2, 3, 6, 8, 9]), (2, [2, 3, 6, 8, 17]), (3, [6, 7]), (4, [2, 3, 6, 8, 21]), (5, [6, 7]), (6, [2, 3, 6, 8, 25]), (7, [6, 7]), (8, [3, 6, 8]), (9, [6, 7])], lp := [] }
def fn67 : AFn := AFn.mk 3 [.cellA 6 3, .tmp 7]
  (.seq (.region [
  ob 3 (.box (.tmp 0)),
  ob 6 (.box0 [(.slice .c0 []), (.int .i64 0), (.int .i64 0)]),
  ob 7 (.mv (.cst (.int .i64 0)))] false [1, 2, 3, 6]) q67_8)
theorem ok67 : compFn Tryz.prog ann67 Tryz.f67 = some fn67 := by kernel_rfl
def q68_0 : ACode :=
 (.seq (.region [
 ob 16 (.loadA 3 (.tmp 2)),
 ox (.store 3 (.tmp 4) (.tmp 16)),
 ob 5 (.mv (.cst (.int .i64 70)))] false [4, 5]) (.ret))
def q68_1 : ACode :=
 (.seq (.region [
 ob 20 (.loadA 3 (.tmp 2)),
 ox (.store 3 (.tmp 4) (.tmp 20)),
 ob 5 (.mv (.cst (.int .i64 72)))] false [4, 5]) (.ret))
def q68_2 : ACode :=
 (.seq (.region [
 ob 24 (.loadA 3 (.tmp 2)),
 ox (.store 3 (.tmp 4) (.tmp 24)),
 ob 5 (.mv (.cst (.int .i64 71)))] false [4, 5]) (.ret))
def q68_3 : ACode :=
 (.seq (.region [
 ob 25 (.loadA 3 (.tmp 2)),
 ob 26 (.mv (.tmp 1)),
 ob 27 (.call 105 [(.tmp 25), (.tmp 26)]),
 ox (.store 3 (.tmp 4) (.tmp 27)),
 ob 5 (.mv (.cst (.int .i64 0)))] false [4, 5]) (.ret))
def q68_4 : ACode :=
 (.seq (.seq (.region [
 ob 21 (.faddr 2 (.tmp 6)),
 ob 22 (.load1 (.tmp 21)),
 ob 23 (.bin .gtr (.tmp 22) (.cst (.int .i64 0)))] false [1, 2, 4, 23]) (.cond (.tmp 23) q68_2 (.skip))) q68_3)
def q68_5 : ACode :=
 (.seq (.seq (.region [
 ob 17 (.faddr 1 (.tmp 6)),
 ob 18 (.load1 (.tmp 17)),
 ob 19 (.bin .eql (.tmp 18) (.cst (.int .i64 2)))] false [1, 2, 4, 6, 19]) (.cond (.tmp 19) q68_1 (.skip))) q68_4)
def q68_6 : ACode :=
 (.seq (.seq (.region [
 ob 14 (.mv (.tmp 7)),
 ob 15 (.not (.tmp 14))] false [1, 2, 4, 6, 15]) (.cond (.tmp 15) q68_0 (.skip))) q68_5)
def q68_7 : ACode :=
 (.seq (.region [
 ob 9 (.loadA 3 (.tmp 2)),
 ob 10 (.mv (.tmp 1)),
 ob 11 (.call 56 [(.tmp 9), (.tmp 10)]),
 ob 8 (.mv (.tmp 11)),
 ob 12 (.extract (.tmp 8) 0),
 ob 13 (.extract (.tmp 8) 1),
 ob 6 (.box0 [(.int .i64 0), (.int .i64 0), (.int .i64 0), (.slice .c0 []), (.slice .c0 []), (.int .i64 0)]),
 ox (.store 6 (.tmp 6) (.tmp 12)),
 ob 7 (.mv (.tmp 13))] false [1, 2, 4, 6, 7]) q68_6)
def E68 := And.intro (exK_head q68_0.eq_1) (And.intro (exK_head q68_1.eq_1) (And.intro (exK_head q68_2.eq_1) (And.intro (exK_head q68_3.eq_1) (And.intro (exK_head q68_4.eq_1) (And.intro (exK_head q68_5.eq_1) (And.intro (exK_head q68_6.eq_1) (exK_head q68_7.eq_1)))))))
def ann68 : Ann := { n := 28, own := [], lv := [(0, [1, 2, 4]), (1, [1, 2, 4, 6, 7]), (2, [1, 2, 4, 6, 15]), (3, [4, 5]), (4, [1, 2, 4, 6, 19]), (5, [4, 5]), (6, [1, 2, 4, 23]), (7, [4, 5]), (8, [4, 5])], lp := [] }
def fn68 : AFn := AFn.mk 2 [.cellA 4 3, .tmp 5]
  (.seq (.region [
  ob 2 (.box (.tmp 0)),
  ob 4 (.box0 [(.slice .c0 []), (.int .i64 0), (.int .i64 0)]),
  ob 5 (.mv (.cst (.int .i64 0)))] false [1, 2, 4]) q68_7)
theorem ok68 : compFn Tryz.prog ann68 Tryz.f68 = some fn68 := by kernel_rfl
def q70_0 : ACode :=
 (.seq (.region [
 ob 19 (.mv (.tmp 8)),
 ob 6 (.mv (.tmp 19))] false [6]) (.ret))
def q70_1 : ACode :=
 (.seq (.region [
 ob 6 (.mv (.cst (.int .i64 60)))] false [6]) (.ret))
def q70_2 : ACode :=
 (.seq (.region [
 ob 6 (.mv (.cst (.int .i64 71)))] false [6]) (.ret))
def q70_3 : ACode :=
 (.seq (.region [
 ob 29 (.mv (.tmp 10))] false [0, 1, 7, 29]) (.cond (.tmp 29) q70_2 (.skip)))
def q70_4 : ACode :=
 (.seq (.region [
 ob 6 (.mv (.cst (.int .i64 76)))] false [6]) (.ret))
def q70_5 : ACode :=
 (.seq (.region [
 ob 6 (.mv (.cst (.int .i64 0)))] false [6]) (.ret))
def q70_6 : ACode :=
 (.seq (.seq (.region [
 ob 30 (.faddr 4 (.tmp 7)),
 ob 31 (.load1 (.tmp 30)),
 ob 32 (.lenV (.tmp 31)),
 ob 33 (.bin .geq (.tmp 32) (.cst (.int .i64 64))),
 ob 34 (.mv (.tmp 33)),
 og 35 34 false (.mv (.tmp 0)),
 og 36 34 false (.mv (.tmp 1)),
 og 37 34 false (.call 81 [(.tmp 35), (.tmp 36)]),
 og 38 34 false (.bin .geq (.tmp 37) (.cst (.int .i64 12))),
 ob 39 (.pick (.tmp 34) (.cst (.bool true)) (.tmp 38)),
 ob 40 (.mv (.tmp 39)),
 og 41 40 false (.mv (.tmp 0)),
 og 42 40 false (.chk (.tmp 41)),
 og 43 40 false (.faddr 0 (.tmp 42)),
 og 44 40 false (.faddr 2 (.tmp 43)),
 og 45 40 false (.load1 (.tmp 44)),
 og 46 40 false (.bin .geq (.tmp 45) (.cst (.int .i64 1099511627776))),
 ob 47 (.pick (.tmp 40) (.cst (.bool true)) (.tmp 46))] false [47]) (.cond (.tmp 47) q70_4 (.skip))) q70_5)
def q70_7 : ACode :=
 (.seq (.seq (.region [
 ob 24 (.loadA 6 (.tmp 7)),
 ob 25 (.mv (.tmp 2)),
 ob 26 (.call 42 [(.tmp 24), (.tmp 25)]),
 ob 23 (.mv (.tmp 26)),
 ob 27 (.extract (.tmp 23) 0),
 ob 28 (.extract (.tmp 23) 1),
 ob 9 (.mv (.tmp 27)),
 ob 10 (.mv (.tmp 28))] false [0, 1, 7, 10]) q70_3) q70_6)
def q70_8 : ACode :=
 (.seq (.seq (.region [
 ob 20 (.mv (.tmp 2)),
 ob 21 (.call 41 [(.tmp 20)]),
 ob 22 (.not (.tmp 21))] false [0, 1, 2, 7, 22]) (.cond (.tmp 22) q70_1 (.skip))) q70_7)
def q70_9 : ACode :=
 (.seq (.seq (.region [
 ob 17 (.mv (.tmp 8)),
 ob 18 (.bin .neq (.tmp 17) (.cst (.int .i64 0)))] false [0, 1, 2, 7, 8, 18]) (.cond (.tmp 18) q70_0 (.skip))) q70_8)
def q70_10 : ACode :=
 (.seq (.region [
 ob 12 (.mv (.tmp 0)),
 ob 13 (.mv (.tmp 1)),
 ob 14 (.call 40 [(.tmp 12), (.tmp 13)]),
 ob 11 (.mv (.tmp 14)),
 ob 15 (.extract (.tmp 11) 0),
 ob 16 (.extract (.tmp 11) 1),
 ob 7 (.box0 [(.int .i64 0), (.int .i64 0), (.int .i64 0), (.slice .c0 []), (.slice .c0 []), (.int .i64 0)]),
 ox (.store 6 (.tmp 7) (.tmp 15)),
 ob 8 (.mv (.tmp 16))] false [0, 1, 2, 7, 8]) q70_9)
def E70 := And.intro (exK_head q70_0.eq_1) (And.intro (exK_head q70_1.eq_1) (And.intro (exK_head q70_2.eq_1) (And.intro (exK_head q70_3.eq_1) (And.intro (exK_head q70_4.eq_1) (And.intro (exK_head q70_5.eq_1) (And.intro (exK_head q70_6.eq_1) (And.intro (exK_head q70_7.eq_1) (And.intro (exK_head q70_8.eq_1) (And.intro (exK_head q70_9.eq_1) (exK_head q70_10.eq_1))))))))))
def ann70 : Ann := { n := 48, own := [], lv := [(0, [0, 1, 2]), (1, [0, 1, 2, 7, 8]), (2, [0, 1, 2, 7, 8, 18]), (3, [6]), (4, [0, 1, 2, 7, 22]), (5, [6]), (6, [0, 1, 7, 10]), (7, [0, 1, 7, 29]), (8, [6]), (9, [47]), (10, [6]), (11, [6])], lp := [] }
def fn70 : AFn := AFn.mk 3 [.tmp 6]
  (.seq (.region [
  ob 6 (.mv (.cst (.int .i64 0)))] false [0, 1, 2]) q70_10)
theorem ok70 : compFn Tryz.prog ann70 Tryz.f70 = some fn70 := by kernel_rfl
def q71_0 : ACode :=
 (.seq (.region [
 ob 23 (.loadA 3 (.tmp 3)),
 ox (.store 3 (.tmp 6) (.tmp 23)),
 ob 7 (.mv (.cst (.int .i64 70)))] false [6, 7]) (.ret))
def q71_1 : ACode :=
 (.seq (.region [
 ob 28 (.loadA 3 (.tmp 3)),
 ox (.store 3 (.tmp 6) (.tmp 28)),
 ob 7 (.mv (.cst (.int .i64 72)))] false [6, 7]) (.ret))
def q71_2 : ACode :=
 (.seq (.region [
 ob 33 (.loadA 3 (.tmp 3)),
 ox (.store 3 (.tmp 6) (.tmp 33)),
 ob 7 (.mv (.cst (.int .i64 2)))] false [6, 7]) (.ret))
def q71_3 : ACode :=
 (.seq (.region [
 ob 30 (.mv (.tmp 2)),
 ob 31 (.lenV (.tmp 30)),
 ob 32 (.bin .gtr (.tmp 31) (.cst (.int .i64 4096))),
 ob 29 (.mv (.tmp 32))] false [2, 3, 6, 8, 9, 29]) (.cond (.tmp 29) q71_2 (.skip)))
def q71_4 : ACode :=
 (.seq (.region [
 ob 25 (.faddr 1 (.tmp 9)),
 ob 26 (.load1 (.tmp 25)),
 ob 27 (.bin .eql (.tmp 26) (.cst (.int .i64 2))),
 ob 24 (.mv (.tmp 27))] false [2, 3, 6, 8, 9, 24]) (.cond (.tmp 24) q71_1 q71_3))
def q71_5 : ACode :=
 (.seq (.region [
 ob 40 (.mv (.tmp 8)),
 ob 41 (.chk (.tmp 40)),
 ob 42 (.faddr 0 (.tmp 41)),
 ob 43 (.loadA 3 (.tmp 42)),
 ox (.store 3 (.tmp 6) (.tmp 43)),
 ob 7 (.mv (.cst (.int .i64 0)))] false [6, 7]) (.ret))
def q71_6 : ACode :=
 (.seq (.region [
 ob 37 (.mv (.tmp 8)),
 ob 38 (.loadA 6 (.tmp 9)),
 ob 39 (.call 50 [(.tmp 37), (.tmp 38)])] false [6, 8]) q71_5)
def q71_7 : ACode :=
 (.seq (.region [
 ob 34 (.mv (.tmp 2)),
 ob 35 (.call 107 [(.tmp 34)]),
 ob 36 (.faddr 3 (.tmp 9)),
 ox (.store 1 (.tmp 36) (.tmp 35))] false [6, 8, 9]) q71_6)
def q71_8 : ACode :=
 (.seq (.block 0 (.seq (.region [
 ob 21 (.mv (.tmp 10)),
 ob 22 (.not (.tmp 21)),
 ob 20 (.mv (.tmp 22))] false [2, 3, 6, 8, 9, 20]) (.cond (.tmp 20) q71_0 q71_4))) q71_7)
def q71_9 : ACode :=
 (.seq (.region [
 ob 15 (.mv (.tmp 8)),
 ob 16 (.mv (.tmp 1)),
 ob 17 (.call 43 [(.tmp 15), (.tmp 16)]),
 ob 14 (.mv (.tmp 17)),
 ob 18 (.extract (.tmp 14) 0),
 ob 19 (.extract (.tmp 14) 1),
 ob 9 (.box0 [(.int .i64 0), (.int .i64 0), (.int .i64 0), (.slice .c0 []), (.slice .c0 []), (.int .i64 0)]),
 ox (.store 6 (.tmp 9) (.tmp 18)),
 ob 10 (.mv (.tmp 19))] false [2, 3, 6, 8, 9, 10]) q71_8)
def q71_10 : ACode :=
 (.seq (.region [
 ob 11 (.loadA 3 (.tmp 3)),
 ob 12 (.build [(.slice .c0 []), (.int .i64 0), (.int .i64 0)] [(0, 3, (.tmp 11))]),
 ob 13 (.box (.tmp 12)),
 ob 8 (.mv (.tmp 13))] false [1, 2, 3, 6, 8]) q71_9)
def E71 := And.intro (exK_head q71_0.eq_1) (And.intro (exK_head q71_1.eq_1) (And.intro (exK_head q71_2.eq_1) (And.intro (exK_head q71_3.eq_1) (And.intro (exK_head q71_4.eq_1) (And.intro (exK_head q71_5.eq_1) (And.intro (exK_head q71_6.eq_1) (And.intro (exK_head q71_7.eq_1) (And.intro (exK_head q71_8.eq_1) (And.intro (exK_head q71_9.eq_1) (exK_head q71_10.eq_1))))))))))
def ann71 : Ann := { n := 44, own := [], lv := [(0, [1, 2, 3, 6]), (1, [1, 2, 3, 6, 8]), (2, [2, 3, 6, 8, 9, 10]), (3, [2, 3, 6, 8, 9, 20]), (4, [6, 7]), (5, [2, 3, 6, 8, 9, 24]), (6, [6, 7]), (7, [2, 3, 6, 8, 9, 29]), (8, [6, 7]), (9, [6, 8, 9]), (10, [6, 8]), (11, [6, 7])], lp := [] }
def fn71 : AFn := AFn.mk 3 [.cellA 6 3, .tmp 7]
  (.seq (.region [
  ob 3 (.box (.tmp 0)),
  ob 6 (.box0 [(.slice .c0 []), (.int .i64 0), (.int .i64 0)]),
  ob 7 (.mv (.cst (.int .i64 0)))] false [1, 2, 3, 6]) q71_10)
theorem ok71 : compFn Tryz.prog ann71 Tryz.f71 = some fn71 := by kernel_rfl
def q72_0 : ACode :=
 (.region [
 ob 34 (.mv (.tmp 5)),
 ob 35 (.faddr 1 (.tmp 9)),
 ob 36 (.load1 (.tmp 35)),
 ob 37 (.faddr 0 (.tmp 7)),
 ob 38 (.load1 (.tmp 37)),
 ox (.upd .i (.tmp 34) (.tmp 36) (.tmp 38))] false [4, 5, 7, 16, 17, 18, 23, 24, 25])
def q72_1 : ACode :=
 (.seq (.region [
 ob 29 (.mv (.tmp 4)),
 ob 30 (.faddr 1 (.tmp 9)),
 ob 31 (.load1 (.tmp 30)),
 ob 32 (.look .i (.int .i64 0) false (.tmp 29) (.tmp 31)),
 ob 33 (.bin .add (.tmp 32) (.cst (.int .i64 1))),
 ox (.upd .i (.tmp 29) (.tmp 31) (.tmp 33))] false [4, 5, 7, 9, 16, 17, 18, 23, 24, 25]) q72_0)
def q72_2 : ACode :=
 (.region [
 ob 39 (.bin .add (.tmp 25) (.cst (.int .i64 1))),
 ob 25 (.mv (.tmp 39))] false [4, 5, 7, 16, 17, 18, 23, 24, 25])
def q72_3 : ACode :=
 (.seq (.block 3 (.seq (.region [
 ob 27 (.iaddr 3 (.tmp 23) (.tmp 25)),
 ob 28 (.loadA 3 (.tmp 27)),
 ob 9 (.box0 [(.str []), (.int .i64 0), (.int .i64 0)]),
 ox (.store 3 (.tmp 9) (.tmp 28))] false [4, 5, 7, 9, 16, 17, 18, 23, 24, 25]) q72_1)) q72_2)
def q72_4 : ACode :=
 (.seq (.cond (.tmp 26) (.skip) (.exit 2)) q72_3)
def lb72_0 : ACode :=
 (.seq (.region [
 ob 26 (.bin .lss (.tmp 25) (.tmp 24))] false [4, 5, 7, 16, 17, 18, 23, 24, 25, 26]) q72_4)
def q72_5 : ACode :=
 (.block 2 (.loop [4, 5, 7, 16, 17, 18, 23, 24, 25] lb72_0))
def q72_6 : ACode :=
 (.seq (.region [
 ob 22 (.faddr 4 (.tmp 7)),
 ob 23 (.load1 (.tmp 22)),
 ob 24 (.lenV (.tmp 23)),
 ob 25 (.mv (.cst (.int .i64 0)))] false [4, 5, 7, 16, 17, 18, 23, 24, 25]) q72_5)
def q72_7 : ACode :=
 (.region [
 ob 40 (.bin .add (.tmp 18) (.cst (.int .i64 1))),
 ob 18 (.mv (.tmp 40))] false [4, 5, 16, 17, 18])
def q72_8 : ACode :=
 (.seq (.block 1 (.seq (.region [
 ob 20 (.iaddr 6 (.tmp 16) (.tmp 18)),
 ob 21 (.loadA 6 (.tmp 20)),
 ob 7 (.box0 [(.int .i64 0), (.int .i64 0), (.int .i64 0), (.slice .c0 []), (.slice .c0 []), (.int .i64 0)]),
 ox (.store 6 (.tmp 7) (.tmp 21))] false [4, 5, 7, 16, 17, 18]) q72_6)) q72_7)
def q72_9 : ACode :=
 (.seq (.cond (.tmp 19) (.skip) (.exit 0)) q72_8)
def lb72_1 : ACode :=
 (.seq (.region [
 ob 19 (.bin .lss (.tmp 18) (.tmp 17))] false [4, 5, 16, 17, 18, 19]) q72_9)
def q72_10 : ACode :=
 (.block 0 (.loop [4, 5, 16, 17, 18] lb72_1))
def q72_11 : ACode :=
 (.seq (.region [
 ob 41 (.mv (.tmp 4)),
 ob 42 (.mv (.tmp 5)),
 ob 2 (.mv (.tmp 41)),
 ob 3 (.mv (.tmp 42))] false [2, 3]) (.ret))
def q72_12 : ACode :=
 (.seq (.seq (.region [
 ob 12 (.mv (.tmp 0)),
 ob 13 (.chk (.tmp 12)),
 ob 14 (.faddr 0 (.tmp 13)),
 ob 15 (.faddr 0 (.tmp 14)),
 ob 16 (.load1 (.tmp 15)),
 ob 17 (.lenV (.tmp 16)),
 ob 18 (.mv (.cst (.int .i64 0)))] false [4, 5, 16, 17, 18]) q72_10) q72_11)
def q72_13 : ACode :=
 (.seq (.region [
 ob 10 (.mkMap),
 ob 11 (.mkMap),
 ob 4 (.mv (.tmp 10)),
 ob 5 (.mv (.tmp 11))] false [0, 4, 5]) q72_12)
def E72 := And.intro (exK_head q72_0.eq_1) (And.intro (exK_head q72_1.eq_1) (And.intro (exK_head q72_2.eq_1) (And.intro (exK_head q72_3.eq_1) (And.intro (exK_head q72_4.eq_1) (And.intro (exK_head lb72_0.eq_1) (And.intro (exK_head q72_5.eq_1) (And.intro (exK_head q72_6.eq_1) (And.intro (exK_head q72_7.eq_1) (And.intro (exK_head q72_8.eq_1) (And.intro (exK_head q72_9.eq_1) (And.intro (exK_head lb72_1.eq_1) (And.intro (exK_head q72_10.eq_1) (And.intro (exK_head q72_11.eq_1) (And.intro (exK_head q72_12.eq_1) (exK_head q72_13.eq_1)))))))))))))))
def ann72 : Ann := { n := 43, own := [], lv := [(0, [0]), (1, [0, 4, 5]), (2, [4, 5, 16, 17, 18]), (3, [4, 5, 16, 17, 18, 19]), (4, [4, 5, 7, 16, 17, 18]), (5, [4, 5, 7, 16, 17, 18, 23, 24, 25]), (6, [4, 5, 7, 16, 17, 18, 23, 24, 25, 26]), (7, [4, 5, 7, 9, 16, 17, 18, 23, 24, 25]), (8, [4, 5, 7, 9, 16, 17, 18, 23, 24, 25]), (9, [4, 5, 7, 16, 17, 18, 23, 24, 25]), (10, [4, 5, 7, 16, 17, 18, 23, 24, 25]), (11, [4, 5, 16, 17, 18]), (12, [2, 3])], lp := [(3, [4, 5, 16, 17, 18]), (6, [4, 5, 7, 16, 17, 18, 23, 24, 25])] }
def fn72 : AFn := AFn.mk 1 [.tmp 2, .tmp 3]
  (.seq (.region [
  ob 2 (.mv (.cst (.raw (.map none)))),
  ob 3 (.mv (.cst (.raw (.map none))))] false [0]) q72_13)
theorem ok72 : compFn Tryz.prog ann72 Tryz.f72 = some fn72 := by kernel_rfl
def q73_0 : ACode :=
 (.seq (.region [
 ob 15 (.faddr 4 (.tmp 5)),
 ob 16 (.load1 (.tmp 15)),
 ob 17 (.lenV (.tmp 16)),
 ob 18 (.bin .eql (.tmp 17) (.cst (.int .i64 0))),
 ob 19 (.mv (.tmp 18)),
 og 20 19 true (.faddr 5 (.tmp 5)),
 og 21 19 true (.load1 (.tmp 20)),
 og 22 19 true (.bin .eql (.tmp 21) (.cst (.int .i64 0))),
 ob 23 (.pick (.tmp 19) (.tmp 22) (.cst (.bool false))),
 ob 24 (.mv (.tmp 23)),
 og 25 24 true (.faddr 3 (.tmp 5)),
 og 26 24 true (.load1 (.tmp 25)),
 og 27 24 true (.lenV (.tmp 26)),
 og 28 24 true (.bin .leq (.tmp 27) (.cst (.int .i64 4096))),
 ob 29 (.pick (.tmp 24) (.tmp 28) (.cst (.bool false))),
 ob 30 (.mv (.tmp 29)),
 og 31 30 true (.faddr 2 (.tmp 5)),
 og 32 30 true (.load1 (.tmp 31)),
 og 33 30 true (.mv (.tmp 2)),
 og 34 30 true (.bin .eql (.tmp 32) (.tmp 33)),
 ob 35 (.pick (.tmp 30) (.tmp 34) (.cst (.bool false))),
 ob 8 (.mv (.tmp 35))] false [8]) (.ret))
def q73_1 : ACode :=
 (.seq (.region [
 ob 8 (.mv (.cst (.bool false)))] false [8]) (.ret))
def q73_2 : ACode :=
 (.seq (.region [
 ob 56 (.faddr 5 (.tmp 5)),
 ob 57 (.load1 (.tmp 56)),
 ob 58 (.bin .eql (.tmp 57) (.cst (.int .i64 1))),
 ob 59 (.mv (.tmp 58)),
 og 60 59 true (.faddr 2 (.tmp 5)),
 og 61 59 true (.load1 (.tmp 60)),
 og 62 59 true (.bin .eql (.tmp 61) (.cst (.int .i64 0))),
 ob 63 (.pick (.tmp 59) (.tmp 62) (.cst (.bool false))),
 ob 64 (.mv (.tmp 63)),
 og 65 64 true (.mv (.tmp 2)),
 og 66 64 true (.bin .eql (.tmp 65) (.cst (.int .i64 0))),
 ob 67 (.pick (.tmp 64) (.tmp 66) (.cst (.bool false))),
 ob 8 (.mv (.tmp 67))] false [8]) (.ret))
def q73_3 : ACode :=
 (.seq (.region [
 ob 8 (.mv (.cst (.bool false)))] false [8]) (.ret))
def q73_4 : ACode :=
 (.seq (.region [
 ob 69 (.mv (.tmp 2)),
 ob 70 (.bin .neq (.tmp 69) (.cst (.int .i64 1))),
 ob 71 (.mv (.tmp 70)),
 og 72 71 false (.mv (.tmp 3)),
 og 73 71 false (.faddr 5 (.tmp 5)),
 og 74 71 false (.load1 (.tmp 73)),
 og 75 71 false (.bin .neq (.tmp 72) (.tmp 74)),
 ob 76 (.pick (.tmp 71) (.cst (.bool true)) (.tmp 75)),
 ob 77 (.mv (.tmp 76)),
 og 78 77 false (.faddr 2 (.tmp 5)),
 og 79 77 false (.load1 (.tmp 78)),
 og 80 77 false (.bin .neq (.tmp 79) (.cst (.int .i64 1))),
 ob 81 (.pick (.tmp 77) (.cst (.bool true)) (.tmp 80)),
 ob 68 (.mv (.tmp 81))] false [0, 5, 68]) (.cond (.tmp 68) q73_3 (.skip)))
def q73_5 : ACode :=
 (.seq (.region [
 ob 53 (.faddr 0 (.tmp 5)),
 ob 54 (.load1 (.tmp 53)),
 ob 55 (.bin .eql (.tmp 54) (.cst (.int .i64 1))),
 ob 52 (.mv (.tmp 55))] false [0, 2, 3, 5, 52]) (.cond (.tmp 52) q73_2 q73_4))
def q73_6 : ACode :=
 (.seq (.region [
 ob 37 (.faddr 1 (.tmp 5)),
 ob 38 (.load1 (.tmp 37)),
 ob 39 (.bin .neq (.tmp 38) (.cst (.int .i64 2))),
 ob 40 (.mv (.tmp 39)),
 og 41 40 false (.faddr 3 (.tmp 5)),
 og 42 40 false (.load1 (.tmp 41)),
 og 43 40 false (.lenV (.tmp 42)),
 og 44 40 false (.bin .gtr (.tmp 43) (.cst (.int .i64 0))),
 ob 45 (.pick (.tmp 40) (.cst (.bool true)) (.tmp 44)),
 ob 46 (.mv (.tmp 45)),
 og 47 46 false (.mv (.tmp 0)),
 og 48 46 false (.loadA 6 (.tmp 5)),
 og 49 46 false (.call 108 [(.tmp 47), (.tmp 48)]),
 og 50 46 false (.not (.tmp 49)),
 ob 51 (.pick (.tmp 46) (.cst (.bool true)) (.tmp 50)),
 ob 36 (.mv (.tmp 51))] false [0, 2, 3, 5, 36]) (.cond (.tmp 36) q73_1 q73_5))
def q73_7 : ACode :=
 (.seq (.region [
 ob 89 (.mv (.tmp 9)),
 ob 90 (.mv (.tmp 10)),
 ob 91 (.iaddr 1 (.tmp 89) (.tmp 90)),
 ob 92 (.load1 (.tmp 91)),
 ob 93 (.bin .eql (.tmp 92) (.cst (.int .i64 1))),
 ob 94 (.mv (.tmp 93)),
 og 95 94 true (.mv (.tmp 10)),
 og 96 94 true (.bin .lss (.tmp 95) (.cst (.int .i64 12))),
 og 97 94 true (.mv (.tmp 96)),
 og 98 97 false (.mv (.tmp 10)),
 og 99 97 false (.bin .eql (.tmp 98) (.cst (.int .i64 12))),
 og 100 97 false (.mv (.tmp 99)),
 og 101 100 true (.faddr 4 (.tmp 5)),
 og 102 100 true (.load1 (.tmp 101)),
 og 103 100 true (.lenV (.tmp 102)),
 og 104 100 true (.bin .eql (.tmp 103) (.cst (.int .i64 0))),
 og 105 97 false (.pick (.tmp 100) (.tmp 104) (.cst (.bool false))),
 og 106 94 true (.pick (.tmp 97) (.cst (.bool true)) (.tmp 105)),
 ob 107 (.pick (.tmp 94) (.tmp 106) (.cst (.bool false))),
 ob 8 (.mv (.tmp 107))] false [8]) (.ret))
def q73_8 : ACode :=
 (.seq (.region [
 ob 86 (.mv (.tmp 9)),
 ob 87 (.lenV (.tmp 86)),
 ob 88 (.bin .sub (.tmp 87) (.cst (.int .i64 1))),
 ob 10 (.mv (.tmp 88))] false [5, 9, 10]) q73_7)
def q73_9 : ACode :=
 (.seq (.region [
 ob 82 (.mv (.tmp 0)),
 ob 83 (.faddr 0 (.tmp 5)),
 ob 84 (.load1 (.tmp 83)),
 ob 85 (.call 44 [(.tmp 82), (.tmp 84)]),
 ob 9 (.mv (.tmp 85))] false [5, 9]) q73_8)
def q73_10 : ACode :=
 (.seq (.block 0 (.seq (.region [
 ob 12 (.faddr 1 (.tmp 5)),
 ob 13 (.load1 (.tmp 12)),
 ob 14 (.bin .eql (.tmp 13) (.cst (.int .i64 1))),
 ob 11 (.mv (.tmp 14))] false [0, 2, 3, 5, 11]) (.cond (.tmp 11) q73_0 q73_6))) q73_9)
def E73 := And.intro (exK_head q73_0.eq_1) (And.intro (exK_head q73_1.eq_1) (And.intro (exK_head q73_2.eq_1) (And.intro (exK_head q73_3.eq_1) (And.intro (exK_head q73_4.eq_1) (And.intro (exK_head q73_5.eq_1) (And.intro (exK_head q73_6.eq_1) (And.intro (exK_head q73_7.eq_1) (And.intro (exK_head q73_8.eq_1) (And.intro (exK_head q73_9.eq_1) (exK_head q73_10.eq_1))))))))))
def ann73 : Ann := { n := 108, own := [], lv := [(0, [0, 2, 3, 5]), (1, [0, 2, 3, 5, 11]), (2, [8]), (3, [0, 2, 3, 5, 36]), (4, [8]), (5, [0, 2, 3, 5, 52]), (6, [8]), (7, [0, 5, 68]), (8, [8]), (9, [5, 9]), (10, [5, 9, 10]), (11, [8])], lp := [] }
def fn73 : AFn := AFn.mk 4 [.tmp 8]
  (.seq (.region [
  ob 5 (.box (.tmp 1)),
  ob 8 (.mv (.cst (.bool false)))] false [0, 2, 3, 5]) q73_10)
theorem ok73 : compFn Tryz.prog ann73 Tryz.f73 = some fn73 := by kernel_rfl
def q75_0 : ACode :=
 (.region [
 ob 13 (.mv (.tmp 0)),
 ob 14 (.mv (.tmp 0)),
 ob 15 (.chk (.tmp 14)),
 ob 16 (.faddr 0 (.tmp 15)),
 ob 17 (.faddr 0 (.tmp 16)),
 ob 18 (.load1 (.tmp 17)),
 ob 19 (.callD 85 [(.tmp 18)]),
 ob 20 (.mv (.tmp 4)),
 ob 21 (.mv (.tmp 4)),
 ob 22 (.bin .add (.tmp 21) (.cst (.int .i64 1))),
 ob 23 (.callD 109 [(.tmp 19), (.tmp 20), (.tmp 22)]),
 ob 24 (.chk (.tmp 13)),
 ob 25 (.faddr 0 (.tmp 24)),
 ob 26 (.faddr 0 (.tmp 25)),
 ox (.store 1 (.tmp 26) (.tmp 23))] false [])
def q75_1 : ACode :=
 (.seq (.region [
 ob 12 (.mv (.tmp 5))] false [0, 4, 12]) (.cond (.tmp 12) q75_0 (.skip)))
def E75 := And.intro (exK_head q75_0.eq_1) (exK_head q75_1.eq_1)
def ann75 : Ann := { n := 27, own := [1000085, 1000109], lv := [(0, [0, 4, 5]), (1, [0, 4, 12]), (2, [])], lp := [] }
def fn75 : AFn := AFn.mk 2 []
  (.seq (.region [
  ob 7 (.mv (.tmp 0)),
  ob 8 (.mv (.tmp 1)),
  ob 9 (.call 79 [(.tmp 7), (.tmp 8)]),
  ob 6 (.mv (.tmp 9)),
  ob 10 (.extract (.tmp 6) 0),
  ob 11 (.extract (.tmp 6) 1),
  ob 4 (.mv (.tmp 10)),
  ob 5 (.mv (.tmp 11))] false [0, 4, 5]) q75_1)
theorem ok75 : compFn Tryz.prog ann75 Tryz.f75 = some fn75 := by kernel_rfl
def q76_0 : ACode :=
 (.region [
 ob 32 (.mv (.tmp 11)),
 ob 33 (.bin .add (.tmp 32) (.cst (.int .i64 1))),
 ob 9 (.mv (.tmp 33))] false [0, 1, 2, 8, 9, 10])
def q76_1 : ACode :=
 (.region [
 ob 34 (.mv (.tmp 11)),
 ob 10 (.mv (.tmp 34))] false [0, 1, 2, 8, 9, 10])
def q76_2 : ACode :=
 (.seq (.region [
 ob 24 (.mv (.tmp 2)),
 ob 25 (.mv (.tmp 0)),
 ob 26 (.mv (.tmp 11)),
 ob 27 (.iaddr 3 (.tmp 25) (.tmp 26)),
 ob 28 (.loadA 3 (.tmp 27)),
 ob 29 (.mv (.tmp 1)),
 ob 30 (.callV (.tmp 24) [(.tmp 28), (.tmp 29)]),
 ob 31 (.bin .lss (.tmp 30) (.cst (.int .i64 0)))] false [0, 1, 2, 8, 9, 10, 11, 31]) (.cond (.tmp 31) q76_0 q76_1))
def q76_3 : ACode :=
 (.block 1 (.seq (.region [
 ob 18 (.mv (.tmp 9)),
 ob 19 (.mv (.tmp 10)),
 ob 20 (.bin .add (.tmp 18) (.tmp 19)),
 ob 21 (.conv .u64 (.tmp 20)),
 ob 22 (.bin .shr (.tmp 21) (.cst (.int .u64 1))),
 ob 23 (.conv .i64 (.tmp 22)),
 ob 11 (.mv (.tmp 23))] false [0, 1, 2, 8, 9, 10, 11]) q76_2))
def lb76_0 : ACode :=
 (.seq (.seq (.region [
 ob 15 (.mv (.tmp 9)),
 ob 16 (.mv (.tmp 10)),
 ob 17 (.bin .lss (.tmp 15) (.tmp 16))] false [0, 1, 2, 8, 9, 10, 17]) (.cond (.tmp 17) (.skip) (.exit 0))) q76_3)
def q76_4 : ACode :=
 (.seq (.region [
 ob 35 (.mv (.tmp 9)),
 ob 36 (.mv (.tmp 9)),
 ob 37 (.mv (.tmp 8)),
 ob 38 (.bin .lss (.tmp 36) (.tmp 37)),
 ob 39 (.mv (.tmp 38)),
 og 40 39 true (.mv (.tmp 2)),
 og 41 39 true (.mv (.tmp 0)),
 og 42 39 true (.mv (.tmp 9)),
 og 43 39 true (.iaddr 3 (.tmp 41) (.tmp 42)),
 og 44 39 true (.loadA 3 (.tmp 43)),
 og 45 39 true (.mv (.tmp 1)),
 og 46 39 true (.callV (.tmp 40) [(.tmp 44), (.tmp 45)]),
 og 47 39 true (.bin .eql (.tmp 46) (.cst (.int .i64 0))),
 ob 48 (.pick (.tmp 39) (.tmp 47) (.cst (.bool false))),
 ob 6 (.mv (.tmp 35)),
 ob 7 (.mv (.tmp 48))] false [6, 7]) (.ret))
def q76_5 : ACode :=
 (.seq (.block 0 (.loop [0, 1, 2, 8, 9, 10] lb76_0)) q76_4)
def q76_6 : ACode :=
 (.seq (.region [
 ob 14 (.mv (.tmp 8)),
 ob 9 (.mv (.cst (.int .i64 0))),
 ob 10 (.mv (.tmp 14))] false [0, 1, 2, 8, 9, 10]) q76_5)
def q76_7 : ACode :=
 (.seq (.region [
 ob 12 (.mv (.tmp 0)),
 ob 13 (.lenV (.tmp 12)),
 ob 8 (.mv (.tmp 13))] false [0, 1, 2, 8]) q76_6)
def E76 := And.intro (exK_head q76_0.eq_1) (And.intro (exK_head q76_1.eq_1) (And.intro (exK_head q76_2.eq_1) (And.intro (exK_head q76_3.eq_1) (And.intro (exK_head lb76_0.eq_1) (And.intro (exK_head q76_4.eq_1) (And.intro (exK_head q76_5.eq_1) (And.intro (exK_head q76_6.eq_1) (exK_head q76_7.eq_1))))))))
def ann76 : Ann := { n := 49, own := [], lv := [(0, [0, 1, 2]), (1, [0, 1, 2, 8]), (2, [0, 1, 2, 8, 9, 10]), (3, [0, 1, 2, 8, 9, 10, 17]), (4, [0, 1, 2, 8, 9, 10, 11]), (5, [0, 1, 2, 8, 9, 10, 11, 31]), (6, [0, 1, 2, 8, 9, 10]), (7, [0, 1, 2, 8, 9, 10]), (8, [6, 7])], lp := [(3, [0, 1, 2, 8, 9, 10])] }
def fn76 : AFn := AFn.mk 3 [.tmp 6, .tmp 7]
  (.seq (.region [
  ob 6 (.mv (.cst (.int .i64 0))),
  ob 7 (.mv (.cst (.bool false)))] false [0, 1, 2]) q76_7)
theorem ok76 : compFn Tryz.prog ann76 Tryz.f76 = some fn76 := by kernel_rfl
def q77_0 : ACode :=
 (.seq (.region [
 ob 5 (.faddr 0 (.tmp 2)),
 ob 6 (.load1 (.tmp 5)),
 ob 7 (.mv (.tmp 1)),
 ob 8 (.call 78 [(.tmp 6), (.tmp 7)]),
 ob 4 (.mv (.tmp 8))] false [4]) (.ret))
def E77 := exK_head q77_0.eq_1
def ann77 : Ann := { n := 9, own := [], lv := [(0, [1, 2]), (1, [4])], lp := [] }
def fn77 : AFn := AFn.mk 2 [.tmp 4]
  (.seq (.region [
  ob 2 (.box (.tmp 0)),
  ob 4 (.mv (.cst (.int .i64 0)))] false [1, 2]) q77_0)
theorem ok77 : compFn Tryz.prog ann77 Tryz.f77 = some fn77 := by kernel_rfl
def q78_0 : ACode :=
 (.seq (.region [
 ob 5 (.mv (.tmp 0)),
 ob 6 (.mv (.tmp 1)),
 ob 7 (.call 110 [(.tmp 5), (.tmp 6)]),
 ob 4 (.mv (.tmp 7))] false [4]) (.ret))
def E78 := exK_head q78_0.eq_1
def ann78 : Ann := { n := 8, own := [], lv := [(0, [0, 1]), (1, [4])], lp := [] }
def fn78 : AFn := AFn.mk 2 [.tmp 4]
  (.seq (.region [
  ob 4 (.mv (.cst (.int .i64 0)))] false [0, 1]) q78_0)
theorem ok78 : compFn Tryz.prog ann78 Tryz.f78 = some fn78 := by kernel_rfl
def q79_0 : ACode :=
 (.seq (.region [
 ob 6 (.mv (.tmp 0)),
 ob 7 (.chk (.tmp 6)),
 ob 8 (.faddr 0 (.tmp 7)),
 ob 9 (.faddr 0 (.tmp 8)),
 ob 10 (.load1 (.tmp 9)),
 ob 11 (.mv (.tmp 1)),
 ob 12 (.call 111 [(.tmp 10), (.tmp 11), (.cst (.func 112 []))]),
 ob 13 (.extract (.tmp 12) 0),
 ob 14 (.extract (.tmp 12) 1),
 ob 4 (.mv (.tmp 13)),
 ob 5 (.mv (.tmp 14))] false [4, 5]) (.ret))
def E79 := exK_head q79_0.eq_1
def ann79 : Ann := { n := 15, own := [], lv := [(0, [0, 1]), (1, [4, 5])], lp := [] }
def fn79 : AFn := AFn.mk 2 [.tmp 4, .tmp 5]
  (.seq (.region [
  ob 4 (.mv (.cst (.int .i64 0))),
  ob 5 (.mv (.cst (.bool false)))] false [0, 1]) q79_0)
theorem ok79 : compFn Tryz.prog ann79 Tryz.f79 = some fn79 := by kernel_rfl
def q80_0 : ACode :=
 (.seq (.region [
 ob 17 (.mv (.tmp 5)),
 ob 4 (.mv (.tmp 17))] false [4]) (.ret))
def q80_1 : ACode :=
 (.seq (.region [
 ob 11 (.mv (.tmp 1)),
 ob 12 (.mv (.tmp 0)),
 ob 13 (.mv (.tmp 5)),
 ob 14 (.iaddr 1 (.tmp 12) (.tmp 13)),
 ob 15 (.load1 (.tmp 14)),
 ob 16 (.bin .eql (.tmp 11) (.tmp 15))] false [0, 1, 5, 7, 8, 16]) (.cond (.tmp 16) q80_0 (.skip)))
def q80_2 : ACode :=
 (.region [
 ob 18 (.bin .add (.tmp 8) (.cst (.int .i64 1))),
 ob 8 (.mv (.tmp 18))] false [0, 1, 7, 8])
def q80_3 : ACode :=
 (.seq (.block 1 (.seq (.region [
 ob 10 (.mv (.tmp 8)),
 ob 5 (.mv (.tmp 10))] false [0, 1, 5, 7, 8]) q80_1)) q80_2)
def q80_4 : ACode :=
 (.seq (.cond (.tmp 9) (.skip) (.exit 0)) q80_3)
def lb80_0 : ACode :=
 (.seq (.region [
 ob 9 (.bin .lss (.tmp 8) (.tmp 7))] false [0, 1, 7, 8, 9]) q80_4)
def q80_5 : ACode :=
 (.seq (.region [
 ob 4 (.mv (.cst (.int .i64 (-1))))] false [4]) (.ret))
def q80_6 : ACode :=
 (.seq (.seq (.region [
 ob 6 (.mv (.tmp 0)),
 ob 7 (.lenV (.tmp 6)),
 ob 8 (.mv (.cst (.int .i64 0)))] false [0, 1, 7, 8]) (.block 0 (.loop [0, 1, 7, 8] lb80_0))) q80_5)
def E80 := And.intro (exK_head q80_0.eq_1) (And.intro (exK_head q80_1.eq_1) (And.intro (exK_head q80_2.eq_1) (And.intro (exK_head q80_3.eq_1) (And.intro (exK_head q80_4.eq_1) (And.intro (exK_head lb80_0.eq_1) (And.intro (exK_head q80_5.eq_1) (exK_head q80_6.eq_1)))))))
def ann80 : Ann := { n := 19, own := [], lv := [(0, [0, 1]), (1, [0, 1, 7, 8]), (2, [0, 1, 7, 8, 9]), (3, [0, 1, 5, 7, 8]), (4, [0, 1, 5, 7, 8, 16]), (5, [4]), (6, [0, 1, 7, 8]), (7, [4])], lp := [(2, [0, 1, 7, 8])] }
def fn80 : AFn := AFn.mk 2 [.tmp 4]
  (.seq (.region [
  ob 4 (.mv (.cst (.int .i64 0)))] false [0, 1]) q80_6)
theorem ok80 : compFn Tryz.prog ann80 Tryz.f80 = some fn80 := by kernel_rfl
def q81_0 : ACode :=
 (.seq (.region [
 ob 5 (.mv (.tmp 0)),
 ob 6 (.mv (.tmp 1)),
 ob 7 (.call 44 [(.tmp 5), (.tmp 6)]),
 ob 8 (.lenV (.tmp 7)),
 ob 9 (.bin .sub (.tmp 8) (.cst (.int .i64 1))),
 ob 4 (.mv (.tmp 9))] false [4]) (.ret))
def E81 := exK_head q81_0.eq_1
def ann81 : Ann := { n := 10, own := [], lv := [(0, [0, 1]), (1, [4])], lp := [] }
def fn81 : AFn := AFn.mk 2 [.tmp 4]
  (.seq (.region [
  ob 4 (.mv (.cst (.int .i64 0)))] false [0, 1]) q81_0)
theorem ok81 : compFn Tryz.prog ann81 Tryz.f81 = some fn81 := by kernel_rfl
def q82_0 : ACode :=
 (.seq (.region [
 ob 5 (.mv (.tmp 0)),
 ob 6 (.mv (.tmp 1)),
 ob 7 (.call 113 [(.tmp 5), (.tmp 6)]),
 ob 8 (.bin .geq (.tmp 7) (.cst (.int .i64 0))),
 ob 4 (.mv (.tmp 8))] false [4]) (.ret))
def E82 := exK_head q82_0.eq_1
def ann82 : Ann := { n := 9, own := [], lv := [(0, [0, 1]), (1, [4])], lp := [] }
def fn82 : AFn := AFn.mk 2 [.tmp 4]
  (.seq (.region [
  ob 4 (.mv (.cst (.bool false)))] false [0, 1]) q82_0)
theorem ok82 : compFn Tryz.prog ann82 Tryz.f82 = some fn82 := by kernel_rfl
def q83_0 : ACode :=
 (.seq (.region [
 ob 6 (.mv (.cst (.bool false)))] false [6]) (.ret))
def q83_1 : ACode :=
 (.seq (.region [
 ob 23 (.mv (.tmp 7)),
 ob 24 (.load1 (.tmp 4)),
 ob 25 (.call 45 [(.tmp 23), (.tmp 24)]),
 ob 26 (.mv (.tmp 25)),
 og 27 26 true (.mv (.tmp 8)),
 og 28 26 true (.bin .gtr (.tmp 27) (.cst (.int .i64 12))),
 og 29 26 true (.mv (.tmp 28)),
 og 30 29 false (.mv (.tmp 8)),
 og 31 29 false (.bin .eql (.tmp 30) (.cst (.int .i64 12))),
 og 32 29 false (.mv (.tmp 31)),
 og 33 32 true (.faddr 4 (.tmp 5)),
 og 34 32 true (.load1 (.tmp 33)),
 og 35 32 true (.lenV (.tmp 34)),
 og 36 32 true (.bin .gtr (.tmp 35) (.cst (.int .i64 0))),
 og 37 29 false (.pick (.tmp 32) (.tmp 36) (.cst (.bool false))),
 og 38 26 true (.pick (.tmp 29) (.cst (.bool true)) (.tmp 37)),
 ob 39 (.pick (.tmp 26) (.tmp 38) (.cst (.bool false))),
 ob 6 (.mv (.tmp 39))] false [6]) (.ret))
def q83_2 : ACode :=
 (.seq (.region [
 ob 16 (.load1 (.tmp 2)),
 ob 17 (.mv (.tmp 7)),
 ob 18 (.lenV (.tmp 17)),
 ob 19 (.bin .add (.tmp 16) (.tmp 18)),
 ob 20 (.bin .sub (.tmp 19) (.cst (.int .i64 1))),
 ob 21 (.load1 (.tmp 3)),
 ob 22 (.bin .sub (.tmp 20) (.tmp 21)),
 ob 8 (.mv (.tmp 22))] false [4, 5, 7, 8]) q83_1)
def q83_3 : ACode :=
 (.seq (.region [
 ob 12 (.load1 (.tmp 1)),
 ob 13 (.faddr 0 (.tmp 5)),
 ob 14 (.load1 (.tmp 13)),
 ob 15 (.call 44 [(.tmp 12), (.tmp 14)]),
 ob 7 (.mv (.tmp 15))] false [2, 3, 4, 5, 7]) q83_2)
def q83_4 : ACode :=
 (.seq (.seq (.region [
 ob 9 (.faddr 1 (.tmp 5)),
 ob 10 (.load1 (.tmp 9)),
 ob 11 (.bin .neq (.tmp 10) (.cst (.int .i64 2)))] false [1, 2, 3, 4, 5, 11]) (.cond (.tmp 11) q83_0 (.skip))) q83_3)
def E83 := And.intro (exK_head q83_0.eq_1) (And.intro (exK_head q83_1.eq_1) (And.intro (exK_head q83_2.eq_1) (And.intro (exK_head q83_3.eq_1) (exK_head q83_4.eq_1))))
def ann83 : Ann := { n := 40, own := [], lv := [(0, [1, 2, 3, 4, 5]), (1, [1, 2, 3, 4, 5, 11]), (2, [6]), (3, [2, 3, 4, 5, 7]), (4, [4, 5, 7, 8]), (5, [6])], lp := [] }
def fn83 : AFn := AFn.mk 5 [.tmp 6]
  (.seq (.region [
  ob 5 (.box (.tmp 0)),
  ob 6 (.mv (.cst (.bool false)))] false [1, 2, 3, 4, 5]) q83_4)
theorem ok83 : compFn Tryz.prog ann83 Tryz.f83 = some fn83 := by kernel_rfl
def q88_0 : ACode :=
 (.seq (.region [
 ob 21 (.mv (.tmp 5)),
 ob 4 (.mv (.tmp 21))] false [4]) (.ret))
def q88_1 : ACode :=
 (.region [
 ob 11 (.mv (.tmp 5)),
 ob 12 (.bin .add (.tmp 11) (.cst (.int .i64 1))),
 ob 5 (.mv (.tmp 12))] false [1, 2, 5])
def q88_2 : ACode :=
 (.seq (.block 1 (.seq (.region [
 ob 13 (.faddr 0 (.tmp 2)),
 ob 14 (.load1 (.tmp 13)),
 ob 15 (.mv (.tmp 5)),
 ob 16 (.iaddr 6 (.tmp 14) (.tmp 15)),
 ob 17 (.faddr 0 (.tmp 16)),
 ob 18 (.load1 (.tmp 17)),
 ob 19 (.mv (.tmp 1)),
 ob 20 (.bin .eql (.tmp 18) (.tmp 19))] false [1, 2, 5, 20]) (.cond (.tmp 20) q88_0 (.skip)))) q88_1)
def lb88_0 : ACode :=
 (.seq (.seq (.region [
 ob 6 (.mv (.tmp 5)),
 ob 7 (.faddr 0 (.tmp 2)),
 ob 8 (.load1 (.tmp 7)),
 ob 9 (.lenV (.tmp 8)),
 ob 10 (.bin .lss (.tmp 6) (.tmp 9))] false [1, 2, 5, 10]) (.cond (.tmp 10) (.skip) (.exit 0))) q88_2)
def q88_3 : ACode :=
 (.seq (.region [
 ob 4 (.mv (.cst (.int .i64 (-1))))] false [4]) (.ret))
def q88_4 : ACode :=
 (.seq (.seq (.region [
 ob 5 (.mv (.cst (.int .i64 0)))] false [1, 2, 5]) (.block 0 (.loop [1, 2, 5] lb88_0))) q88_3)
def E88 := And.intro (exK_head q88_0.eq_1) (And.intro (exK_head q88_1.eq_1) (And.intro (exK_head q88_2.eq_1) (And.intro (exK_head lb88_0.eq_1) (And.intro (exK_head q88_3.eq_1) (exK_head q88_4.eq_1)))))
def ann88 : Ann := { n := 22, own := [], lv := [(0, [1, 2]), (1, [1, 2, 5]), (2, [1, 2, 5, 10]), (3, [1, 2, 5]), (4, [1, 2, 5, 20]), (5, [4]), (6, [4])], lp := [(2, [1, 2, 5])] }
def fn88 : AFn := AFn.mk 2 [.tmp 4]
  (.seq (.region [
  ob 2 (.box (.tmp 0)),
  ob 4 (.mv (.cst (.int .i64 0)))] false [1, 2]) q88_4)
theorem ok88 : compFn Tryz.prog ann88 Tryz.f88 = some fn88 := by kernel_rfl
def q89_0 : ACode :=
 (.seq (.region [
 ob 17 (.mv (.tmp 5)),
 ob 4 (.mv (.tmp 17))] false [4]) (.ret))
def q89_1 : ACode :=
 (.seq (.region [
 ob 11 (.mv (.tmp 1)),
 ob 12 (.mv (.tmp 0)),
 ob 13 (.mv (.tmp 5)),
 ob 14 (.iaddr 3 (.tmp 12) (.tmp 13)),
 ob 15 (.loadA 3 (.tmp 14)),
 ob 16 (.callV (.tmp 11) [(.tmp 15)])] false [0, 1, 5, 7, 8, 16]) (.cond (.tmp 16) q89_0 (.skip)))
def q89_2 : ACode :=
 (.region [
 ob 18 (.bin .add (.tmp 8) (.cst (.int .i64 1))),
 ob 8 (.mv (.tmp 18))] false [0, 1, 7, 8])
def q89_3 : ACode :=
 (.seq (.block 1 (.seq (.region [
 ob 10 (.mv (.tmp 8)),
 ob 5 (.mv (.tmp 10))] false [0, 1, 5, 7, 8]) q89_1)) q89_2)
def q89_4 : ACode :=
 (.seq (.cond (.tmp 9) (.skip) (.exit 0)) q89_3)
def lb89_0 : ACode :=
 (.seq (.region [
 ob 9 (.bin .lss (.tmp 8) (.tmp 7))] false [0, 1, 7, 8, 9]) q89_4)
def q89_5 : ACode :=
 (.seq (.region [
 ob 4 (.mv (.cst (.int .i64 (-1))))] false [4]) (.ret))
def q89_6 : ACode :=
 (.seq (.seq (.region [
 ob 6 (.mv (.tmp 0)),
 ob 7 (.lenV (.tmp 6)),
 ob 8 (.mv (.cst (.int .i64 0)))] false [0, 1, 7, 8]) (.block 0 (.loop [0, 1, 7, 8] lb89_0))) q89_5)
def E89 := And.intro (exK_head q89_0.eq_1) (And.intro (exK_head q89_1.eq_1) (And.intro (exK_head q89_2.eq_1) (And.intro (exK_head q89_3.eq_1) (And.intro (exK_head q89_4.eq_1) (And.intro (exK_head lb89_0.eq_1) (And.intro (exK_head q89_5.eq_1) (exK_head q89_6.eq_1)))))))
def ann89 : Ann := { n := 19, own := [], lv := [(0, [0, 1]), (1, [0, 1, 7, 8]), (2, [0, 1, 7, 8, 9]), (3, [0, 1, 5, 7, 8]), (4, [0, 1, 5, 7, 8, 16]), (5, [4]), (6, [0, 1, 7, 8]), (7, [4])], lp := [(2, [0, 1, 7, 8])] }
def fn89 : AFn := AFn.mk 2 [.tmp 4]
  (.seq (.region [
  ob 4 (.mv (.cst (.int .i64 0)))] false [0, 1]) q89_6)
theorem ok89 : compFn Tryz.prog ann89 Tryz.f89 = some fn89 := by kernel_rfl
def q90_0 : ACode :=
 (.seq (.region [
 ob 26 (.mv (.tmp 0)),
 ob 27 (.mv (.tmp 1)),
 ob 28 (.mv (.tmp 2)),
 ob 29 (.mv (.tmp 4)),
 ob 30 (.call 118 [(.tmp 26), (.tmp 27), (.tmp 28), (.tmp 29)])] false []) (.ret))
def q90_1 : ACode :=
 (.seq (.region [
 ob 33 (.mv (.tmp 0)),
 ob 34 (.mv (.tmp 1)),
 ob 35 (.mv (.tmp 2)),
 ob 36 (.mv (.tmp 4)),
 ob 37 (.call 119 [(.tmp 33), (.tmp 34), (.tmp 35), (.tmp 36)])] false []) (.ret))
def q90_2 : ACode :=
 (.region [
 ob 45 (.mv (.tmp 3)),
 ob 46 (.bin .sub (.tmp 45) (.cst (.int .i64 1))),
 ob 3 (.mv (.tmp 46))] false [0, 1, 2, 3, 4, 10, 11, 12])
def q90_3 : ACode :=
 (.seq (.region [
 ob 40 (.mv (.tmp 0)),
 ob 41 (.mv (.tmp 1)),
 ob 42 (.mv (.tmp 2)),
 ob 43 (.mv (.tmp 4)),
 ob 44 (.call 120 [(.tmp 40), (.tmp 41), (.tmp 42), (.tmp 43)])] false [0, 1, 2, 3, 4, 10, 11, 12]) q90_2)
def q90_4 : ACode :=
 (.region [
 ob 14 (.mv (.cst (.int .i64 1)))] false [0, 1, 2, 3, 4, 10, 11, 12, 13, 14])
def q90_5 : ACode :=
 (.seq (.region [
 ob 62 (.mv (.tmp 2)),
 ob 63 (.bin .sub (.tmp 62) (.cst (.int .i64 1))),
 ob 64 (.mv (.tmp 13)),
 ob 65 (.mv (.tmp 1)),
 ob 66 (.bin .sub (.tmp 64) (.tmp 65)),
 ob 67 (.bin .sub (.tmp 63) (.tmp 66)),
 ob 13 (.mv (.tmp 67))] false [0, 1, 2, 3, 4, 10, 11, 12, 13]) q90_4)
def q90_6 : ACode :=
 (.seq (.region [
 ob 57 (.mv (.tmp 0)),
 ob 58 (.mv (.tmp 1)),
 ob 59 (.mv (.tmp 2)),
 ob 60 (.mv (.tmp 4)),
 ob 61 (.call 122 [(.tmp 57), (.tmp 58), (.tmp 59), (.tmp 60)])] false [0, 1, 2, 3, 4, 10, 11, 12, 13]) q90_5)
def q90_7 : ACode :=
 (.seq (.region [
 ob 76 (.mv (.tmp 0)),
 ob 77 (.mv (.tmp 1)),
 ob 78 (.mv (.tmp 2)),
 ob 79 (.mv (.tmp 4)),
 ob 80 (.call 123 [(.tmp 76), (.tmp 77), (.tmp 78), (.tmp 79)])] false [0, 1, 2, 3, 4, 10, 11, 12, 13, 80]) (.cond (.tmp 80) (.ret) (.skip)))
def q90_8 : ACode :=
 (.seq (.region [
 ob 104 (.mv (.tmp 15)),
 ob 1 (.mv (.tmp 104))] false [0, 1, 2, 3, 4, 10, 11]) (.exit 1))
def q90_9 : ACode :=
 (.seq (.region [
 ob 98 (.mv (.tmp 0)),
 ob 99 (.mv (.tmp 1)),
 ob 100 (.mv (.tmp 2)),
 ob 101 (.mv (.tmp 13)),
 ob 102 (.mv (.tmp 4)),
 ob 103 (.call 124 [(.tmp 98), (.tmp 99), (.tmp 100), (.tmp 101), (.tmp 102)]),
 ob 15 (.mv (.tmp 103))] false [0, 2, 3, 4, 10, 11, 15]) q90_8)
def q90_10 : ACode :=
 (.region [
 ob 135 (.mv (.tmp 16)),
 ob 136 (.bin .add (.tmp 135) (.cst (.int .i64 1))),
 ob 1 (.mv (.tmp 136))] false [0, 1, 2, 3, 4, 10, 11])
def q90_11 : ACode :=
 (.seq (.region [
 ob 129 (.mv (.tmp 0)),
 ob 130 (.mv (.tmp 1)),
 ob 131 (.mv (.tmp 16)),
 ob 132 (.mv (.tmp 3)),
 ob 133 (.mv (.tmp 4)),
 ob 134 (.call 90 [(.tmp 129), (.tmp 130), (.tmp 131), (.tmp 132), (.tmp 133)])] false [0, 2, 3, 4, 10, 11, 16]) q90_10)
def q90_12 : ACode :=
 (.seq (.region [
 ob 126 (.mv (.tmp 18)),
 ob 127 (.mv (.tmp 20)),
 ob 128 (.bin .geq (.tmp 126) (.tmp 127)),
 ob 10 (.mv (.tmp 128))] false [0, 1, 2, 3, 4, 10, 11, 16]) q90_11)
def q90_13 : ACode :=
 (.region [
 ob 147 (.mv (.tmp 16)),
 ob 2 (.mv (.tmp 147))] false [0, 1, 2, 3, 4, 10, 11])
def q90_14 : ACode :=
 (.seq (.region [
 ob 140 (.mv (.tmp 0)),
 ob 141 (.mv (.tmp 16)),
 ob 142 (.bin .add (.tmp 141) (.cst (.int .i64 1))),
 ob 143 (.mv (.tmp 2)),
 ob 144 (.mv (.tmp 3)),
 ob 145 (.mv (.tmp 4)),
 ob 146 (.call 90 [(.tmp 140), (.tmp 142), (.tmp 143), (.tmp 144), (.tmp 145)])] false [0, 1, 3, 4, 10, 11, 16]) q90_13)
def q90_15 : ACode :=
 (.seq (.region [
 ob 137 (.mv (.tmp 19)),
 ob 138 (.mv (.tmp 20)),
 ob 139 (.bin .geq (.tmp 137) (.tmp 138)),
 ob 10 (.mv (.tmp 139))] false [0, 1, 2, 3, 4, 10, 11, 16]) q90_14)
def q90_16 : ACode :=
 (.seq (.region [
 ob 123 (.mv (.tmp 18)),
 ob 124 (.mv (.tmp 19)),
 ob 125 (.bin .lss (.tmp 123) (.tmp 124))] false [0, 1, 2, 3, 4, 11, 16, 18, 19, 20, 125]) (.cond (.tmp 125) q90_12 q90_15))
def q90_17 : ACode :=
 (.seq (.region [
 ob 121 (.mv (.tmp 12)),
 ob 122 (.bin .quo (.tmp 121) (.cst (.int .i64 8))),
 ob 20 (.mv (.tmp 122))] false [0, 1, 2, 3, 4, 11, 16, 18, 19, 20]) q90_16)
def q90_18 : ACode :=
 (.seq (.region [
 ob 115 (.mv (.tmp 16)),
 ob 116 (.mv (.tmp 1)),
 ob 117 (.bin .sub (.tmp 115) (.tmp 116)),
 ob 118 (.mv (.tmp 2)),
 ob 119 (.mv (.tmp 16)),
 ob 120 (.bin .sub (.tmp 118) (.tmp 119)),
 ob 18 (.mv (.tmp 117)),
 ob 19 (.mv (.tmp 120))] false [0, 1, 2, 3, 4, 11, 12, 16, 18, 19]) q90_17)
def q90_19 : ACode :=
 (.seq (.region [
 ob 114 (.mv (.tmp 17)),
 ob 11 (.mv (.tmp 114))] false [0, 1, 2, 3, 4, 11, 12, 16]) q90_18)
def q90_20 : ACode :=
 (.seq (.region [
 ob 106 (.mv (.tmp 0)),
 ob 107 (.mv (.tmp 1)),
 ob 108 (.mv (.tmp 2)),
 ob 109 (.mv (.tmp 13)),
 ob 110 (.mv (.tmp 4)),
 ob 111 (.call 125 [(.tmp 106), (.tmp 107), (.tmp 108), (.tmp 109), (.tmp 110)]),
 ob 105 (.mv (.tmp 111)),
 ob 112 (.extract (.tmp 105) 0),
 ob 113 (.extract (.tmp 105) 1),
 ob 16 (.mv (.tmp 112)),
 ob 17 (.mv (.tmp 113))] false [0, 1, 2, 3, 4, 12, 16, 17]) q90_19)
def q90_21 : ACode :=
 (.seq (.seq (.region [
 ob 81 (.mv (.tmp 1)),
 ob 82 (.bin .gtr (.tmp 81) (.cst (.int .i64 0))),
 ob 83 (.mv (.tmp 82)),
 og 84 83 true (.mv (.tmp 4)),
 og 85 83 true (.mv (.tmp 0)),
 og 86 83 true (.mv (.tmp 1)),
 og 87 83 true (.bin .sub (.tmp 86) (.cst (.int .i64 1))),
 og 88 83 true (.iaddr 3 (.tmp 85) (.tmp 87)),
 og 89 83 true (.loadA 3 (.tmp 88)),
 og 90 83 true (.mv (.tmp 0)),
 og 91 83 true (.mv (.tmp 13)),
 og 92 83 true (.iaddr 3 (.tmp 90) (.tmp 91)),
 og 93 83 true (.loadA 3 (.tmp 92)),
 og 94 83 true (.callV (.tmp 84) [(.tmp 89), (.tmp 93)]),
 og 95 83 true (.bin .lss (.tmp 94) (.cst (.int .i64 0))),
 og 96 83 true (.not (.tmp 95)),
 ob 97 (.pick (.tmp 83) (.tmp 96) (.cst (.bool false)))] true [0, 1, 2, 3, 4, 10, 11, 12, 13, 97]) (.cond (.tmp 97) q90_9 (.skip))) q90_20)
def q90_22 : ACode :=
 (.seq (.seq (.region [
 ob 68 (.mv (.tmp 10)),
 ob 69 (.mv (.tmp 68)),
 og 70 69 true (.mv (.tmp 11)),
 ob 71 (.pick (.tmp 69) (.tmp 70) (.cst (.bool false))),
 ob 72 (.mv (.tmp 71)),
 og 73 72 true (.mv (.tmp 14)),
 og 74 72 true (.bin .eql (.tmp 73) (.cst (.int .i64 1))),
 ob 75 (.pick (.tmp 72) (.tmp 74) (.cst (.bool false)))] false [0, 1, 2, 3, 4, 10, 11, 12, 13, 75]) (.cond (.tmp 75) q90_7 (.skip))) q90_21)
def q90_23 : ACode :=
 (.seq (.seq (.region [
 ob 55 (.mv (.tmp 14)),
 ob 56 (.bin .eql (.tmp 55) (.cst (.int .i64 2)))] false [0, 1, 2, 3, 4, 10, 11, 12, 13, 14, 56]) (.cond (.tmp 56) q90_6 (.skip))) q90_22)
def q90_24 : ACode :=
 (.seq (.region [
 ob 48 (.mv (.tmp 0)),
 ob 49 (.mv (.tmp 1)),
 ob 50 (.mv (.tmp 2)),
 ob 51 (.mv (.tmp 4)),
 ob 52 (.call 121 [(.tmp 48), (.tmp 49), (.tmp 50), (.tmp 51)]),
 ob 47 (.mv (.tmp 52)),
 ob 53 (.extract (.tmp 47) 0),
 ob 54 (.extract (.tmp 47) 1),
 ob 13 (.mv (.tmp 53)),
 ob 14 (.mv (.tmp 54))] false [0, 1, 2, 3, 4, 10, 11, 12, 13, 14]) q90_23)
def q90_25 : ACode :=
 (.seq (.seq (.region [
 ob 38 (.mv (.tmp 10)),
 ob 39 (.not (.tmp 38))] false [0, 1, 2, 3, 4, 10, 11, 12, 39]) (.cond (.tmp 39) q90_3 (.skip))) q90_24)
def q90_26 : ACode :=
 (.seq (.seq (.region [
 ob 31 (.mv (.tmp 3)),
 ob 32 (.bin .eql (.tmp 31) (.cst (.int .i64 0)))] false [0, 1, 2, 3, 4, 10, 11, 12, 32]) (.cond (.tmp 32) q90_1 (.skip))) q90_25)
def q90_27 : ACode :=
 (.seq (.seq (.region [
 ob 24 (.mv (.tmp 12)),
 ob 25 (.bin .leq (.tmp 24) (.cst (.int .i64 12)))] false [0, 1, 2, 3, 4, 10, 11, 12, 25]) (.cond (.tmp 25) q90_0 (.skip))) q90_26)
def lb90_0 : ACode :=
 (.block 1 (.seq (.region [
 ob 21 (.mv (.tmp 2)),
 ob 22 (.mv (.tmp 1)),
 ob 23 (.bin .sub (.tmp 21) (.tmp 22)),
 ob 12 (.mv (.tmp 23))] false [0, 1, 2, 3, 4, 10, 11, 12]) q90_27))
def q90_28 : ACode :=
 (.block 0 (.loop [0, 1, 2, 3, 4, 10, 11] lb90_0))
def q90_29 : ACode :=
 (.seq (.region [
 ob 11 (.mv (.cst (.bool true)))] false [0, 1, 2, 3, 4, 10, 11]) q90_28)
def E90 := And.intro (exK_head q90_0.eq_1) (And.intro (exK_head q90_1.eq_1) (And.intro (exK_head q90_2.eq_1) (And.intro (exK_head q90_3.eq_1) (And.intro (exK_head q90_4.eq_1) (And.intro (exK_head q90_5.eq_1) (And.intro (exK_head q90_6.eq_1) (And.intro (exK_head q90_7.eq_1) (And.intro (exK_head q90_8.eq_1) (And.intro (exK_head q90_9.eq_1) (And.intro (exK_head q90_10.eq_1) (And.intro (exK_head q90_11.eq_1) (And.intro (exK_head q90_12.eq_1) (And.intro (exK_head q90_13.eq_1) (And.intro (exK_head q90_14.eq_1) (And.intro (exK_head q90_15.eq_1) (And.intro (exK_head q90_16.eq_1) (And.intro (exK_head q90_17.eq_1) (And.intro (exK_head q90_18.eq_1) (And.intro (exK_head q90_19.eq_1) (And.intro (exK_head q90_20.eq_1) (And.intro (exK_head q90_21.eq_1) (And.intro (exK_head q90_22.eq_1) (And.intro (exK_head q90_23.eq_1) (And.intro (exK_head q90_24.eq_1) (And.intro (exK_head q90_25.eq_1) (And.intro (exK_head q90_26.eq_1) (And.intro (exK_head q90_27.eq_1) (And.intro (exK_head lb90_0.eq_1) (And.intro (exK_head q90_28.eq_1) (exK_head q90_29.eq_1))))))))))))))))))))))))))))))
def ann90 : Ann := { n := 148, own := [], lv := [(0, [0, 1, 2, 3, 4, 10]), (1, [0, 1, 2, 3, 4, 10, 11]), (2, [0, 1, 2, 3, 4, 10, 11, 12]), (3, [0, 1, 2, 3, 4, 10, 11, 12, 25]), (4, []), (5, [0, 1, 2, 3, 4, 10, 11, 12, 32]), (6, []), (7, [0, 1, 2, 3, 4, 10, 11, 12, 39]), (8, [0, 1, 2, 3, 4, 10, 11, 12]), (9, [0, 1, 2, 3, 4, 10, 11, 12]), (10, [0, 1, 2, 3, 4, 10, 11, 12, 13, 14]), (11, [0, 1, 2, 3, 4, 10, 11, 12, 13, 14, 56]), (12, [0, 1, 2, 3, 4, 10, 11, 12, 13]), (13, [0, 1, 2, 3, 4, 10, 11, 12, 13]), (14, [0, 1, 2, 3, 4, 10, 11, 12, 13, 14]), (15, [0, 1, 2, 3, 4, 10, 11, 12, 13, 75]), (16, [0, 1, 2, 3, 4, 10, 11, 12, 13, 80]), (17, [0, 1, 2, 3, 4, 10, 11, 12, 13, 97]), (18, [0, 2, 3, 4, 10, 11, 15]), (19, [0, 1, 2, 3, 4, 10, 11]), (20, [0, 1, 2, 3, 4, 12, 16, 17]), (21, [0, 1, 2, 3, 4, 11, 12, 16]), (22, [0, 1, 2, 3, 4, 11, 12, 16, 18, 19]), (23, [0, 1, 2, 3, 4, 11, 16, 18, 19, 20]), (24, [0, 1, 2, 3, 4, 11, 16, 18, 19, 20, 125]), (25, [0, 1, 2, 3, 4, 10, 11, 16]), (26, [0, 2, 3, 4, 10, 11, 16]), (27, [0, 1, 2, 3, 4, 10, 11]), (28, [0, 1, 2, 3, 4, 10, 11, 16]), (29, [0, 1, 3, 4, 10, 11, 16]), (30, [0, 1, 2, 3, 4, 10, 11])], lp := [(2, [0, 1, 2, 3, 4, 10, 11])] }
def fn90 : AFn := AFn.mk 5 []
  (.seq (.region [
  ob 10 (.mv (.cst (.bool true)))] false [0, 1, 2, 3, 4, 10]) q90_29)
theorem ok90 : compFn Tryz.prog ann90 Tryz.f90 = some fn90 := by kernel_rfl
def q91_0 : ACode :=
 (.seq (.region [
 ob 3 (.mv (.tmp 0)),
 ob 4 (.conv .u32 (.tmp 3)),
 ob 5 (.call 126 [(.tmp 4)]),
 ob 2 (.mv (.tmp 5))] false [2]) (.ret))
def q91_1 : ACode :=
 (.seq (.region [
 ob 6 (.mv (.tmp 0)),
 ob 7 (.call 127 [(.tmp 6)]),
 ob 2 (.mv (.tmp 7))] false [2]) (.ret))
def q91_2 : ACode :=
 (.seq (.cond (.cst (.bool false)) q91_0 (.skip)) q91_1)
def E91 := And.intro (exK_head q91_0.eq_1) (And.intro (exK_head q91_1.eq_1) (exK_head q91_2.eq_1))
def ann91 : Ann := { n := 8, own := [], lv := [(0, [0]), (1, [2]), (2, [2])], lp := [] }
def fn91 : AFn := AFn.mk 1 [.tmp 2]
  (.seq (.region [
  ob 2 (.mv (.cst (.int .i64 0)))] false [0]) q91_2)
theorem ok91 : compFn Tryz.prog ann91 Tryz.f91 = some fn91 := by kernel_rfl
def q92_0 : ACode :=
 (.seq (.region [
 ob 3 (.mv (.tmp 0)),
 ob 4 (.mv (.tmp 0)),
 ob 5 (.bin .neq (.tmp 3) (.tmp 4)),
 ob 2 (.mv (.tmp 5))] false [2]) (.ret))
def E92 := exK_head q92_0.eq_1
def ann92 : Ann := { n := 6, own := [], lv := [(0, [0]), (1, [2])], lp := [] }
def fn92 : AFn := AFn.mk 1 [.tmp 2]
  (.seq (.region [
  ob 2 (.mv (.cst (.bool false)))] false [0]) q92_0)
theorem ok92 : compFn Tryz.prog ann92 Tryz.f92 = some fn92 := by kernel_rfl
def q93_0 : ACode :=
 (.seq (.region [
 ob 17 (.mv (.tmp 8)),
 ob 6 (.mv (.tmp 17))] false [6]) (.ret))
def q93_1 : ACode :=
 (.seq (.region [
 ob 6 (.mv (.cst (.int .i64 60)))] false [6]) (.ret))
def q93_2 : ACode :=
 (.seq (.region [
 ob 6 (.mv (.cst (.int .i64 71)))] false [6]) (.ret))
def q93_3 : ACode :=
 (.seq (.region [
 ob 6 (.mv (.cst (.int .i64 76)))] false [6]) (.ret))
def q93_4 : ACode :=
 (.seq (.region [
 ob 6 (.mv (.cst (.int .i64 0)))] false [6]) (.ret))
def q93_5 : ACode :=
 (.seq (.seq (.region [
 ob 25 (.loadA 3 (.tmp 3)),
 ob 26 (.loadA 6 (.tmp 7)),
 ob 27 (.call 128 [(.tmp 25), (.tmp 26)])] false [27]) (.cond (.tmp 27) q93_3 (.skip))) q93_4)
def q93_6 : ACode :=
 (.seq (.seq (.region [
 ob 21 (.loadA 6 (.tmp 7)),
 ob 22 (.mv (.tmp 2)),
 ob 23 (.call 100 [(.tmp 21), (.tmp 22)]),
 ob 24 (.bin .geq (.tmp 23) (.cst (.int .i64 0)))] false [3, 7, 24]) (.cond (.tmp 24) q93_2 (.skip))) q93_5)
def q93_7 : ACode :=
 (.seq (.seq (.region [
 ob 18 (.mv (.tmp 2)),
 ob 19 (.call 22 [(.tmp 18)]),
 ob 20 (.not (.tmp 19))] false [2, 3, 7, 20]) (.cond (.tmp 20) q93_1 (.skip))) q93_6)
def q93_8 : ACode :=
 (.seq (.seq (.region [
 ob 15 (.mv (.tmp 8)),
 ob 16 (.bin .neq (.tmp 15) (.cst (.int .i64 0)))] false [2, 3, 7, 8, 16]) (.cond (.tmp 16) q93_0 (.skip))) q93_7)
def q93_9 : ACode :=
 (.seq (.region [
 ob 10 (.loadA 3 (.tmp 3)),
 ob 11 (.mv (.tmp 1)),
 ob 12 (.call 99 [(.tmp 10), (.tmp 11)]),
 ob 9 (.mv (.tmp 12)),
 ob 13 (.extract (.tmp 9) 0),
 ob 14 (.extract (.tmp 9) 1),
 ob 7 (.box0 [(.int .i64 0), (.int .i64 0), (.int .i64 0), (.slice .c0 []), (.slice .c0 []), (.int .i64 0)]),
 ox (.store 6 (.tmp 7) (.tmp 13)),
 ob 8 (.mv (.tmp 14))] false [2, 3, 7, 8]) q93_8)
def E93 := And.intro (exK_head q93_0.eq_1) (And.intro (exK_head q93_1.eq_1) (And.intro (exK_head q93_2.eq_1) (And.intro (exK_head q93_3.eq_1) (And.intro (exK_head q93_4.eq_1) (And.intro (exK_head q93_5.eq_1) (And.intro (exK_head q93_6.eq_1) (And.intro (exK_head q93_7.eq_1) (And.intro (exK_head q93_8.eq_1) (exK_head q93_9.eq_1)))))))))
def ann93 : Ann := { n := 28, own := [], lv := [(0, [1, 2, 3]), (1, [2, 3, 7, 8]), (2, [2, 3, 7, 8, 16]), (3, [6]), (4, [2, 3, 7, 20]), (5, [6]), (6, [3, 7, 24]), (7, [6]), (8, [27]), (9, [6]), (10, [6])], lp := [] }
def fn93 : AFn := AFn.mk 3 [.tmp 6]
  (.seq (.region [
  ob 3 (.box (.tmp 0)),
  ob 6 (.mv (.cst (.int .i64 0)))] false [1, 2, 3]) q93_9)
theorem ok93 : compFn Tryz.prog ann93 Tryz.f93 = some fn93 := by kernel_rfl
def q94_0 : ACode :=
 (.region [
 ob 13 (.mv (.cst (.bool true)))] false [2, 4, 8, 9, 11, 12, 13, 14])
def q94_1 : ACode :=
 (.seq (.region [
 ob 45 (.mv (.tmp 12)),
 ob 46 (.loadA 3 (.tmp 11)),
 ob 47 (.lits 3 [(.tmp 46)]),
 ob 48 (.append 3 32 (.tmp 45) (.tmp 47)),
 ob 12 (.mv (.tmp 48))] false [2, 4, 8, 9, 11, 12, 14]) q94_0)
def q94_2 : ACode :=
 (.region [
 ob 49 (.mv (.tmp 12)),
 ob 50 (.faddr 4 (.tmp 9)),
 ob 51 (.load1 (.tmp 50)),
 ob 52 (.mv (.tmp 14)),
 ob 53 (.iaddr 3 (.tmp 51) (.tmp 52)),
 ob 54 (.loadA 3 (.tmp 53)),
 ob 55 (.lits 3 [(.tmp 54)]),
 ob 56 (.append 3 32 (.tmp 49) (.tmp 55)),
 ob 12 (.mv (.tmp 56))] false [2, 4, 8, 9, 11, 12, 13, 14])
def q94_3 : ACode :=
 (.region [
 ob 31 (.mv (.tmp 14)),
 ob 32 (.bin .add (.tmp 31) (.cst (.int .i64 1))),
 ob 14 (.mv (.tmp 32))] false [2, 4, 8, 9, 11, 12, 13, 14])
def q94_4 : ACode :=
 (.seq (.block 1 (.seq (.seq (.region [
 ob 33 (.mv (.tmp 13)),
 ob 34 (.not (.tmp 33)),
 ob 35 (.mv (.tmp 34)),
 og 36 35 true (.faddr 4 (.tmp 9)),
 og 37 35 true (.load1 (.tmp 36)),
 og 38 35 true (.mv (.tmp 14)),
 og 39 35 true (.iaddr 3 (.tmp 37) (.tmp 38)),
 og 40 35 true (.faddr 0 (.tmp 39)),
 og 41 35 true (.load1 (.tmp 40)),
 og 42 35 true (.mv (.tmp 2)),
 og 43 35 true (.bin .gtr (.tmp 41) (.tmp 42)),
 ob 44 (.pick (.tmp 35) (.tmp 43) (.cst (.bool false)))] false [2, 4, 8, 9, 11, 12, 13, 14, 44]) (.cond (.tmp 44) q94_1 (.skip))) q94_2)) q94_3)
def lb94_0 : ACode :=
 (.seq (.seq (.region [
 ob 26 (.mv (.tmp 14)),
 ob 27 (.faddr 4 (.tmp 9)),
 ob 28 (.load1 (.tmp 27)),
 ob 29 (.lenV (.tmp 28)),
 ob 30 (.bin .lss (.tmp 26) (.tmp 29))] false [2, 4, 8, 9, 11, 12, 13, 14, 30]) (.cond (.tmp 30) (.skip) (.exit 0))) q94_4)
def q94_5 : ACode :=
 (.block 0 (.loop [2, 4, 8, 9, 11, 12, 13, 14] lb94_0))
def q94_6 : ACode :=
 (.region [
 ob 59 (.mv (.tmp 12)),
 ob 60 (.loadA 3 (.tmp 11)),
 ob 61 (.lits 3 [(.tmp 60)]),
 ob 62 (.append 3 32 (.tmp 59) (.tmp 61)),
 ob 12 (.mv (.tmp 62))] false [4, 8, 9, 12])
def q94_7 : ACode :=
 (.seq (.region [
 ob 69 (.loadA 3 (.tmp 4)),
 ob 70 (.loadA 6 (.tmp 9)),
 ob 71 (.call 95 [(.tmp 69), (.tmp 70)]),
 ox (.store 3 (.tmp 8) (.tmp 71))] false [8]) (.ret))
def q94_8 : ACode :=
 (.seq (.region [
 ob 65 (.faddr 2 (.tmp 4)),
 ob 66 (.load1 (.tmp 65)),
 ob 67 (.bin .add (.tmp 66) (.cst (.int .i64 1))),
 ob 68 (.faddr 2 (.tmp 4)),
 ox (.store 1 (.tmp 68) (.tmp 67))] false [4, 8, 9]) q94_7)
def q94_9 : ACode :=
 (.seq (.region [
 ob 63 (.mv (.tmp 12)),
 ob 64 (.faddr 4 (.tmp 9)),
 ox (.store 1 (.tmp 64) (.tmp 63))] false [4, 8, 9]) q94_8)
def q94_10 : ACode :=
 (.seq (.seq (.region [
 ob 57 (.mv (.tmp 13)),
 ob 58 (.not (.tmp 57))] false [4, 8, 9, 11, 12, 58]) (.cond (.tmp 58) q94_6 (.skip))) q94_9)
def q94_11 : ACode :=
 (.seq (.seq (.region [
 ob 14 (.mv (.cst (.int .i64 0)))] false [2, 4, 8, 9, 11, 12, 13, 14]) q94_5) q94_10)
def q94_12 : ACode :=
 (.seq (.region [
 ob 13 (.mv (.cst (.bool false)))] false [2, 4, 8, 9, 11, 12, 13]) q94_11)
def q94_13 : ACode :=
 (.seq (.region [
 ob 12 (.own 3 (.cst (.slice .c0 [])))] false [2, 4, 8, 9, 11, 12]) q94_12)
def q94_14 : ACode :=
 (.seq (.region [
 ob 21 (.mv (.tmp 2)),
 ob 22 (.mv (.tmp 3)),
 ob 23 (.faddr 2 (.tmp 4)),
 ob 24 (.load1 (.tmp 23)),
 ob 25 (.build [(.str []), (.int .i64 0), (.int .i64 0)] [(0, 1, (.tmp 21)), (1, 1, (.tmp 22)), (2, 1, (.tmp 24))]),
 ob 11 (.box0 [(.str []), (.int .i64 0), (.int .i64 0)]),
 ox (.store 3 (.tmp 11) (.tmp 25))] false [2, 4, 8, 9, 11]) q94_13)
def q94_15 : ACode :=
 (.seq (.region [
 ob 16 (.loadA 3 (.tmp 4)),
 ob 17 (.mv (.tmp 1)),
 ob 18 (.call 56 [(.tmp 16), (.tmp 17)]),
 ob 15 (.mv (.tmp 18)),
 ob 19 (.extract (.tmp 15) 0),
 ob 20 (.extract (.tmp 15) 1),
 ob 9 (.box0 [(.int .i64 0), (.int .i64 0), (.int .i64 0), (.slice .c0 []), (.slice .c0 []), (.int .i64 0)]),
 ox (.store 6 (.tmp 9) (.tmp 19)),
 ob 10 (.mv (.tmp 20))] false [2, 3, 4, 8, 9]) q94_14)
def E94 := And.intro (exK_head q94_0.eq_1) (And.intro (exK_head q94_1.eq_1) (And.intro (exK_head q94_2.eq_1) (And.intro (exK_head q94_3.eq_1) (And.intro (exK_head q94_4.eq_1) (And.intro (exK_head lb94_0.eq_1) (And.intro (exK_head q94_5.eq_1) (And.intro (exK_head q94_6.eq_1) (And.intro (exK_head q94_7.eq_1) (And.intro (exK_head q94_8.eq_1) (And.intro (exK_head q94_9.eq_1) (And.intro (exK_head q94_10.eq_1) (And.intro (exK_head q94_11.eq_1) (And.intro (exK_head q94_12.eq_1) (And.intro (exK_head q94_13.eq_1) (And.intro (exK_head q94_14.eq_1) (exK_head q94_15.eq_1))))))))))))))))
def ann94 : Ann := { n := 72, own := [12], lv := [(0, [1, 2, 3, 4, 8]), (1, [2, 3, 4, 8, 9]), (2, [2, 4, 8, 9, 11]), (3, [2, 4, 8, 9, 11, 12]), (4, [2, 4, 8, 9, 11, 12, 13]), (5, [2, 4, 8, 9, 11, 12, 13, 14]), (6, [2, 4, 8, 9, 11, 12, 13, 14, 30]), (7, [2, 4, 8, 9, 11, 12, 13, 14]), (8, [2, 4, 8, 9, 11, 12, 13, 14, 44]), (9, [2, 4, 8, 9, 11, 12, 14]), (10, [2, 4, 8, 9, 11, 12, 13, 14]), (11, [2, 4, 8, 9, 11, 12, 13, 14]), (12, [4, 8, 9, 11, 12, 58]), (13, [4, 8, 9, 12]), (14, [4, 8, 9]), (15, [4, 8, 9]), (16, [8])], lp := [(6, [2, 4, 8, 9, 11, 12, 13, 14])] }
def fn94 : AFn := AFn.mk 4 [.cellA 8 3]
  (.seq (.region [
  ob 4 (.box (.tmp 0)),
  ob 8 (.box0 [(.slice .c0 []), (.int .i64 0), (.int .i64 0)])] false [1, 2, 3, 4, 8]) q94_15)
theorem ok94 : compFn Tryz.prog ann94 Tryz.f94 = some fn94 := by kernel_rfl
def q95_0 : ACode :=
 (.region [
 ob 6 (.mv (.cst (.bool true)))] false [2, 3, 4, 5, 6, 7])
def q95_1 : ACode :=
 (.seq (.region [
 ob 28 (.mv (.tmp 5)),
 ob 29 (.loadA 6 (.tmp 3)),
 ob 30 (.lits 6 [(.tmp 29)]),
 ob 31 (.append 6 80 (.tmp 28) (.tmp 30)),
 ob 5 (.mv (.tmp 31))] false [2, 3, 4, 5, 7]) q95_0)
def q95_2 : ACode :=
 (.region [
 ob 41 (.mv (.tmp 5)),
 ob 42 (.faddr 0 (.tmp 2)),
 ob 43 (.load1 (.tmp 42)),
 ob 44 (.mv (.tmp 7)),
 ob 45 (.iaddr 6 (.tmp 43) (.tmp 44)),
 ob 46 (.loadA 6 (.tmp 45)),
 ob 47 (.lits 6 [(.tmp 46)]),
 ob 48 (.append 6 80 (.tmp 41) (.tmp 47)),
 ob 5 (.mv (.tmp 48))] false [2, 3, 4, 5, 6, 7])
def q95_3 : ACode :=
 (.seq (.region [
 ob 32 (.faddr 0 (.tmp 2)),
 ob 33 (.load1 (.tmp 32)),
 ob 34 (.mv (.tmp 7)),
 ob 35 (.iaddr 6 (.tmp 33) (.tmp 34)),
 ob 36 (.faddr 0 (.tmp 35)),
 ob 37 (.load1 (.tmp 36)),
 ob 38 (.faddr 0 (.tmp 3)),
 ob 39 (.load1 (.tmp 38)),
 ob 40 (.bin .neq (.tmp 37) (.tmp 39))] true [2, 3, 4, 5, 6, 7, 40]) (.cond (.tmp 40) q95_2 (.skip)))
def q95_4 : ACode :=
 (.region [
 ob 13 (.mv (.tmp 7)),
 ob 14 (.bin .add (.tmp 13) (.cst (.int .i64 1))),
 ob 7 (.mv (.tmp 14))] false [2, 3, 4, 5, 6, 7])
def q95_5 : ACode :=
 (.seq (.block 1 (.seq (.seq (.region [
 ob 15 (.mv (.tmp 6)),
 ob 16 (.not (.tmp 15)),
 ob 17 (.mv (.tmp 16)),
 og 18 17 true (.faddr 0 (.tmp 2)),
 og 19 17 true (.load1 (.tmp 18)),
 og 20 17 true (.mv (.tmp 7)),
 og 21 17 true (.iaddr 6 (.tmp 19) (.tmp 20)),
 og 22 17 true (.faddr 0 (.tmp 21)),
 og 23 17 true (.load1 (.tmp 22)),
 og 24 17 true (.faddr 0 (.tmp 3)),
 og 25 17 true (.load1 (.tmp 24)),
 og 26 17 true (.bin .geq (.tmp 23) (.tmp 25)),
 ob 27 (.pick (.tmp 17) (.tmp 26) (.cst (.bool false)))] true [2, 3, 4, 5, 6, 7, 27]) (.cond (.tmp 27) q95_1 (.skip))) q95_3)) q95_4)
def lb95_0 : ACode :=
 (.seq (.seq (.region [
 ob 8 (.mv (.tmp 7)),
 ob 9 (.faddr 0 (.tmp 2)),
 ob 10 (.load1 (.tmp 9)),
 ob 11 (.lenV (.tmp 10)),
 ob 12 (.bin .lss (.tmp 8) (.tmp 11))] false [2, 3, 4, 5, 6, 7, 12]) (.cond (.tmp 12) (.skip) (.exit 0))) q95_5)
def q95_6 : ACode :=
 (.block 0 (.loop [2, 3, 4, 5, 6, 7] lb95_0))
def q95_7 : ACode :=
 (.region [
 ob 51 (.mv (.tmp 5)),
 ob 52 (.loadA 6 (.tmp 3)),
 ob 53 (.lits 6 [(.tmp 52)]),
 ob 54 (.append 6 80 (.tmp 51) (.tmp 53)),
 ob 5 (.mv (.tmp 54))] false [2, 4, 5])
def q95_8 : ACode :=
 (.seq (.region [
 ob 57 (.loadA 3 (.tmp 2)),
 ox (.store 3 (.tmp 4) (.tmp 57))] false [4]) (.ret))
def q95_9 : ACode :=
 (.seq (.region [
 ob 55 (.mv (.tmp 5)),
 ob 56 (.faddr 0 (.tmp 2)),
 ox (.store 1 (.tmp 56) (.tmp 55))] false [2, 4]) q95_8)
def q95_10 : ACode :=
 (.seq (.seq (.region [
 ob 49 (.mv (.tmp 6)),
 ob 50 (.not (.tmp 49))] false [2, 3, 4, 5, 50]) (.cond (.tmp 50) q95_7 (.skip))) q95_9)
def q95_11 : ACode :=
 (.seq (.seq (.region [
 ob 7 (.mv (.cst (.int .i64 0)))] false [2, 3, 4, 5, 6, 7]) q95_6) q95_10)
def q95_12 : ACode :=
 (.seq (.region [
 ob 6 (.mv (.cst (.bool false)))] false [2, 3, 4, 5, 6]) q95_11)
def q95_13 : ACode :=
 (.seq (.region [
 ob 5 (.own 6 (.cst (.slice .c0 [])))] false [2, 3, 4, 5]) q95_12)
def E95 := And.intro (exK_head q95_0.eq_1) (And.intro (exK_head q95_1.eq_1) (And.intro (exK_head q95_2.eq_1) (And.intro (exK_head q95_3.eq_1) (And.intro (exK_head q95_4.eq_1) (And.intro (exK_head q95_5.eq_1) (And.intro (exK_head lb95_0.eq_1) (And.intro (exK_head q95_6.eq_1) (And.intro (exK_head q95_7.eq_1) (And.intro (exK_head q95_8.eq_1) (And.intro (exK_head q95_9.eq_1) (And.intro (exK_head q95_10.eq_1) (And.intro (exK_head q95_11.eq_1) (And.intro (exK_head q95_12.eq_1) (exK_head q95_13.eq_1))))))))))))))
def ann95 : Ann := { n := 58, own := [5], lv := [(0, [2, 3, 4]), (1, [2, 3, 4, 5]), (2, [2, 3, 4, 5, 6]), (3, [2, 3, 4, 5, 6, 7]), (4, [2, 3, 4, 5, 6, 7, 12]), (5, [2, 3, 4, 5, 6, 7]), (6, [2, 3, 4, 5, 6, 7, 27]), (7, [2, 3, 4, 5, 7]), (8, [2, 3, 4, 5, 6, 7]), (9, [2, 3, 4, 5, 6, 7, 40]), (10, [2, 3, 4, 5, 6, 7]), (11, [2, 3, 4, 5, 50]), (12, [2, 4, 5]), (13, [2, 4]), (14, [4])], lp := [(4, [2, 3, 4, 5, 6, 7])] }
def fn95 : AFn := AFn.mk 2 [.cellA 4 3]
  (.seq (.region [
  ob 2 (.box (.tmp 0)),
  ob 3 (.box (.tmp 1)),
  ob 4 (.box0 [(.slice .c0 []), (.int .i64 0), (.int .i64 0)])] false [2, 3, 4]) q95_13)
theorem ok95 : compFn Tryz.prog ann95 Tryz.f95 = some fn95 := by kernel_rfl
def q96_0 : ACode :=
 (.seq (.region [
 ob 19 (.mv (.tmp 9)),
 ob 6 (.mv (.cst (.int .i64 0))),
 ob 7 (.mv (.tmp 19))] false [6, 7]) (.ret))
def q96_1 : ACode :=
 (.seq (.region [
 ob 6 (.mv (.cst (.int .i64 0))),
 ob 7 (.mv (.cst (.int .i64 60)))] false [6, 7]) (.ret))
def q96_2 : ACode :=
 (.seq (.region [
 ob 6 (.mv (.cst (.int .i64 0))),
 ob 7 (.mv (.cst (.int .i64 70)))] false [6, 7]) (.ret))
def q96_3 : ACode :=
 (.seq (.region [
 ob 28 (.faddr 4 (.tmp 8)),
 ob 29 (.load1 (.tmp 28)),
 ob 30 (.mv (.tmp 10)),
 ob 31 (.iaddr 3 (.tmp 29) (.tmp 30)),
 ob 32 (.faddr 1 (.tmp 31)),
 ob 33 (.load1 (.tmp 32)),
 ob 6 (.mv (.tmp 33)),
 ob 7 (.mv (.cst (.int .i64 0)))] false [6, 7]) (.ret))
def q96_4 : ACode :=
 (.seq (.seq (.region [
 ob 26 (.mv (.tmp 10)),
 ob 27 (.bin .lss (.tmp 26) (.cst (.int .i64 0)))] false [8, 10, 27]) (.cond (.tmp 27) q96_2 (.skip))) q96_3)
def q96_5 : ACode :=
 (.seq (.region [
 ob 23 (.loadA 6 (.tmp 8)),
 ob 24 (.mv (.tmp 2)),
 ob 25 (.call 100 [(.tmp 23), (.tmp 24)]),
 ob 10 (.mv (.tmp 25))] false [8, 10]) q96_4)
def q96_6 : ACode :=
 (.seq (.seq (.region [
 ob 20 (.mv (.tmp 2)),
 ob 21 (.call 22 [(.tmp 20)]),
 ob 22 (.not (.tmp 21))] false [2, 8, 22]) (.cond (.tmp 22) q96_1 (.skip))) q96_5)
def q96_7 : ACode :=
 (.seq (.seq (.region [
 ob 17 (.mv (.tmp 9)),
 ob 18 (.bin .neq (.tmp 17) (.cst (.int .i64 0)))] false [2, 8, 9, 18]) (.cond (.tmp 18) q96_0 (.skip))) q96_6)
def q96_8 : ACode :=
 (.seq (.region [
 ob 12 (.loadA 3 (.tmp 3)),
 ob 13 (.mv (.tmp 1)),
 ob 14 (.call 99 [(.tmp 12), (.tmp 13)]),
 ob 11 (.mv (.tmp 14)),
 ob 15 (.extract (.tmp 11) 0),
 ob 16 (.extract (.tmp 11) 1),
 ob 8 (.box0 [(.int .i64 0), (.int .i64 0), (.int .i64 0), (.slice .c0 []), (.slice .c0 []), (.int .i64 0)]),
 ox (.store 6 (.tmp 8) (.tmp 15)),
 ob 9 (.mv (.tmp 16))] false [2, 8, 9]) q96_7)
def E96 := And.intro (exK_head q96_0.eq_1) (And.intro (exK_head q96_1.eq_1) (And.intro (exK_head q96_2.eq_1) (And.intro (exK_head q96_3.eq_1) (And.intro (exK_head q96_4.eq_1) (And.intro (exK_head q96_5.eq_1) (And.intro (exK_head q96_6.eq_1) (And.intro (exK_head q96_7.eq_1) (exK_head q96_8.eq_1))))))))
def ann96 : Ann := { n := 34, own := [], lv := [(0, [1, 2, 3]), (1, [2, 8, 9]), (2, [2, 8, 9, 18]), (3, [6, 7]), (4, [2, 8, 22]), (5, [6, 7]), (6, [8, 10]), (7, [8, 10, 27]), (8, [6, 7]), (9, [6, 7])], lp := [] }
def fn96 : AFn := AFn.mk 3 [.tmp 6, .tmp 7]
  (.seq (.region [
  ob 3 (.box (.tmp 0)),
  ob 6 (.mv (.cst (.int .i64 0))),
  ob 7 (.mv (.cst (.int .i64 0)))] false [1, 2, 3]) q96_8)
theorem ok96 : compFn Tryz.prog ann96 Tryz.f96 = some fn96 := by kernel_rfl
def q97_0 : ACode :=
 (.seq (.region [
 ob 16 (.loadA 3 (.tmp 2)),
 ob 17 (.mv (.tmp 1)),
 ob 18 (.call 105 [(.tmp 16), (.tmp 17)]),
 ox (.store 3 (.tmp 4) (.tmp 18))] false [4]) (.ret))
def q97_1 : ACode :=
 (.seq (.region [
 ob 23 (.loadA 3 (.tmp 2)),
 ob 24 (.loadA 6 (.tmp 5)),
 ob 25 (.call 95 [(.tmp 23), (.tmp 24)]),
 ox (.store 3 (.tmp 4) (.tmp 25))] false [4]) (.ret))
def q97_2 : ACode :=
 (.seq (.region [
 ob 19 (.faddr 2 (.tmp 5)),
 ob 20 (.load1 (.tmp 19)),
 ob 21 (.bin .sub (.tmp 20) (.cst (.int .i64 1))),
 ob 22 (.faddr 2 (.tmp 5)),
 ox (.store 1 (.tmp 22) (.tmp 21))] false [2, 4, 5]) q97_1)
def q97_3 : ACode :=
 (.seq (.seq (.region [
 ob 13 (.faddr 1 (.tmp 5)),
 ob 14 (.load1 (.tmp 13)),
 ob 15 (.bin .eql (.tmp 14) (.cst (.int .i64 2)))] false [1, 2, 4, 5, 15]) (.cond (.tmp 15) q97_0 (.skip))) q97_2)
def q97_4 : ACode :=
 (.seq (.region [
 ob 8 (.loadA 3 (.tmp 2)),
 ob 9 (.mv (.tmp 1)),
 ob 10 (.call 56 [(.tmp 8), (.tmp 9)]),
 ob 7 (.mv (.tmp 10)),
 ob 11 (.extract (.tmp 7) 0),
 ob 12 (.extract (.tmp 7) 1),
 ob 5 (.box0 [(.int .i64 0), (.int .i64 0), (.int .i64 0), (.slice .c0 []), (.slice .c0 []), (.int .i64 0)]),
 ox (.store 6 (.tmp 5) (.tmp 11)),
 ob 6 (.mv (.tmp 12))] false [1, 2, 4, 5]) q97_3)
def E97 := And.intro (exK_head q97_0.eq_1) (And.intro (exK_head q97_1.eq_1) (And.intro (exK_head q97_2.eq_1) (And.intro (exK_head q97_3.eq_1) (exK_head q97_4.eq_1))))
def ann97 : Ann := { n := 26, own := [], lv := [(0, [1, 2, 4]), (1, [1, 2, 4, 5]), (2, [1, 2, 4, 5, 15]), (3, [4]), (4, [2, 4, 5]), (5, [4])], lp := [] }
def fn97 : AFn := AFn.mk 2 [.cellA 4 3]
  (.seq (.region [
  ob 2 (.box (.tmp 0)),
  ob 4 (.box0 [(.slice .c0 []), (.int .i64 0), (.int .i64 0)])] false [1, 2, 4]) q97_4)
theorem ok97 : compFn Tryz.prog ann97 Tryz.f97 = some fn97 := by kernel_rfl
def q98_0 : ACode :=
 (.region [
 ob 32 (.mv (.tmp 9)),
 ob 33 (.faddr 4 (.tmp 7)),
 ob 34 (.load1 (.tmp 33)),
 ob 35 (.mv (.tmp 10)),
 ob 36 (.iaddr 3 (.tmp 34) (.tmp 35)),
 ob 37 (.loadA 3 (.tmp 36)),
 ob 38 (.lits 3 [(.tmp 37)]),
 ob 39 (.append 3 32 (.tmp 32) (.tmp 38)),
 ob 9 (.mv (.tmp 39))] false [2, 3, 6, 7, 9, 10])
def q98_1 : ACode :=
 (.region [
 ob 22 (.mv (.tmp 10)),
 ob 23 (.bin .add (.tmp 22) (.cst (.int .i64 1))),
 ob 10 (.mv (.tmp 23))] false [2, 3, 6, 7, 9, 10])
def q98_2 : ACode :=
 (.seq (.block 1 (.seq (.region [
 ob 24 (.faddr 4 (.tmp 7)),
 ob 25 (.load1 (.tmp 24)),
 ob 26 (.mv (.tmp 10)),
 ob 27 (.iaddr 3 (.tmp 25) (.tmp 26)),
 ob 28 (.faddr 0 (.tmp 27)),
 ob 29 (.load1 (.tmp 28)),
 ob 30 (.mv (.tmp 2)),
 ob 31 (.bin .neq (.tmp 29) (.tmp 30))] false [2, 3, 6, 7, 9, 10, 31]) (.cond (.tmp 31) q98_0 (.skip)))) q98_1)
def lb98_0 : ACode :=
 (.seq (.seq (.region [
 ob 17 (.mv (.tmp 10)),
 ob 18 (.faddr 4 (.tmp 7)),
 ob 19 (.load1 (.tmp 18)),
 ob 20 (.lenV (.tmp 19)),
 ob 21 (.bin .lss (.tmp 17) (.tmp 20))] false [2, 3, 6, 7, 9, 10, 21]) (.cond (.tmp 21) (.skip) (.exit 0))) q98_2)
def q98_3 : ACode :=
 (.block 0 (.loop [2, 3, 6, 7, 9, 10] lb98_0))
def q98_4 : ACode :=
 (.seq (.region [
 ob 42 (.loadA 3 (.tmp 3)),
 ob 43 (.loadA 6 (.tmp 7)),
 ob 44 (.call 95 [(.tmp 42), (.tmp 43)]),
 ox (.store 3 (.tmp 6) (.tmp 44))] false [6]) (.ret))
def q98_5 : ACode :=
 (.seq (.region [
 ob 40 (.mv (.tmp 9)),
 ob 41 (.faddr 4 (.tmp 7)),
 ox (.store 1 (.tmp 41) (.tmp 40))] false [3, 6, 7]) q98_4)
def q98_6 : ACode :=
 (.seq (.seq (.region [
 ob 10 (.mv (.cst (.int .i64 0)))] false [2, 3, 6, 7, 9, 10]) q98_3) q98_5)
def q98_7 : ACode :=
 (.seq (.region [
 ob 9 (.own 3 (.cst (.slice .c0 [])))] false [2, 3, 6, 7, 9]) q98_6)
def q98_8 : ACode :=
 (.seq (.region [
 ob 12 (.loadA 3 (.tmp 3)),
 ob 13 (.mv (.tmp 1)),
 ob 14 (.call 56 [(.tmp 12), (.tmp 13)]),
 ob 11 (.mv (.tmp 14)),
 ob 15 (.extract (.tmp 11) 0),
 ob 16 (.extract (.tmp 11) 1),
 ob 7 (.box0 [(.int .i64 0), (.int .i64 0), (.int .i64 0), (.slice .c0 []), (.slice .c0 []), (.int .i64 0)]),
 ox (.store 6 (.tmp 7) (.tmp 15)),
 ob 8 (.mv (.tmp 16))] false [2, 3, 6, 7]) q98_7)
def E98 := And.intro (exK_head q98_0.eq_1) (And.intro (exK_head q98_1.eq_1) (And.intro (exK_head q98_2.eq_1) (And.intro (exK_head lb98_0.eq_1) (And.intro (exK_head q98_3.eq_1) (And.intro (exK_head q98_4.eq_1) (And.intro (exK_head q98_5.eq_1) (And.intro (exK_head q98_6.eq_1) (And.intro (exK_head q98_7.eq_1) (exK_head q98_8.eq_1)))))))))
def ann98 : Ann := { n := 45, own := [9], lv := [(0, [1, 2, 3, 6]), (1, [2, 3, 6, 7]), (2, [2, 3, 6, 7, 9]), (3, [2, 3, 6, 7, 9, 10]), (4, [2, 3, 6, 7, 9, 10, 21]), (5, [2, 3, 6, 7, 9, 10]), (6, [2, 3, 6, 7, 9, 10, 31]), (7, [2, 3, 6, 7, 9, 10]), (8, [3, 6, 7]), (9, [6])], lp := [(4, [2, 3, 6, 7, 9, 10])] }
def fn98 : AFn := AFn.mk 3 [.cellA 6 3]
  (.seq (.region [
  ob 3 (.box (.tmp 0)),
  ob 6 (.box0 [(.slice .c0 []), (.int .i64 0), (.int .i64 0)])] false [1, 2, 3, 6]) q98_8)
theorem ok98 : compFn Tryz.prog ann98 Tryz.f98 = some fn98 := by kernel_rfl
def q99_0 : ACode :=
 (.seq (.region [
 ob 16 (.build [(.int .i64 0), (.int .i64 0), (.int .i64 0), (.slice .c0 []), (.slice .c0 []), (.int .i64 0)] []),
 ox (.store 6 (.tmp 4) (.tmp 16)),
 ob 5 (.mv (.cst (.int .i64 70)))] false [4, 5]) (.ret))
def q99_1 : ACode :=
 (.seq (.region [
 ob 20 (.build [(.int .i64 0), (.int .i64 0), (.int .i64 0), (.slice .c0 []), (.slice .c0 []), (.int .i64 0)] []),
 ox (.store 6 (.tmp 4) (.tmp 20)),
 ob 5 (.mv (.cst (.int .i64 73)))] false [4, 5]) (.ret))
def q99_2 : ACode :=
 (.seq (.region [
 ob 21 (.loadA 6 (.tmp 6)),
 ox (.store 6 (.tmp 4) (.tmp 21)),
 ob 5 (.mv (.cst (.int .i64 0)))] false [4, 5]) (.ret))
def q99_3 : ACode :=
 (.seq (.seq (.region [
 ob 17 (.faddr 1 (.tmp 6)),
 ob 18 (.load1 (.tmp 17)),
 ob 19 (.bin .neq (.tmp 18) (.cst (.int .i64 2)))] false [4, 6, 19]) (.cond (.tmp 19) q99_1 (.skip))) q99_2)
def q99_4 : ACode :=
 (.seq (.seq (.region [
 ob 14 (.mv (.tmp 7)),
 ob 15 (.not (.tmp 14))] false [4, 6, 15]) (.cond (.tmp 15) q99_0 (.skip))) q99_3)
def q99_5 : ACode :=
 (.seq (.region [
 ob 9 (.loadA 3 (.tmp 2)),
 ob 10 (.mv (.tmp 1)),
 ob 11 (.call 56 [(.tmp 9), (.tmp 10)]),
 ob 8 (.mv (.tmp 11)),
 ob 12 (.extract (.tmp 8) 0),
 ob 13 (.extract (.tmp 8) 1),
 ob 6 (.box0 [(.int .i64 0), (.int .i64 0), (.int .i64 0), (.slice .c0 []), (.slice .c0 []), (.int .i64 0)]),
 ox (.store 6 (.tmp 6) (.tmp 12)),
 ob 7 (.mv (.tmp 13))] false [4, 6, 7]) q99_4)
def E99 := And.intro (exK_head q99_0.eq_1) (And.intro (exK_head q99_1.eq_1) (And.intro (exK_head q99_2.eq_1) (And.intro (exK_head q99_3.eq_1) (And.intro (exK_head q99_4.eq_1) (exK_head q99_5.eq_1)))))
def ann99 : Ann := { n := 22, own := [], lv := [(0, [1, 2, 4]), (1, [4, 6, 7]), (2, [4, 6, 15]), (3, [4, 5]), (4, [4, 6, 19]), (5, [4, 5]), (6, [4, 5])], lp := [] }
def fn99 : AFn := AFn.mk 2 [.cellA 4 6, .tmp 5]
  (.seq (.region [
  ob 2 (.box (.tmp 0)),
  ob 4 (.box0 [(.int .i64 0), (.int .i64 0), (.int .i64 0), (.slice .c0 []), (.slice .c0 []), (.int .i64 0)]),
  ob 5 (.mv (.cst (.int .i64 0)))] false [1, 2, 4]) q99_5)
theorem ok99 : compFn Tryz.prog ann99 Tryz.f99 = some fn99 := by kernel_rfl
def q100_0 : ACode :=
 (.seq (.region [
 ob 21 (.mv (.tmp 5)),
 ob 4 (.mv (.tmp 21))] false [4]) (.ret))
def q100_1 : ACode :=
 (.region [
 ob 11 (.mv (.tmp 5)),
 ob 12 (.bin .add (.tmp 11) (.cst (.int .i64 1))),
 ob 5 (.mv (.tmp 12))] false [1, 2, 5])
def q100_2 : ACode :=
 (.seq (.block 1 (.seq (.region [
 ob 13 (.faddr 4 (.tmp 2)),
 ob 14 (.load1 (.tmp 13)),
 ob 15 (.mv (.tmp 5)),
 ob 16 (.iaddr 3 (.tmp 14) (.tmp 15)),
 ob 17 (.faddr 0 (.tmp 16)),
 ob 18 (.load1 (.tmp 17)),
 ob 19 (.mv (.tmp 1)),
 ob 20 (.bin .eql (.tmp 18) (.tmp 19))] false [1, 2, 5, 20]) (.cond (.tmp 20) q100_0 (.skip)))) q100_1)
def lb100_0 : ACode :=
 (.seq (.seq (.region [
 ob 6 (.mv (.tmp 5)),
 ob 7 (.faddr 4 (.tmp 2)),
 ob 8 (.load1 (.tmp 7)),
 ob 9 (.lenV (.tmp 8)),
 ob 10 (.bin .lss (.tmp 6) (.tmp 9))] false [1, 2, 5, 10]) (.cond (.tmp 10) (.skip) (.exit 0))) q100_2)
def q100_3 : ACode :=
 (.seq (.region [
 ob 4 (.mv (.cst (.int .i64 (-1))))] false [4]) (.ret))
def q100_4 : ACode :=
 (.seq (.seq (.region [
 ob 5 (.mv (.cst (.int .i64 0)))] false [1, 2, 5]) (.block 0 (.loop [1, 2, 5] lb100_0))) q100_3)
def E100 := And.intro (exK_head q100_0.eq_1) (And.intro (exK_head q100_1.eq_1) (And.intro (exK_head q100_2.eq_1) (And.intro (exK_head lb100_0.eq_1) (And.intro (exK_head q100_3.eq_1) (exK_head q100_4.eq_1)))))
def ann100 : Ann := { n := 22, own := [], lv := [(0, [1, 2]), (1, [1, 2, 5]), (2, [1, 2, 5, 10]), (3, [1, 2, 5]), (4, [1, 2, 5, 20]), (5, [4]), (6, [4])], lp := [(2, [1, 2, 5])] }
def fn100 : AFn := AFn.mk 2 [.tmp 4]
  (.seq (.region [
  ob 2 (.box (.tmp 0)),
  ob 4 (.mv (.cst (.int .i64 0)))] false [1, 2]) q100_4)
theorem ok100 : compFn Tryz.prog ann100 Tryz.f100 = some fn100 := by kernel_rfl
def q101_0 : ACode :=
 (.seq (.region [
 ob 6 (.mv (.cst (.bool true)))] false [6]) (.ret))
def q101_1 : ACode :=
 (.seq (.region [
 ob 6 (.mv (.cst (.bool false)))] false [6]) (.ret))
def q101_2 : ACode :=
 (.region [
 ob 28 (.faddr 5 (.tmp 8)),
 ob 29 (.load1 (.tmp 28)),
 ob 1 (.mv (.tmp 29))] false [1, 2, 3, 7])
def q101_3 : ACode :=
 (.seq (.region [
 ob 23 (.loadA 3 (.tmp 3)),
 ob 24 (.mv (.tmp 1)),
 ob 25 (.call 56 [(.tmp 23), (.tmp 24)]),
 ob 22 (.mv (.tmp 25)),
 ob 26 (.extract (.tmp 22) 0),
 ob 27 (.extract (.tmp 22) 1),
 ob 8 (.box0 [(.int .i64 0), (.int .i64 0), (.int .i64 0), (.slice .c0 []), (.slice .c0 []), (.int .i64 0)]),
 ox (.store 6 (.tmp 8) (.tmp 26)),
 ob 9 (.mv (.tmp 27))] false [2, 3, 7, 8]) q101_2)
def q101_4 : ACode :=
 (.seq (.seq (.region [
 ob 20 (.mv (.tmp 1)),
 ob 21 (.bin .eql (.tmp 20) (.cst (.int .i64 1)))] false [1, 2, 3, 7, 21]) (.cond (.tmp 21) q101_1 (.skip))) q101_3)
def q101_5 : ACode :=
 (.region [
 ob 15 (.mv (.tmp 7)),
 ob 16 (.bin .add (.tmp 15) (.cst (.int .i64 1))),
 ob 7 (.mv (.tmp 16))] false [1, 2, 3, 7])
def q101_6 : ACode :=
 (.seq (.block 1 (.seq (.seq (.region [
 ob 17 (.mv (.tmp 1)),
 ob 18 (.mv (.tmp 2)),
 ob 19 (.bin .eql (.tmp 17) (.tmp 18))] false [1, 2, 3, 7, 19]) (.cond (.tmp 19) q101_0 (.skip))) q101_4)) q101_5)
def lb101_0 : ACode :=
 (.seq (.seq (.region [
 ob 10 (.mv (.tmp 7)),
 ob 11 (.faddr 0 (.tmp 3)),
 ob 12 (.load1 (.tmp 11)),
 ob 13 (.lenV (.tmp 12)),
 ob 14 (.bin .leq (.tmp 10) (.tmp 13))] false [1, 2, 3, 7, 14]) (.cond (.tmp 14) (.skip) (.exit 0))) q101_6)
def q101_7 : ACode :=
 (.seq (.region [
 ob 6 (.mv (.cst (.bool false)))] false [6]) (.ret))
def q101_8 : ACode :=
 (.seq (.seq (.region [
 ob 7 (.mv (.cst (.int .i64 0)))] false [1, 2, 3, 7]) (.block 0 (.loop [1, 2, 3, 7] lb101_0))) q101_7)
def E101 := And.intro (exK_head q101_0.eq_1) (And.intro (exK_head q101_1.eq_1) (And.intro (exK_head q101_2.eq_1) (And.intro (exK_head q101_3.eq_1) (And.intro (exK_head q101_4.eq_1) (And.intro (exK_head q101_5.eq_1) (And.intro (exK_head q101_6.eq_1) (And.intro (exK_head lb101_0.eq_1) (And.intro (exK_head q101_7.eq_1) (exK_head q101_8.eq_1)))))))))
def ann101 : Ann := { n := 30, own := [], lv := [(0, [1, 2, 3]), (1, [1, 2, 3, 7]), (2, [1, 2, 3, 7, 14]), (3, [1, 2, 3, 7]), (4, [1, 2, 3, 7, 19]), (5, [6]), (6, [1, 2, 3, 7, 21]), (7, [6]), (8, [2, 3, 7, 8]), (9, [1, 2, 3, 7]), (10, [6])], lp := [(2, [1, 2, 3, 7])] }
def fn101 : AFn := AFn.mk 3 [.tmp 6]
  (.seq (.region [
  ob 3 (.box (.tmp 0)),
  ob 6 (.mv (.cst (.bool false)))] false [1, 2, 3]) q101_8)
theorem ok101 : compFn Tryz.prog ann101 Tryz.f101 = some fn101 := by kernel_rfl
def q102_0 : ACode :=
 (.seq (.region [
 ob 6 (.mv (.cst (.int .i64 0)))] false [6]) (.ret))
def q102_1 : ACode :=
 (.seq (.region [
 ob 6 (.mv (.cst (.int .i64 73)))] false [6]) (.ret))
def q102_2 : ACode :=
 (.seq (.region [
 ob 6 (.mv (.cst (.int .i64 72)))] false [6]) (.ret))
def q102_3 : ACode :=
 (.seq (.region [
 ob 6 (.mv (.cst (.int .i64 74)))] false [6]) (.ret))
def q102_4 : ACode :=
 (.seq (.region [
 ob 6 (.mv (.cst (.int .i64 0)))] false [6]) (.ret))
def q102_5 : ACode :=
 (.seq (.seq (.region [
 ob 33 (.faddr 4 (.tmp 7)),
 ob 34 (.load1 (.tmp 33)),
 ob 35 (.lenV (.tmp 34)),
 ob 36 (.bin .gtr (.tmp 35) (.cst (.int .i64 0)))] false [36]) (.cond (.tmp 36) q102_3 (.skip))) q102_4)
def q102_6 : ACode :=
 (.seq (.seq (.region [
 ob 25 (.faddr 1 (.tmp 4)),
 ob 26 (.load1 (.tmp 25)),
 ob 27 (.bin .neq (.tmp 26) (.cst (.int .i64 2))),
 ob 28 (.mv (.tmp 27)),
 og 29 28 true (.faddr 1 (.tmp 7)),
 og 30 28 true (.load1 (.tmp 29)),
 og 31 28 true (.bin .eql (.tmp 30) (.cst (.int .i64 2))),
 ob 32 (.pick (.tmp 28) (.tmp 31) (.cst (.bool false)))] false [7, 32]) (.cond (.tmp 32) q102_2 (.skip))) q102_5)
def q102_7 : ACode :=
 (.seq (.seq (.region [
 ob 17 (.faddr 1 (.tmp 4)),
 ob 18 (.load1 (.tmp 17)),
 ob 19 (.bin .eql (.tmp 18) (.cst (.int .i64 2))),
 ob 20 (.mv (.tmp 19)),
 og 21 20 true (.faddr 1 (.tmp 7)),
 og 22 20 true (.load1 (.tmp 21)),
 og 23 20 true (.bin .neq (.tmp 22) (.cst (.int .i64 2))),
 ob 24 (.pick (.tmp 20) (.tmp 23) (.cst (.bool false)))] false [4, 7, 24]) (.cond (.tmp 24) q102_1 (.skip))) q102_6)
def q102_8 : ACode :=
 (.seq (.seq (.region [
 ob 15 (.mv (.tmp 8)),
 ob 16 (.not (.tmp 15))] false [4, 7, 16]) (.cond (.tmp 16) q102_0 (.skip))) q102_7)
def q102_9 : ACode :=
 (.seq (.region [
 ob 10 (.loadA 3 (.tmp 3)),
 ob 11 (.mv (.tmp 2)),
 ob 12 (.call 56 [(.tmp 10), (.tmp 11)]),
 ob 9 (.mv (.tmp 12)),
 ob 13 (.extract (.tmp 9) 0),
 ob 14 (.extract (.tmp 9) 1),
 ob 7 (.box0 [(.int .i64 0), (.int .i64 0), (.int .i64 0), (.slice .c0 []), (.slice .c0 []), (.int .i64 0)]),
 ox (.store 6 (.tmp 7) (.tmp 13)),
 ob 8 (.mv (.tmp 14))] false [4, 7, 8]) q102_8)
def E102 := And.intro (exK_head q102_0.eq_1) (And.intro (exK_head q102_1.eq_1) (And.intro (exK_head q102_2.eq_1) (And.intro (exK_head q102_3.eq_1) (And.intro (exK_head q102_4.eq_1) (And.intro (exK_head q102_5.eq_1) (And.intro (exK_head q102_6.eq_1) (And.intro (exK_head q102_7.eq_1) (And.intro (exK_head q102_8.eq_1) (exK_head q102_9.eq_1)))))))))
def ann102 : Ann := { n := 37, own := [], lv := [(0, [2, 3, 4]), (1, [4, 7, 8]), (2, [4, 7, 16]), (3, [6]), (4, [4, 7, 24]), (5, [6]), (6, [7, 32]), (7, [6]), (8, [36]), (9, [6]), (10, [6])], lp := [] }
def fn102 : AFn := AFn.mk 3 [.tmp 6]
  (.seq (.region [
  ob 3 (.box (.tmp 0)),
  ob 4 (.box (.tmp 1)),
  ob 6 (.mv (.cst (.int .i64 0)))] false [2, 3, 4]) q102_9)
theorem ok102 : compFn Tryz.prog ann102 Tryz.f102 = some fn102 := by kernel_rfl
def q103_0 : ACode :=
 (.region [
 ob 22 (.mv (.tmp 5)),
 ob 23 (.bin .add (.tmp 22) (.cst (.int .i64 1))),
 ob 5 (.mv (.tmp 23))] false [1, 2, 5])
def q103_1 : ACode :=
 (.seq (.region [
 ob 20 (.faddr 5 (.tmp 6)),
 ob 21 (.load1 (.tmp 20)),
 ob 1 (.mv (.tmp 21))] false [1, 2, 5]) q103_0)
def q103_2 : ACode :=
 (.block 1 (.seq (.region [
 ob 15 (.loadA 3 (.tmp 2)),
 ob 16 (.mv (.tmp 1)),
 ob 17 (.call 56 [(.tmp 15), (.tmp 16)]),
 ob 14 (.mv (.tmp 17)),
 ob 18 (.extract (.tmp 14) 0),
 ob 19 (.extract (.tmp 14) 1),
 ob 6 (.box0 [(.int .i64 0), (.int .i64 0), (.int .i64 0), (.slice .c0 []), (.slice .c0 []), (.int .i64 0)]),
 ox (.store 6 (.tmp 6) (.tmp 18)),
 ob 7 (.mv (.tmp 19))] false [2, 5, 6]) q103_1))
def lb103_0 : ACode :=
 (.seq (.seq (.region [
 ob 8 (.mv (.tmp 1)),
 ob 9 (.bin .neq (.tmp 8) (.cst (.int .i64 1))),
 ob 10 (.mv (.tmp 9)),
 og 11 10 true (.mv (.tmp 5)),
 og 12 10 true (.bin .leq (.tmp 11) (.cst (.int .i64 200))),
 ob 13 (.pick (.tmp 10) (.tmp 12) (.cst (.bool false)))] false [1, 2, 5, 13]) (.cond (.tmp 13) (.skip) (.exit 0))) q103_2)
def q103_3 : ACode :=
 (.seq (.region [
 ob 24 (.mv (.tmp 5)),
 ob 4 (.mv (.tmp 24))] false [4]) (.ret))
def q103_4 : ACode :=
 (.seq (.block 0 (.loop [1, 2, 5] lb103_0)) q103_3)
def q103_5 : ACode :=
 (.seq (.region [
 ob 5 (.mv (.cst (.int .i64 0)))] false [1, 2, 5]) q103_4)
def E103 := And.intro (exK_head q103_0.eq_1) (And.intro (exK_head q103_1.eq_1) (And.intro (exK_head q103_2.eq_1) (And.intro (exK_head lb103_0.eq_1) (And.intro (exK_head q103_3.eq_1) (And.intro (exK_head q103_4.eq_1) (exK_head q103_5.eq_1))))))
def ann103 : Ann := { n := 25, own := [], lv := [(0, [1, 2]), (1, [1, 2, 5]), (2, [1, 2, 5, 13]), (3, [2, 5, 6]), (4, [1, 2, 5]), (5, [1, 2, 5]), (6, [4])], lp := [(2, [1, 2, 5])] }
def fn103 : AFn := AFn.mk 2 [.tmp 4]
  (.seq (.region [
  ob 2 (.box (.tmp 0)),
  ob 4 (.mv (.cst (.int .i64 0)))] false [1, 2]) q103_5)
theorem ok103 : compFn Tryz.prog ann103 Tryz.f103 = some fn103 := by kernel_rfl
def q104_0 : ACode :=
 (.region [
 ob 49 (.mv (.tmp 11)),
 ob 50 (.bin .add (.tmp 49) (.cst (.int .i64 1))),
 ob 11 (.mv (.tmp 50))] false [1, 2, 3, 7, 8, 9, 11])
def q104_1 : ACode :=
 (.region [
 ob 51 (.mv (.tmp 7)),
 ob 52 (.mv (.tmp 11)),
 ob 53 (.minmax true (.tmp 51) (.tmp 52)),
 ob 7 (.mv (.tmp 53))] false [1, 2, 3, 7, 8, 9])
def q104_2 : ACode :=
 (.seq (.seq (.region [
 ob 45 (.faddr 4 (.tmp 10)),
 ob 46 (.load1 (.tmp 45)),
 ob 47 (.lenV (.tmp 46)),
 ob 48 (.bin .gtr (.tmp 47) (.cst (.int .i64 0)))] false [1, 2, 3, 7, 8, 9, 11, 48]) (.cond (.tmp 48) q104_0 (.skip))) q104_1)
def q104_3 : ACode :=
 (.seq (.region [
 ob 37 (.mv (.tmp 2)),
 ob 38 (.loadA 3 (.tmp 3)),
 ob 39 (.faddr 0 (.tmp 10)),
 ob 40 (.load1 (.tmp 39)),
 ob 41 (.call 103 [(.tmp 38), (.tmp 40)]),
 ob 42 (.bin .add (.tmp 37) (.tmp 41)),
 ob 43 (.mv (.tmp 8)),
 ob 44 (.bin .sub (.tmp 42) (.tmp 43)),
 ob 11 (.mv (.tmp 44))] false [1, 2, 3, 7, 8, 9, 10, 11]) q104_2)
def q104_4 : ACode :=
 (.seq (.region [
 ob 27 (.faddr 1 (.tmp 10)),
 ob 28 (.load1 (.tmp 27)),
 ob 29 (.bin .eql (.tmp 28) (.cst (.int .i64 2))),
 ob 30 (.mv (.tmp 29)),
 og 31 30 true (.loadA 3 (.tmp 3)),
 og 32 30 true (.faddr 0 (.tmp 10)),
 og 33 30 true (.load1 (.tmp 32)),
 og 34 30 true (.mv (.tmp 1)),
 og 35 30 true (.call 101 [(.tmp 31), (.tmp 33), (.tmp 34)]),
 ob 36 (.pick (.tmp 30) (.tmp 35) (.cst (.bool false)))] false [1, 2, 3, 7, 8, 9, 10, 36]) (.cond (.tmp 36) q104_3 (.skip)))
def q104_5 : ACode :=
 (.region [
 ob 20 (.mv (.tmp 9)),
 ob 21 (.bin .add (.tmp 20) (.cst (.int .i64 1))),
 ob 9 (.mv (.tmp 21))] false [1, 2, 3, 7, 8, 9])
def q104_6 : ACode :=
 (.seq (.block 1 (.seq (.region [
 ob 22 (.faddr 0 (.tmp 3)),
 ob 23 (.load1 (.tmp 22)),
 ob 24 (.mv (.tmp 9)),
 ob 25 (.iaddr 6 (.tmp 23) (.tmp 24)),
 ob 26 (.loadA 6 (.tmp 25)),
 ob 10 (.box0 [(.int .i64 0), (.int .i64 0), (.int .i64 0), (.slice .c0 []), (.slice .c0 []), (.int .i64 0)]),
 ox (.store 6 (.tmp 10) (.tmp 26))] false [1, 2, 3, 7, 8, 9, 10]) q104_4)) q104_5)
def lb104_0 : ACode :=
 (.seq (.seq (.region [
 ob 15 (.mv (.tmp 9)),
 ob 16 (.faddr 0 (.tmp 3)),
 ob 17 (.load1 (.tmp 16)),
 ob 18 (.lenV (.tmp 17)),
 ob 19 (.bin .lss (.tmp 15) (.tmp 18))] false [1, 2, 3, 7, 8, 9, 19]) (.cond (.tmp 19) (.skip) (.exit 0))) q104_6)
def q104_7 : ACode :=
 (.block 0 (.loop [1, 2, 3, 7, 8, 9] lb104_0))
def q104_8 : ACode :=
 (.seq (.region [
 ob 54 (.mv (.tmp 7)),
 ob 6 (.mv (.tmp 54))] false [6]) (.ret))
def q104_9 : ACode :=
 (.seq (.seq (.region [
 ob 9 (.mv (.cst (.int .i64 0)))] false [1, 2, 3, 7, 8, 9]) q104_7) q104_8)
def q104_10 : ACode :=
 (.seq (.region [
 ob 12 (.loadA 3 (.tmp 3)),
 ob 13 (.mv (.tmp 1)),
 ob 14 (.call 103 [(.tmp 12), (.tmp 13)]),
 ob 8 (.mv (.tmp 14))] false [1, 2, 3, 7, 8]) q104_9)
def q104_11 : ACode :=
 (.seq (.region [
 ob 7 (.mv (.cst (.int .i64 0)))] false [1, 2, 3, 7]) q104_10)
def E104 := And.intro (exK_head q104_0.eq_1) (And.intro (exK_head q104_1.eq_1) (And.intro (exK_head q104_2.eq_1) (And.intro (exK_head q104_3.eq_1) (And.intro (exK_head q104_4.eq_1) (And.intro (exK_head q104_5.eq_1) (And.intro (exK_head q104_6.eq_1) (And.intro (exK_head lb104_0.eq_1) (And.intro (exK_head q104_7.eq_1) (And.intro (exK_head q104_8.eq_1) (And.intro (exK_head q104_9.eq_1) (And.intro (exK_head q104_10.eq_1) (exK_head q104_11.eq_1))))))))))))
def ann104 : Ann := { n := 55, own := [], lv := [(0, [1, 2, 3]), (1, [1, 2, 3, 7]), (2, [1, 2, 3, 7, 8]), (3, [1, 2, 3, 7, 8, 9]), (4, [1, 2, 3, 7, 8, 9, 19]), (5, [1, 2, 3, 7, 8, 9]), (6, [1, 2, 3, 7, 8, 9, 10]), (7, [1, 2, 3, 7, 8, 9, 10, 36]), (8, [1, 2, 3, 7, 8, 9, 10, 11]), (9, [1, 2, 3, 7, 8, 9, 11, 48]), (10, [1, 2, 3, 7, 8, 9, 11]), (11, [1, 2, 3, 7, 8, 9]), (12, [6])], lp := [(4, [1, 2, 3, 7, 8, 9])] }
def fn104 : AFn := AFn.mk 3 [.tmp 6]
  (.seq (.region [
  ob 3 (.box (.tmp 0)),
  ob 6 (.mv (.cst (.int .i64 0)))] false [1, 2, 3]) q104_11)
theorem ok104 : compFn Tryz.prog ann104 Tryz.f104 = some fn104 := by kernel_rfl
def q105_0 : ACode :=
 (.region [
 ob 22 (.mv (.tmp 5)),
 ob 23 (.faddr 0 (.tmp 2)),
 ob 24 (.load1 (.tmp 23)),
 ob 25 (.mv (.tmp 6)),
 ob 26 (.iaddr 6 (.tmp 24) (.tmp 25)),
 ob 27 (.loadA 6 (.tmp 26)),
 ob 28 (.lits 6 [(.tmp 27)]),
 ob 29 (.append 6 80 (.tmp 22) (.tmp 28)),
 ob 5 (.mv (.tmp 29))] false [1, 2, 4, 5, 6])
def q105_1 : ACode :=
 (.region [
 ob 12 (.mv (.tmp 6)),
 ob 13 (.bin .add (.tmp 12) (.cst (.int .i64 1))),
 ob 6 (.mv (.tmp 13))] false [1, 2, 4, 5, 6])
def q105_2 : ACode :=
 (.seq (.block 1 (.seq (.region [
 ob 14 (.faddr 0 (.tmp 2)),
 ob 15 (.load1 (.tmp 14)),
 ob 16 (.mv (.tmp 6)),
 ob 17 (.iaddr 6 (.tmp 15) (.tmp 16)),
 ob 18 (.faddr 0 (.tmp 17)),
 ob 19 (.load1 (.tmp 18)),
 ob 20 (.mv (.tmp 1)),
 ob 21 (.bin .neq (.tmp 19) (.tmp 20))] false [1, 2, 4, 5, 6, 21]) (.cond (.tmp 21) q105_0 (.skip)))) q105_1)
def lb105_0 : ACode :=
 (.seq (.seq (.region [
 ob 7 (.mv (.tmp 6)),
 ob 8 (.faddr 0 (.tmp 2)),
 ob 9 (.load1 (.tmp 8)),
 ob 10 (.lenV (.tmp 9)),
 ob 11 (.bin .lss (.tmp 7) (.tmp 10))] false [1, 2, 4, 5, 6, 11]) (.cond (.tmp 11) (.skip) (.exit 0))) q105_2)
def q105_3 : ACode :=
 (.block 0 (.loop [1, 2, 4, 5, 6] lb105_0))
def q105_4 : ACode :=
 (.seq (.region [
 ob 32 (.loadA 3 (.tmp 2)),
 ox (.store 3 (.tmp 4) (.tmp 32))] false [4]) (.ret))
def q105_5 : ACode :=
 (.seq (.region [
 ob 30 (.mv (.tmp 5)),
 ob 31 (.faddr 0 (.tmp 2)),
 ox (.store 1 (.tmp 31) (.tmp 30))] false [2, 4]) q105_4)
def q105_6 : ACode :=
 (.seq (.seq (.region [
 ob 6 (.mv (.cst (.int .i64 0)))] false [1, 2, 4, 5, 6]) q105_3) q105_5)
def q105_7 : ACode :=
 (.seq (.region [
 ob 5 (.own 6 (.cst (.slice .c0 [])))] false [1, 2, 4, 5]) q105_6)
def E105 := And.intro (exK_head q105_0.eq_1) (And.intro (exK_head q105_1.eq_1) (And.intro (exK_head q105_2.eq_1) (And.intro (exK_head lb105_0.eq_1) (And.intro (exK_head q105_3.eq_1) (And.intro (exK_head q105_4.eq_1) (And.intro (exK_head q105_5.eq_1) (And.intro (exK_head q105_6.eq_1) (exK_head q105_7.eq_1))))))))
def ann105 : Ann := { n := 33, own := [5], lv := [(0, [1, 2, 4]), (1, [1, 2, 4, 5]), (2, [1, 2, 4, 5, 6]), (3, [1, 2, 4, 5, 6, 11]), (4, [1, 2, 4, 5, 6]), (5, [1, 2, 4, 5, 6, 21]), (6, [1, 2, 4, 5, 6]), (7, [2, 4]), (8, [4])], lp := [(3, [1, 2, 4, 5, 6])] }
def fn105 : AFn := AFn.mk 2 [.cellA 4 3]
  (.seq (.region [
  ob 2 (.box (.tmp 0)),
  ob 4 (.box0 [(.slice .c0 []), (.int .i64 0), (.int .i64 0)])] false [1, 2, 4]) q105_7)
theorem ok105 : compFn Tryz.prog ann105 Tryz.f105 = some fn105 := by kernel_rfl
def q106_0 : ACode :=
 (.seq (.region [
 ob 3 (.fn 129 [(.tmp 1)]),
 ob 2 (.mv (.tmp 3))] false [2]) (.ret))
def E106 := exK_head q106_0.eq_1
def ann106 : Ann := { n := 4, own := [], lv := [(0, [1]), (1, [2])], lp := [] }
def fn106 : AFn := AFn.mk 1 [.tmp 2]
  (.seq (.region [
  ob 1 (.box (.tmp 0)),
  ob 2 (.mv (.cst (.raw .nilFunc)))] false [1]) q106_0)
theorem ok106 : compFn Tryz.prog ann106 Tryz.f106 = some fn106 := by kernel_rfl
def q108_0 : ACode :=
 (.seq (.region [
 ob 4 (.mv (.cst (.bool false)))] false [4]) (.ret))
def q108_1 : ACode :=
 (.seq (.region [
 ob 26 (.mv (.tmp 9)),
 ob 27 (.not (.tmp 26)),
 ob 28 (.mv (.tmp 27)),
 og 29 28 false (.faddr 0 (.tmp 7)),
 og 30 28 false (.load1 (.tmp 29)),
 og 31 28 false (.call 41 [(.tmp 30)]),
 og 32 28 false (.not (.tmp 31)),
 ob 33 (.pick (.tmp 28) (.cst (.bool true)) (.tmp 32)),
 ob 34 (.mv (.tmp 33)),
 og 35 34 false (.faddr 2 (.tmp 7)),
 og 36 34 false (.load1 (.tmp 35)),
 og 37 34 false (.bin .lss (.tmp 36) (.cst (.int .i64 1))),
 ob 38 (.pick (.tmp 34) (.cst (.bool true)) (.tmp 37)),
 ob 39 (.mv (.tmp 38)),
 og 40 39 false (.faddr 2 (.tmp 7)),
 og 41 39 false (.load1 (.tmp 40)),
 og 42 39 false (.mv (.tmp 0)),
 og 43 39 false (.chk (.tmp 42)),
 og 44 39 false (.faddr 0 (.tmp 43)),
 og 45 39 false (.faddr 2 (.tmp 44)),
 og 46 39 false (.load1 (.tmp 45)),
 og 47 39 false (.bin .geq (.tmp 41) (.tmp 46)),
 ob 48 (.pick (.tmp 39) (.cst (.bool true)) (.tmp 47)),
 ob 49 (.mv (.tmp 48)),
 og 50 49 false (.mv (.tmp 5)),
 og 51 49 false (.faddr 2 (.tmp 7)),
 og 52 49 false (.load1 (.tmp 51)),
 og 53 49 false (.look .i (.bool false) false (.tmp 50) (.tmp 52)),
 ob 54 (.pick (.tmp 49) (.cst (.bool true)) (.tmp 53)),
 ob 55 (.mv (.tmp 54)),
 og 56 55 false (.mv (.tmp 6)),
 og 57 55 false (.bin .gtr (.tmp 56) (.cst (.int .i64 0))),
 og 58 55 false (.mv (.tmp 57)),
 og 59 58 true (.faddr 4 (.tmp 3)),
 og 60 58 true (.load1 (.tmp 59)),
 og 61 58 true (.mv (.tmp 6)),
 og 62 58 true (.bin .sub (.tmp 61) (.cst (.int .i64 1))),
 og 63 58 true (.iaddr 3 (.tmp 60) (.tmp 62)),
 og 64 58 true (.faddr 0 (.tmp 63)),
 og 65 58 true (.load1 (.tmp 64)),
 og 66 58 true (.faddr 0 (.tmp 7)),
 og 67 58 true (.load1 (.tmp 66)),
 og 68 58 true (.bin .geq (.tmp 65) (.tmp 67)),
 og 69 55 false (.pick (.tmp 58) (.tmp 68) (.cst (.bool false))),
 ob 70 (.pick (.tmp 55) (.cst (.bool true)) (.tmp 69))] true [0, 3, 5, 7, 12, 13, 14, 70]) (.cond (.tmp 70) q108_0 (.skip)))
def q108_2 : ACode :=
 (.region [
 ob 71 (.mv (.tmp 5)),
 ob 72 (.faddr 2 (.tmp 7)),
 ob 73 (.load1 (.tmp 72)),
 ox (.upd .i (.tmp 71) (.tmp 73) (.cst (.bool true)))] false [0, 3, 5, 12, 13, 14])
def q108_3 : ACode :=
 (.seq (.seq (.region [
 ob 20 (.mv (.tmp 0)),
 ob 21 (.faddr 1 (.tmp 7)),
 ob 22 (.load1 (.tmp 21)),
 ob 23 (.call 79 [(.tmp 20), (.tmp 22)]),
 ob 19 (.mv (.tmp 23)),
 ob 24 (.extract (.tmp 19) 0),
 ob 25 (.extract (.tmp 19) 1),
 ob 8 (.mv (.tmp 24)),
 ob 9 (.mv (.tmp 25))] false [0, 3, 5, 6, 7, 9, 12, 13, 14]) q108_1) q108_2)
def q108_4 : ACode :=
 (.region [
 ob 74 (.bin .add (.tmp 14) (.cst (.int .i64 1))),
 ob 14 (.mv (.tmp 74))] false [0, 3, 5, 12, 13, 14])
def q108_5 : ACode :=
 (.seq (.block 1 (.seq (.region [
 ob 16 (.mv (.tmp 14)),
 ob 17 (.iaddr 3 (.tmp 12) (.tmp 14)),
 ob 18 (.loadA 3 (.tmp 17)),
 ob 7 (.box0 [(.str []), (.int .i64 0), (.int .i64 0)]),
 ob 6 (.mv (.tmp 16)),
 ox (.store 3 (.tmp 7) (.tmp 18))] false [0, 3, 5, 6, 7, 12, 13, 14]) q108_3)) q108_4)
def q108_6 : ACode :=
 (.seq (.cond (.tmp 15) (.skip) (.exit 0)) q108_5)
def lb108_0 : ACode :=
 (.seq (.region [
 ob 15 (.bin .lss (.tmp 14) (.tmp 13))] false [0, 3, 5, 12, 13, 14, 15]) q108_6)
def q108_7 : ACode :=
 (.block 0 (.loop [0, 3, 5, 12, 13, 14] lb108_0))
def q108_8 : ACode :=
 (.seq (.region [
 ob 75 (.faddr 4 (.tmp 3)),
 ob 76 (.load1 (.tmp 75)),
 ob 77 (.lenV (.tmp 76)),
 ob 78 (.bin .leq (.tmp 77) (.cst (.int .i64 64))),
 ob 4 (.mv (.tmp 78))] false [4]) (.ret))
def q108_9 : ACode :=
 (.seq (.seq (.region [
 ob 11 (.faddr 4 (.tmp 3)),
 ob 12 (.load1 (.tmp 11)),
 ob 13 (.lenV (.tmp 12)),
 ob 14 (.mv (.cst (.int .i64 0)))] false [0, 3, 5, 12, 13, 14]) q108_7) q108_8)
def q108_10 : ACode :=
 (.seq (.region [
 ob 10 (.mkMap),
 ob 5 (.mv (.tmp 10))] false [0, 3, 5]) q108_9)
def E108 := And.intro (exK_head q108_0.eq_1) (And.intro (exK_head q108_1.eq_1) (And.intro (exK_head q108_2.eq_1) (And.intro (exK_head q108_3.eq_1) (And.intro (exK_head q108_4.eq_1) (And.intro (exK_head q108_5.eq_1) (And.intro (exK_head q108_6.eq_1) (And.intro (exK_head lb108_0.eq_1) (And.intro (exK_head q108_7.eq_1) (And.intro (exK_head q108_8.eq_1) (And.intro (exK_head q108_9.eq_1) (exK_head q108_10.eq_1)))))))))))
def ann108 : Ann := { n := 79, own := [], lv := [(0, [0, 3]), (1, [0, 3, 5]), (2, [0, 3, 5, 12, 13, 14]), (3, [0, 3, 5, 12, 13, 14, 15]), (4, [0, 3, 5, 6, 7, 12, 13, 14]), (5, [0, 3, 5, 6, 7, 9, 12, 13, 14]), (6, [0, 3, 5, 7, 12, 13, 14, 70]), (7, [4]), (8, [0, 3, 5, 12, 13, 14]), (9, [0, 3, 5, 12, 13, 14]), (10, [4])], lp := [(3, [0, 3, 5, 12, 13, 14])] }
def fn108 : AFn := AFn.mk 2 [.tmp 4]
  (.seq (.region [
  ob 3 (.box (.tmp 1)),
  ob 4 (.mv (.cst (.bool false)))] false [0, 3]) q108_10)
theorem ok108 : compFn Tryz.prog ann108 Tryz.f108 = some fn108 := by kernel_rfl
def q111_0 : ACode :=
 (.region [
 ob 32 (.mv (.tmp 11)),
 ob 33 (.bin .add (.tmp 32) (.cst (.int .i64 1))),
 ob 9 (.mv (.tmp 33))] false [0, 1, 2, 8, 9, 10])
def q111_1 : ACode :=
 (.region [
 ob 34 (.mv (.tmp 11)),
 ob 10 (.mv (.tmp 34))] false [0, 1, 2, 8, 9, 10])
def q111_2 : ACode :=
 (.seq (.region [
 ob 24 (.mv (.tmp 2)),
 ob 25 (.mv (.tmp 0)),
 ob 26 (.mv (.tmp 11)),
 ob 27 (.iaddr 6 (.tmp 25) (.tmp 26)),
 ob 28 (.loadA 6 (.tmp 27)),
 ob 29 (.mv (.tmp 1)),
 ob 30 (.callV (.tmp 24) [(.tmp 28), (.tmp 29)]),
 ob 31 (.bin .lss (.tmp 30) (.cst (.int .i64 0)))] false [0, 1, 2, 8, 9, 10, 11, 31]) (.cond (.tmp 31) q111_0 q111_1))
def q111_3 : ACode :=
 (.block 1 (.seq (.region [
 ob 18 (.mv (.tmp 9)),
 ob 19 (.mv (.tmp 10)),
 ob 20 (.bin .add (.tmp 18) (.tmp 19)),
 ob 21 (.conv .u64 (.tmp 20)),
 ob 22 (.bin .shr (.tmp 21) (.cst (.int .u64 1))),
 ob 23 (.conv .i64 (.tmp 22)),
 ob 11 (.mv (.tmp 23))] false [0, 1, 2, 8, 9, 10, 11]) q111_2))
def lb111_0 : ACode :=
 (.seq (.seq (.region [
 ob 15 (.mv (.tmp 9)),
 ob 16 (.mv (.tmp 10)),
 ob 17 (.bin .lss (.tmp 15) (.tmp 16))] false [0, 1, 2, 8, 9, 10, 17]) (.cond (.tmp 17) (.skip) (.exit 0))) q111_3)
def q111_4 : ACode :=
 (.seq (.region [
 ob 35 (.mv (.tmp 9)),
 ob 36 (.mv (.tmp 9)),
 ob 37 (.mv (.tmp 8)),
 ob 38 (.bin .lss (.tmp 36) (.tmp 37)),
 ob 39 (.mv (.tmp 38)),
 og 40 39 true (.mv (.tmp 2)),
 og 41 39 true (.mv (.tmp 0)),
 og 42 39 true (.mv (.tmp 9)),
 og 43 39 true (.iaddr 6 (.tmp 41) (.tmp 42)),
 og 44 39 true (.loadA 6 (.tmp 43)),
 og 45 39 true (.mv (.tmp 1)),
 og 46 39 true (.callV (.tmp 40) [(.tmp 44), (.tmp 45)]),
 og 47 39 true (.bin .eql (.tmp 46) (.cst (.int .i64 0))),
 ob 48 (.pick (.tmp 39) (.tmp 47) (.cst (.bool false))),
 ob 6 (.mv (.tmp 35)),
 ob 7 (.mv (.tmp 48))] false [6, 7]) (.ret))
def q111_5 : ACode :=
 (.seq (.block 0 (.loop [0, 1, 2, 8, 9, 10] lb111_0)) q111_4)
def q111_6 : ACode :=
 (.seq (.region [
 ob 14 (.mv (.tmp 8)),
 ob 9 (.mv (.cst (.int .i64 0))),
 ob 10 (.mv (.tmp 14))] false [0, 1, 2, 8, 9, 10]) q111_5)
def q111_7 : ACode :=
 (.seq (.region [
 ob 12 (.mv (.tmp 0)),
 ob 13 (.lenV (.tmp 12)),
 ob 8 (.mv (.tmp 13))] false [0, 1, 2, 8]) q111_6)
def E111 := And.intro (exK_head q111_0.eq_1) (And.intro (exK_head q111_1.eq_1) (And.intro (exK_head q111_2.eq_1) (And.intro (exK_head q111_3.eq_1) (And.intro (exK_head lb111_0.eq_1) (And.intro (exK_head q111_4.eq_1) (And.intro (exK_head q111_5.eq_1) (And.intro (exK_head q111_6.eq_1) (exK_head q111_7.eq_1))))))))
def ann111 : Ann := { n := 49, own := [], lv := [(0, [0, 1, 2]), (1, [0, 1, 2, 8]), (2, [0, 1, 2, 8, 9, 10]), (3, [0, 1, 2, 8, 9, 10, 17]), (4, [0, 1, 2, 8, 9, 10, 11]), (5, [0, 1, 2, 8, 9, 10, 11, 31]), (6, [0, 1, 2, 8, 9, 10]), (7, [0, 1, 2, 8, 9, 10]), (8, [6, 7])], lp := [(3, [0, 1, 2, 8, 9, 10])] }
def fn111 : AFn := AFn.mk 3 [.tmp 6, .tmp 7]
  (.seq (.region [
  ob 6 (.mv (.cst (.int .i64 0))),
  ob 7 (.mv (.cst (.bool false)))] false [0, 1, 2]) q111_7)
theorem ok111 : compFn Tryz.prog ann111 Tryz.f111 = some fn111 := by kernel_rfl
def q112_0 : ACode :=
 (.seq (.region [
 ob 5 (.faddr 0 (.tmp 2)),
 ob 6 (.load1 (.tmp 5)),
 ob 7 (.mv (.tmp 1)),
 ob 8 (.call 62 [(.tmp 6), (.tmp 7)]),
 ob 4 (.mv (.tmp 8))] false [4]) (.ret))
def E112 := exK_head q112_0.eq_1
def ann112 : Ann := { n := 9, own := [], lv := [(0, [1, 2]), (1, [4])], lp := [] }
def fn112 : AFn := AFn.mk 2 [.tmp 4]
  (.seq (.region [
  ob 2 (.box (.tmp 0)),
  ob 4 (.mv (.cst (.int .i64 0)))] false [1, 2]) q112_0)
theorem ok112 : compFn Tryz.prog ann112 Tryz.f112 = some fn112 := by kernel_rfl
def q113_0 : ACode :=
 (.seq (.region [
 ob 17 (.mv (.tmp 5)),
 ob 4 (.mv (.tmp 17))] false [4]) (.ret))
def q113_1 : ACode :=
 (.seq (.region [
 ob 11 (.mv (.tmp 1)),
 ob 12 (.mv (.tmp 0)),
 ob 13 (.mv (.tmp 5)),
 ob 14 (.iaddr 6 (.tmp 12) (.tmp 13)),
 ob 15 (.loadA 6 (.tmp 14)),
 ob 16 (.callV (.tmp 11) [(.tmp 15)])] false [0, 1, 5, 7, 8, 16]) (.cond (.tmp 16) q113_0 (.skip)))
def q113_2 : ACode :=
 (.region [
 ob 18 (.bin .add (.tmp 8) (.cst (.int .i64 1))),
 ob 8 (.mv (.tmp 18))] false [0, 1, 7, 8])
def q113_3 : ACode :=
 (.seq (.block 1 (.seq (.region [
 ob 10 (.mv (.tmp 8)),
 ob 5 (.mv (.tmp 10))] false [0, 1, 5, 7, 8]) q113_1)) q113_2)
def q113_4 : ACode :=
 (.seq (.cond (.tmp 9) (.skip) (.exit 0)) q113_3)
def lb113_0 : ACode :=
 (.seq (.region [
 ob 9 (.bin .lss (.tmp 8) (.tmp 7))] false [0, 1, 7, 8, 9]) q113_4)
def q113_5 : ACode :=
 (.seq (.region [
 ob 4 (.mv (.cst (.int .i64 (-1))))] false [4]) (.ret))
def q113_6 : ACode :=
 (.seq (.seq (.region [
 ob 6 (.mv (.tmp 0)),
 ob 7 (.lenV (.tmp 6)),
 ob 8 (.mv (.cst (.int .i64 0)))] false [0, 1, 7, 8]) (.block 0 (.loop [0, 1, 7, 8] lb113_0))) q113_5)
def E113 := And.intro (exK_head q113_0.eq_1) (And.intro (exK_head q113_1.eq_1) (And.intro (exK_head q113_2.eq_1) (And.intro (exK_head q113_3.eq_1) (And.intro (exK_head q113_4.eq_1) (And.intro (exK_head lb113_0.eq_1) (And.intro (exK_head q113_5.eq_1) (exK_head q113_6.eq_1)))))))
def ann113 : Ann := { n := 19, own := [], lv := [(0, [0, 1]), (1, [0, 1, 7, 8]), (2, [0, 1, 7, 8, 9]), (3, [0, 1, 5, 7, 8]), (4, [0, 1, 5, 7, 8, 16]), (5, [4]), (6, [0, 1, 7, 8]), (7, [4])], lp := [(2, [0, 1, 7, 8])] }
def fn113 : AFn := AFn.mk 2 [.tmp 4]
  (.seq (.region [
  ob 4 (.mv (.cst (.int .i64 0)))] false [0, 1]) q113_6)
theorem ok113 : compFn Tryz.prog ann113 Tryz.f113 = some fn113 := by kernel_rfl
def q118_0 : ACode :=
 (.region [
 ob 35 (.mv (.tmp 9)),
 ob 36 (.bin .sub (.tmp 35) (.cst (.int .i64 1))),
 ob 9 (.mv (.tmp 36))] false [0, 1, 2, 3, 8, 9])
def q118_1 : ACode :=
 (.seq (.block 3 (.region [
 ob 37 (.mv (.tmp 0)),
 ob 38 (.mv (.tmp 9)),
 ob 39 (.mv (.tmp 0)),
 ob 40 (.mv (.tmp 9)),
 ob 41 (.bin .sub (.tmp 40) (.cst (.int .i64 1))),
 ob 42 (.mv (.tmp 0)),
 ob 43 (.mv (.tmp 9)),
 ob 44 (.bin .sub (.tmp 43) (.cst (.int .i64 1))),
 ob 45 (.iaddr 3 (.tmp 42) (.tmp 44)),
 ob 46 (.loadA 3 (.tmp 45)),
 ob 47 (.mv (.tmp 0)),
 ob 48 (.mv (.tmp 9)),
 ob 49 (.iaddr 3 (.tmp 47) (.tmp 48)),
 ob 50 (.loadA 3 (.tmp 49)),
 ob 51 (.iaddr 3 (.tmp 37) (.tmp 38)),
 ox (.store 3 (.tmp 51) (.tmp 46)),
 ob 52 (.iaddr 3 (.tmp 39) (.tmp 41)),
 ox (.store 3 (.tmp 52) (.tmp 50))] true [0, 1, 2, 3, 8, 9])) q118_0)
def lb118_0 : ACode :=
 (.seq (.seq (.region [
 ob 18 (.mv (.tmp 9)),
 ob 19 (.mv (.tmp 1)),
 ob 20 (.bin .gtr (.tmp 18) (.tmp 19)),
 ob 21 (.mv (.tmp 20)),
 og 22 21 true (.mv (.tmp 3)),
 og 23 21 true (.mv (.tmp 0)),
 og 24 21 true (.mv (.tmp 9)),
 og 25 21 true (.iaddr 3 (.tmp 23) (.tmp 24)),
 og 26 21 true (.loadA 3 (.tmp 25)),
 og 27 21 true (.mv (.tmp 0)),
 og 28 21 true (.mv (.tmp 9)),
 og 29 21 true (.bin .sub (.tmp 28) (.cst (.int .i64 1))),
 og 30 21 true (.iaddr 3 (.tmp 27) (.tmp 29)),
 og 31 21 true (.loadA 3 (.tmp 30)),
 og 32 21 true (.callV (.tmp 22) [(.tmp 26), (.tmp 31)]),
 og 33 21 true (.bin .lss (.tmp 32) (.cst (.int .i64 0))),
 ob 34 (.pick (.tmp 21) (.tmp 33) (.cst (.bool false)))] true [0, 1, 2, 3, 8, 9, 34]) (.cond (.tmp 34) (.skip) (.exit 2))) q118_1)
def q118_2 : ACode :=
 (.block 2 (.loop [0, 1, 2, 3, 8, 9] lb118_0))
def q118_3 : ACode :=
 (.region [
 ob 15 (.mv (.tmp 8)),
 ob 16 (.bin .add (.tmp 15) (.cst (.int .i64 1))),
 ob 8 (.mv (.tmp 16))] false [0, 1, 2, 3, 8])
def q118_4 : ACode :=
 (.seq (.block 1 (.seq (.region [
 ob 17 (.mv (.tmp 8)),
 ob 9 (.mv (.tmp 17))] false [0, 1, 2, 3, 8, 9]) q118_2)) q118_3)
def lb118_1 : ACode :=
 (.seq (.seq (.region [
 ob 12 (.mv (.tmp 8)),
 ob 13 (.mv (.tmp 2)),
 ob 14 (.bin .lss (.tmp 12) (.tmp 13))] false [0, 1, 2, 3, 8, 14]) (.cond (.tmp 14) (.skip) (.exit 0))) q118_4)
def q118_5 : ACode :=
 (.block 0 (.loop [0, 1, 2, 3, 8] lb118_1))
def E118 := And.intro (exK_head q118_0.eq_1) (And.intro (exK_head q118_1.eq_1) (And.intro (exK_head lb118_0.eq_1) (And.intro (exK_head q118_2.eq_1) (And.intro (exK_head q118_3.eq_1) (And.intro (exK_head q118_4.eq_1) (And.intro (exK_head lb118_1.eq_1) (exK_head q118_5.eq_1)))))))
def ann118 : Ann := { n := 53, own := [], lv := [(0, [0, 1, 2, 3, 8]), (1, [0, 1, 2, 3, 8, 14]), (2, [0, 1, 2, 3, 8]), (3, [0, 1, 2, 3, 8, 9]), (4, [0, 1, 2, 3, 8, 9, 34]), (5, [0, 1, 2, 3, 8, 9]), (6, [0, 1, 2, 3, 8, 9])], lp := [(1, [0, 1, 2, 3, 8]), (4, [0, 1, 2, 3, 8, 9])] }
def fn118 : AFn := AFn.mk 4 []
  (.seq (.region [
  ob 10 (.mv (.tmp 1)),
  ob 11 (.bin .add (.tmp 10) (.cst (.int .i64 1))),
  ob 8 (.mv (.tmp 11))] false [0, 1, 2, 3, 8]) q118_5)
theorem ok118 : compFn Tryz.prog ann118 Tryz.f118 = some fn118 := by kernel_rfl
def q126_0 : ACode :=
 (.region [
 ob 2 (.mv (.cst (.int .i64 16)))] false [0, 2])
def q126_1 : ACode :=
 (.seq (.region [
 ob 5 (.mv (.tmp 0)),
 ob 6 (.bin .shr (.tmp 5) (.cst (.int .u64 16))),
 ob 0 (.mv (.tmp 6))] false [0]) q126_0)
def q126_2 : ACode :=
 (.region [
 ob 11 (.mv (.tmp 2)),
 ob 12 (.bin .add (.tmp 11) (.cst (.int .i64 8))),
 ob 2 (.mv (.tmp 12))] false [0, 2])
def q126_3 : ACode :=
 (.seq (.region [
 ob 9 (.mv (.tmp 0)),
 ob 10 (.bin .shr (.tmp 9) (.cst (.int .u64 8))),
 ob 0 (.mv (.tmp 10))] false [0, 2]) q126_2)
def q126_4 : ACode :=
 (.seq (.region [
 ob 13 (.mv (.tmp 2)),
 ob 14 (.mv (.tmp 0)),
 ob 15 (.conv .u8 (.tmp 14)),
 ob 16 (.indexS (.cst (.str [0, 1, 2, 2, 3, 3, 3, 3, 4, 4, 4, 4, 4, 4, 4, 4, 5, 5, 5, 5, 5, 5, 5, 5, 5, 5, 5, 5, 5, 5, 5, 5, 6, 6, 6, 6, 6, 6, 6, 6, 6, 6, 6, 6, 6, 6, 6, 6, 6, 6, 6, 6, 6, 6, 6, 6, 6, 6, 6, 6, 6, 6, 6, 6, 7, 7, 7, 7, 7, 7, 7, 7, 7, 7, 7, 7, 7, 7, 7, 7, 7, 7, 7, 7, 7, 7, 7, 7, 7, 7, 7, 7, 7, 7, 7, 7, 7, 7, 7, 7, 7, 7, 7, 7, 7, 7, 7, 7, 7, 7, 7, 7, 7, 7, 7, 7, 7, 7, 7, 7, 7, 7, 7, 7, 7, 7, 7, 7, 8, 8, 8, 8, 8, 8, 8, 8, 8, 8, 8, 8, 8, 8, 8, 8, 8, 8, 8, 8, 8, 8, 8, 8, 8, 8, 8, 8, 8, 8, 8, 8, 8, 8, 8, 8, 8, 8, 8, 8, 8, 8, 8, 8, 8, 8, 8, 8, 8, 8, 8, 8, 8, 8, 8, 8, 8, 8, 8, 8, 8, 8, 8, 8, 8, 8, 8, 8, 8, 8, 8, 8, 8, 8, 8, 8, 8, 8, 8, 8, 8, 8, 8, 8, 8, 8, 8, 8, 8, 8, 8, 8, 8, 8, 8, 8, 8, 8, 8, 8, 8, 8, 8, 8, 8, 8, 8, 8, 8, 8, 8, 8, 8, 8, 8, 8, 8, 8, 8, 8, 8, 8, 8, 8, 8, 8, 8, 8])) (.tmp 15)),
 ob 17 (.conv .i64 (.tmp 16)),
 ob 18 (.bin .add (.tmp 13) (.tmp 17)),
 ob 2 (.mv (.tmp 18))] false [2]) (.ret))
def q126_5 : ACode :=
 (.seq (.seq (.region [
 ob 7 (.mv (.tmp 0)),
 ob 8 (.bin .geq (.tmp 7) (.cst (.int .u32 256)))] false [0, 2, 8]) (.cond (.tmp 8) q126_3 (.skip))) q126_4)
def q126_6 : ACode :=
 (.seq (.seq (.region [
 ob 3 (.mv (.tmp 0)),
 ob 4 (.bin .geq (.tmp 3) (.cst (.int .u32 65536)))] false [0, 2, 4]) (.cond (.tmp 4) q126_1 (.skip))) q126_5)
def E126 := And.intro (exK_head q126_0.eq_1) (And.intro (exK_head q126_1.eq_1) (And.intro (exK_head q126_2.eq_1) (And.intro (exK_head q126_3.eq_1) (And.intro (exK_head q126_4.eq_1) (And.intro (exK_head q126_5.eq_1) (exK_head q126_6.eq_1))))))
def ann126 : Ann := { n := 19, own := [], lv := [(0, [0, 2]), (1, [0, 2, 4]), (2, [0]), (3, [0, 2]), (4, [0, 2, 8]), (5, [0, 2]), (6, [0, 2]), (7, [2])], lp := [] }
def fn126 : AFn := AFn.mk 1 [.tmp 2]
  (.seq (.region [
  ob 2 (.mv (.cst (.int .i64 0)))] false [0, 2]) q126_6)
theorem ok126 : compFn Tryz.prog ann126 Tryz.f126 = some fn126 := by kernel_rfl
def q127_0 : ACode :=
 (.region [
 ob 2 (.mv (.cst (.int .i64 32)))] false [0, 2])
def q127_1 : ACode :=
 (.seq (.region [
 ob 5 (.mv (.tmp 0)),
 ob 6 (.bin .shr (.tmp 5) (.cst (.int .u64 32))),
 ob 0 (.mv (.tmp 6))] false [0]) q127_0)
def q127_2 : ACode :=
 (.region [
 ob 11 (.mv (.tmp 2)),
 ob 12 (.bin .add (.tmp 11) (.cst (.int .i64 16))),
 ob 2 (.mv (.tmp 12))] false [0, 2])
def q127_3 : ACode :=
 (.seq (.region [
 ob 9 (.mv (.tmp 0)),
 ob 10 (.bin .shr (.tmp 9) (.cst (.int .u64 16))),
 ob 0 (.mv (.tmp 10))] false [0, 2]) q127_2)
def q127_4 : ACode :=
 (.region [
 ob 17 (.mv (.tmp 2)),
 ob 18 (.bin .add (.tmp 17) (.cst (.int .i64 8))),
 ob 2 (.mv (.tmp 18))] false [0, 2])
def q127_5 : ACode :=
 (.seq (.region [
 ob 15 (.mv (.tmp 0)),
 ob 16 (.bin .shr (.tmp 15) (.cst (.int .u64 8))),
 ob 0 (.mv (.tmp 16))] false [0, 2]) q127_4)
def q127_6 : ACode :=
 (.seq (.region [
 ob 19 (.mv (.tmp 2)),
 ob 20 (.mv (.tmp 0)),
 ob 21 (.conv .u8 (.tmp 20)),
 ob 22 (.indexS (.cst (.str [0, 1, 2, 2, 3, 3, 3, 3, 4, 4, 4, 4, 4, 4, 4, 4, 5, 5, 5, 5, 5, 5, 5, 5, 5, 5, 5, 5, 5, 5, 5, 5, 6, 6, 6, 6, 6, 6, 6, 6, 6, 6, 6, 6, 6, 6, 6, 6, 6, 6, 6, 6, 6, 6, 6, 6, 6, 6, 6, 6, 6, 6, 6, 6, 7, 7, 7, 7, 7, 7, 7, 7, 7, 7, 7, 7, 7, 7, 7, 7, 7, 7, 7, 7, 7, 7, 7, 7, 7, 7, 7, 7, 7, 7, 7, 7, 7, 7, 7, 7, 7, 7, 7, 7, 7, 7, 7, 7, 7, 7, 7, 7, 7, 7, 7, 7, 7, 7, 7, 7, 7, 7, 7, 7, 7, 7, 7, 7, 8, 8, 8, 8, 8, 8, 8, 8, 8, 8, 8, 8, 8, 8, 8, 8, 8, 8, 8, 8, 8, 8, 8, 8, 8, 8, 8, 8, 8, 8, 8, 8, 8, 8, 8, 8, 8, 8, 8, 8, 8, 8, 8, 8, 8, 8, 8, 8, 8, 8, 8, 8, 8, 8, 8, 8, 8, 8, 8, 8, 8, 8, 8, 8, 8, 8, 8, 8, 8, 8, 8, 8, 8, 8, 8, 8, 8, 8, 8, 8, 8, 8, 8, 8, 8, 8, 8, 8, 8, 8, 8, 8, 8, 8, 8, 8, 8, 8, 8, 8, 8, 8, 8, 8, 8, 8, 8, 8, 8, 8, 8, 8, 8, 8, 8, 8, 8, 8, 8, 8, 8, 8, 8, 8, 8, 8, 8, 8])) (.tmp 21)),
 ob 23 (.conv .i64 (.tmp 22)),
 ob 24 (.bin .add (.tmp 19) (.tmp 23)),
 ob 2 (.mv (.tmp 24))] false [2]) (.ret))
def q127_7 : ACode :=
 (.seq (.seq (.region [
 ob 13 (.mv (.tmp 0)),
 ob 14 (.bin .geq (.tmp 13) (.cst (.int .u64 256)))] false [0, 2, 14]) (.cond (.tmp 14) q127_5 (.skip))) q127_6)
def q127_8 : ACode :=
 (.seq (.seq (.region [
 ob 7 (.mv (.tmp 0)),
 ob 8 (.bin .geq (.tmp 7) (.cst (.int .u64 65536)))] false [0, 2, 8]) (.cond (.tmp 8) q127_3 (.skip))) q127_7)
def q127_9 : ACode :=
 (.seq (.seq (.region [
 ob 3 (.mv (.tmp 0)),
 ob 4 (.bin .geq (.tmp 3) (.cst (.int .u64 4294967296)))] false [0, 2, 4]) (.cond (.tmp 4) q127_1 (.skip))) q127_8)
def E127 := And.intro (exK_head q127_0.eq_1) (And.intro (exK_head q127_1.eq_1) (And.intro (exK_head q127_2.eq_1) (And.intro (exK_head q127_3.eq_1) (And.intro (exK_head q127_4.eq_1) (And.intro (exK_head q127_5.eq_1) (And.intro (exK_head q127_6.eq_1) (And.intro (exK_head q127_7.eq_1) (And.intro (exK_head q127_8.eq_1) (exK_head q127_9.eq_1)))))))))
def ann127 : Ann := { n := 25, own := [], lv := [(0, [0, 2]), (1, [0, 2, 4]), (2, [0]), (3, [0, 2]), (4, [0, 2, 8]), (5, [0, 2]), (6, [0, 2]), (7, [0, 2, 14]), (8, [0, 2]), (9, [0, 2]), (10, [2])], lp := [] }
def fn127 : AFn := AFn.mk 1 [.tmp 2]
  (.seq (.region [
  ob 2 (.mv (.cst (.int .i64 0)))] false [0, 2]) q127_9)
theorem ok127 : compFn Tryz.prog ann127 Tryz.f127 = some fn127 := by kernel_rfl
def q128_0 : ACode :=
 (.seq (.region [
 ob 5 (.faddr 4 (.tmp 3)),
 ob 6 (.load1 (.tmp 5)),
 ob 7 (.lenV (.tmp 6)),
 ob 8 (.bin .geq (.tmp 7) (.cst (.int .i64 64))),
 ob 9 (.mv (.tmp 8)),
 og 10 9 false (.loadA 3 (.tmp 2)),
 og 11 9 false (.faddr 0 (.tmp 3)),
 og 12 9 false (.load1 (.tmp 11)),
 og 13 9 false (.call 103 [(.tmp 10), (.tmp 12)]),
 og 14 9 false (.bin .geq (.tmp 13) (.cst (.int .i64 12))),
 ob 15 (.pick (.tmp 9) (.cst (.bool true)) (.tmp 14)),
 ob 16 (.mv (.tmp 15)),
 og 17 16 false (.faddr 2 (.tmp 2)),
 og 18 16 false (.load1 (.tmp 17)),
 og 19 16 false (.bin .geq (.tmp 18) (.cst (.int .i64 1099511627776))),
 ob 20 (.pick (.tmp 16) (.cst (.bool true)) (.tmp 19)),
 ob 4 (.mv (.tmp 20))] false [4]) (.ret))
def E128 := exK_head q128_0.eq_1
def ann128 : Ann := { n := 21, own := [], lv := [(0, [2, 3]), (1, [4])], lp := [] }
def fn128 : AFn := AFn.mk 2 [.tmp 4]
  (.seq (.region [
  ob 2 (.box (.tmp 0)),
  ob 3 (.box (.tmp 1)),
  ob 4 (.mv (.cst (.bool false)))] false [2, 3]) q128_0)
theorem ok128 : compFn Tryz.prog ann128 Tryz.f128 = some fn128 := by kernel_rfl
def q129_0 : ACode :=
 (.region [
 ob 17 (.mv (.tmp 3)),
 ob 18 (.lenS (.tmp 17)),
 ob 5 (.mv (.tmp 18))] false [0, 1, 3, 4, 5])
def q129_1 : ACode :=
 (.region [
 ob 26 (.mv (.tmp 3)),
 ob 27 (.mv (.tmp 5)),
 ob 28 (.sliceS (.tmp 26) (some (.tmp 27)) none),
 ox (.store 1 (.tmp 1) (.tmp 28))] false [0, 1])
def q129_2 : ACode :=
 (.seq (.seq (.region [
 ob 19 (.mv (.tmp 0)),
 ob 20 (.mv (.tmp 3)),
 ob 21 (.mv (.tmp 5)),
 ob 22 (.sliceS (.tmp 20) none (some (.tmp 21))),
 ob 23 (.mv (.tmp 4)),
 ob 24 (.callV (.tmp 19) [(.tmp 22), (.tmp 23)]),
 ob 25 (.not (.tmp 24))] false [0, 1, 3, 5, 25]) (.cond (.tmp 25) (.ret) (.skip))) q129_1)
def q129_3 : ACode :=
 (.seq (.seq (.region [
 ob 15 (.mv (.tmp 5)),
 ob 16 (.bin .lss (.tmp 15) (.cst (.int .i64 0)))] false [0, 1, 3, 4, 5, 16]) (.cond (.tmp 16) q129_0 (.skip))) q129_2)
def q129_4 : ACode :=
 (.seq (.region [
 ob 13 (.mv (.tmp 3)),
 ob 14 (.call 131 [(.tmp 13), (.cst (.int .u8 47))]),
 ob 5 (.mv (.tmp 14))] false [0, 1, 3, 4, 5]) q129_3)
def q129_5 : ACode :=
 (.block 1 (.seq (.region [
 ob 9 (.load1 (.tmp 1)),
 ob 10 (.call 130 [(.tmp 9), (.cst (.str [47]))]),
 ob 8 (.mv (.tmp 10)),
 ob 11 (.extract (.tmp 8) 0),
 ob 12 (.extract (.tmp 8) 1),
 ob 3 (.mv (.tmp 11)),
 ob 4 (.mv (.tmp 12))] false [0, 1, 3, 4]) q129_4))
def lb129_0 : ACode :=
 (.seq (.seq (.region [
 ob 6 (.load1 (.tmp 1)),
 ob 7 (.bin .neq (.tmp 6) (.cst (.str [])))] false [0, 1, 7]) (.cond (.tmp 7) (.skip) (.exit 0))) q129_5)
def E129 := And.intro (exK_head q129_0.eq_1) (And.intro (exK_head q129_1.eq_1) (And.intro (exK_head q129_2.eq_1) (And.intro (exK_head q129_3.eq_1) (And.intro (exK_head q129_4.eq_1) (And.intro (exK_head q129_5.eq_1) (exK_head lb129_0.eq_1))))))
def ann129 : Ann := { n := 29, own := [], lv := [(0, [0, 1, 7]), (1, [0, 1, 3, 4]), (2, [0, 1, 3, 4, 5]), (3, [0, 1, 3, 4, 5, 16]), (4, [0, 1, 3, 4, 5]), (5, [0, 1, 3, 5, 25]), (6, [0, 1])], lp := [(0, [0, 1])] }
def fn129 : AFn := AFn.mk 2 []
  (.block 0 (.loop [0, 1] lb129_0))
theorem ok129 : compFn Tryz.prog ann129 Tryz.f129 = some fn129 := by kernel_rfl
def q130_0 : ACode :=
 (.seq (.region [
 ob 6 (.mv (.tmp 0)),
 ob 7 (.mv (.tmp 1)),
 ob 8 (.call 140 [(.tmp 6), (.tmp 7)]),
 ob 9 (.extract (.tmp 8) 0),
 ob 10 (.extract (.tmp 8) 1),
 ob 4 (.mv (.tmp 9)),
 ob 5 (.mv (.tmp 10))] false [4, 5]) (.ret))
def E130 := exK_head q130_0.eq_1
def ann130 : Ann := { n := 11, own := [], lv := [(0, [0, 1]), (1, [4, 5])], lp := [] }
def fn130 : AFn := AFn.mk 2 [.tmp 4, .tmp 5]
  (.seq (.region [
  ob 4 (.mv (.cst (.str []))),
  ob 5 (.mv (.cst (.bool false)))] false [0, 1]) q130_0)
theorem ok130 : compFn Tryz.prog ann130 Tryz.f130 = some fn130 := by kernel_rfl
def q140_0 : ACode :=
 (.seq (.region [
 ob 10 (.mv (.tmp 0)),
 ob 4 (.mv (.tmp 10)),
 ob 5 (.mv (.cst (.bool false)))] false [4, 5]) (.ret))
def q140_1 : ACode :=
 (.seq (.region [
 ob 11 (.mv (.tmp 0)),
 ob 12 (.mv (.tmp 1)),
 ob 13 (.lenS (.tmp 12)),
 ob 14 (.sliceS (.tmp 11) (some (.tmp 13)) none),
 ob 4 (.mv (.tmp 14)),
 ob 5 (.mv (.cst (.bool true)))] false [4, 5]) (.ret))
def q140_2 : ACode :=
 (.seq (.seq (.region [
 ob 6 (.mv (.tmp 0)),
 ob 7 (.mv (.tmp 1)),
 ob 8 (.call 145 [(.tmp 6), (.tmp 7)]),
 ob 9 (.not (.tmp 8))] false [0, 1, 9]) (.cond (.tmp 9) q140_0 (.skip))) q140_1)
def E140 := And.intro (exK_head q140_0.eq_1) (And.intro (exK_head q140_1.eq_1) (exK_head q140_2.eq_1))
def ann140 : Ann := { n := 15, own := [], lv := [(0, [0, 1]), (1, [0, 1, 9]), (2, [4, 5]), (3, [4, 5])], lp := [] }
def fn140 : AFn := AFn.mk 2 [.tmp 4, .tmp 5]
  (.seq (.region [
  ob 4 (.mv (.cst (.str []))),
  ob 5 (.mv (.cst (.bool false)))] false [0, 1]) q140_2)
theorem ok140 : compFn Tryz.prog ann140 Tryz.f140 = some fn140 := by kernel_rfl
def q145_0 : ACode :=
 (.seq (.region [
 ob 5 (.mv (.tmp 0)),
 ob 6 (.lenS (.tmp 5)),
 ob 7 (.mv (.tmp 1)),
 ob 8 (.lenS (.tmp 7)),
 ob 9 (.bin .geq (.tmp 6) (.tmp 8)),
 ob 10 (.mv (.tmp 9)),
 og 11 10 true (.mv (.tmp 0)),
 og 12 10 true (.mv (.tmp 1)),
 og 13 10 true (.lenS (.tmp 12)),
 og 14 10 true (.sliceS (.tmp 11) none (some (.tmp 13))),
 og 15 10 true (.mv (.tmp 1)),
 og 16 10 true (.bin .eql (.tmp 14) (.tmp 15)),
 ob 17 (.pick (.tmp 10) (.tmp 16) (.cst (.bool false))),
 ob 4 (.mv (.tmp 17))] false [4]) (.ret))
def E145 := exK_head q145_0.eq_1
def ann145 : Ann := { n := 18, own := [], lv := [(0, [0, 1]), (1, [4])], lp := [] }
def fn145 : AFn := AFn.mk 2 [.tmp 4]
  (.seq (.region [
  ob 4 (.mv (.cst (.bool false)))] false [0, 1]) q145_0)
theorem ok145 : compFn Tryz.prog ann145 Tryz.f145 = some fn145 := by kernel_rfl
end Go.Proofs.YtnapockikkbkcaaGreat
namespace Go.Abs
open Go Go.RowKit
theorem nth_eq {α : Type} : ∀ (l : List α) (i : Nat), nth l i = l[i]?
  | [], _ => by simp [nth]
  | _ :: _, 0 => by simp [nth]
  | _ :: l, n + 1 => by simp [nth, nth_eq l n]
theorem setN_eq {α : Type} : ∀ (l : List α) (i : Nat) (x : α), setN l i x = l.set i x
  | [], _, _ => by simp [setN]
  | _ :: _, 0, _ => by simp [setN]
  | _ :: l, n + 1, x => by simp [setN, setN_eq l n]
def upd (j : J) (id : Nat) (ob : Option Nat) : J := ⟨fun i => if i = id then ob else j i, j.X⟩
structure Quiet (w w' : World) : Prop where
  size : w.heap.size ≤ w'.heap.size
  os : w'.os = w.os
  tape : w'.tape = w.tape
  output : w'.output = w.output
theorem lt_of_block {w : World} {b : Nat} {o : Obj} (h : w.heap[b]? = some o) : b < w.heap.size := by
  rcases Nat.lt_or_ge b w.heap.size with h' | h'
  · exact h'
  · rw [Array.getElem?_eq_none h'] at h; cases h
theorem lt_of_some {α : Type} {l : List α} {i : Nat} {x : α} (h : l[i]? = some x) : i < l.length := (List.getElem?_eq_some_iff.1 h).1
section
variable {j : J} {M : AMem} {w w' : World}
theorem arr_keep {j' : J} {M' : AMem} (hr : Rel j M w) (ext : Ext j M w j' M' w') {i sz ver : Nat} {xs : List AVal} (h : M[i]? = some (.arr sz ver xs)) (hj : j' i = j i) (hb : ∀ b, j i = some b → w'.heap[b]? = w.heap[b]?) :
    ∃ b vs t, j' i = some b ∧ w'.heap[b]? = some (.cells vs t (0, 0)) ∧ xs.length * sz ≤ vs.size ∧ (∀ x, x ∈ xs → x.cells.length = sz) ∧
    ∀ (q : Nat) (x : AVal) (k : Nat) (c : AVal), xs[q]? = some x → x.cells[k]? = some c → ∃ v, vs[q * sz + k]? = some v ∧ RepP w' (Saf j' M' w') c v := by
  obtain ⟨b, vs, t, h1, h2, h3, h4, h5⟩ := hr.arr i sz ver xs h
  refine ⟨b, vs, t, hj.trans h1, (hb b h1).trans h2, h3, h4, fun q x k c hx hk => ?_⟩
  obtain ⟨u, h6, h7⟩ := h5 q x k c hx hk
  exact ⟨u, h6, h7.mono ext.saf⟩
theorem app_old {bx : ABox} {i : Nat} (h : i < M.length) : (M ++ [bx])[i]? = M[i]? := List.getElem?_append_left h
theorem app_new {bx : ABox} : (M ++ [bx])[M.length]? = some bx := by simp
theorem Ext.push {ob : Option Nat} {bx : ABox} (hob : ∀ b, ob = some b → w.heap.size ≤ b) (q : Quiet w w') (hb : ∀ b, b < w.heap.size → w'.heap[b]? = w.heap[b]?) :
    Ext j M w (upd j M.length ob) (M ++ [bx]) w' where
  len := by simp
  size := q.size
  os := q.os
  tape := q.tape
  output := q.output
  X := rfl
  fix := fun i bx h _ => by
    have hi := lt_of_some h
    exact ⟨by simp [upd, Nat.ne_of_lt hi], bx, by rw [app_old hi]; exact h, rfl⟩
  tick := fun i sz n h => by
    have hi := lt_of_some h
    exact ⟨n, Nat.le_refl _, by rw [app_old hi]; exact h, fun _ => ⟨by simp [upd, Nat.ne_of_lt hi], fun b vs t _ hv => ⟨vs, (hb b (lt_of_block hv)).trans hv, rfl⟩⟩⟩
  arr := fun i sz v xs h => by
    have hi := lt_of_some h
    exact .inr ⟨v, xs, by rw [app_old hi]; exact h, Nat.le_refl _, fun _ => ⟨by simp [upd, Nat.ne_of_lt hi], rfl, fun b vs t _ hv => ⟨vs, (hb b (lt_of_block hv)).trans hv, rfl⟩⟩⟩
  saf := fun b off h => by
    refine ⟨⟨Nat.lt_of_lt_of_le h.1 q.size, fun id hid hj => ?_, h.3⟩, World.cell?_of_block (w := w) (hb b h.1)⟩
    by_cases he : id = M.length
    · have : ob = some b := by simpa [upd, he] using hj
      have := hob b this
      have := h.1
      omega
    · have hlt : id < M.length := by simp at hid; omega
      rw [app_old hlt]
      exact h.2 id hlt (by simpa [upd, he] using hj)
  old := fun b hlt h => by
    refine ⟨hb b hlt, fun i hi hj => ?_⟩
    by_cases he : i = M.length
    · have : ob = some b := by simpa [upd, he] using hj
      have := hob b this
      omega
    · exact h i (by simp at hi; omega) (by simpa [upd, he] using hj)
theorem Rel.push (hr : Rel j M w) {ob : Option Nat} {bx : ABox} (hob : ∀ b, ob = some b → w.heap.size ≤ b ∧ b < w'.heap.size) (q : Quiet w w') (hb : ∀ b, b < w.heap.size → w'.heap[b]? = w.heap[b]?)
    (hbox : bx.fixed = true → ∃ b, ob = some b ∧ ∀ j' M', Ext j M w j' M' w' → Holds j' M' w' b bx)
    (htick : ∀ sz n b, bx = .tick sz n → ob = some b → ∃ vs t, w'.heap[b]? = some (.cells vs t (0, 0)))
    (harr : ∀ sz ver xs, bx = .arr sz ver xs → ∃ b vs t, ob = some b ∧ w'.heap[b]? = some (.cells vs t (0, 0)) ∧ xs.length * sz ≤ vs.size ∧ (∀ x, x ∈ xs → x.cells.length = sz) ∧
      ∀ j' M', Ext j M w j' M' w' → ∀ (q : Nat) (x : AVal) (k : Nat) (c : AVal), xs[q]? = some x → x.cells[k]? = some c → ∃ v, vs[q * sz + k]? = some v ∧ RepP w' (Saf j' M' w') c v := by intro _ _ _ h; cases h) : Rel (upd j M.length ob) (M ++ [bx]) w' := by
  have ext : Ext j M w (upd j M.length ob) (M ++ [bx]) w' := Ext.push (fun b h => (hob b h).1) q hb
  have up : ∀ i, i < M.length → upd j M.length ob i = j i := fun i hi => by simp [upd, Nat.ne_of_lt hi]
  have cas : ∀ i x, (M ++ [bx])[i]? = some x → (i < M.length ∧ M[i]? = some x) ∨ (i = M.length ∧ x = bx) := by
    intro i x h
    rcases Nat.lt_or_ge i M.length with hi | hi
    · exact .inl ⟨hi, by rw [← app_old (bx := bx) hi]; exact h⟩
    · have := lt_of_some h
      have he : i = M.length := by simp at this; omega
      subst he
      rw [app_new] at h
      injection h with h
      exact .inr ⟨rfl, h.symm⟩
  refine ⟨fun i i' b hi hi' h h' => ?_, fun i b hi h => ?_, fun i bx' h hf => ?_, fun i sz n b h hj => ?_, fun i sz ver xs h => ?_, fun i b hi h off hx => ?_, fun b off h => Nat.lt_of_lt_of_le (hr.xlt b off h) q.size⟩
  · simp only [List.length_append, List.length_cons, List.length_nil] at hi hi'
    by_cases e : i = M.length <;> by_cases e' : i' = M.length
    · omega
    · have h1 : ob = some b := by simpa [upd, e] using h
      rw [up i' (by omega)] at h'
      have := hr.lt i' b (by omega) h'
      have := (hob b h1).1
      omega
    · have h1 : ob = some b := by simpa [upd, e'] using h'
      rw [up i (by omega)] at h
      have := hr.lt i b (by omega) h
      have := (hob b h1).1
      omega
    · rw [up i (by omega)] at h
      rw [up i' (by omega)] at h'
      exact hr.inj i i' b (by omega) (by omega) h h'
  · simp only [List.length_append, List.length_cons, List.length_nil] at hi
    by_cases e : i = M.length
    · exact (hob b (by simpa [upd, e] using h)).2
    · rw [up i (by omega)] at h
      exact Nat.lt_of_lt_of_le (hr.lt i b (by omega) h) q.size
  · rcases cas i _ h with ⟨hi, h⟩ | ⟨rfl, hx⟩
    · obtain ⟨b, h1, h2⟩ := hr.fix i bx' h hf
      exact ⟨b, by rw [up i hi]; exact h1, h2.mono ext (hb b (hr.lt i b hi h1))⟩
    · subst hx
      obtain ⟨b, h1, h2⟩ := hbox hf
      exact ⟨b, by simp [upd, h1], h2 _ _ ext⟩
  · rcases cas i _ h with ⟨hi, h⟩ | ⟨rfl, hx⟩
    · rw [up i hi] at hj
      obtain ⟨vs, t, h1⟩ := hr.tick i sz n b h hj
      exact ⟨vs, t, (hb b (lt_of_block h1)).trans h1⟩
    · exact htick sz n b hx.symm (by simpa [upd] using hj)
  · rcases cas i _ h with ⟨hi, h⟩ | ⟨rfl, hx⟩
    · exact arr_keep hr ext h (up i hi) fun b h1 => hb b (hr.lt i b hi h1)
    · obtain ⟨b, vs, t, h1, h2, h3, h4, h5⟩ := harr sz ver xs hx.symm
      exact ⟨b, vs, t, by simp [upd, h1], h2, h3, h4, h5 _ _ ext⟩
  · by_cases e : i = M.length
    · have h1 := (hob b (by simpa [upd, e] using h)).1
      have h2 := hr.xlt b off hx
      omega
    · exact hr.xdis i b (by simp at hi; omega) (by rw [up i (by simp at hi; omega)] at h; exact h) off hx
theorem set_same {id : Nat} {bx : ABox} (h : id < M.length) : (M.set id bx)[id]? = some bx := by simp [h]
theorem set_other {id i : Nat} {bx : ABox} (h : id ≠ i) : (M.set id bx)[i]? = M[i]? := by simp [List.getElem?_set_ne h]
theorem Ext.store {id b : Nat} {bx bx' : ABox} (hM : M[id]? = some bx) (hfx : bx.fixed = true) (htag : bx'.tag = bx.tag) (hj : j id = some b) (hr : Rel j M w) (q : Quiet w w')
    (hb : ∀ b', b' ≠ b → b' < w.heap.size → w'.heap[b']? = w.heap[b']?) : Ext j M w j (M.set id bx') w' where
  len := by simp
  size := q.size
  os := q.os
  tape := q.tape
  output := q.output
  X := rfl
  fix := fun i b0 h _ => ⟨rfl, by
    by_cases e : id = i
    · subst e
      rw [hM] at h; injection h with h; subst h
      exact ⟨_, set_same (lt_of_some hM), htag⟩
    · exact ⟨b0, by rw [set_other e]; exact h, rfl⟩⟩
  tick := fun i sz n h => by
    have e : id ≠ i := by rintro rfl; rw [hM] at h; injection h with h; subst h; cases hfx
    refine ⟨n, Nat.le_refl _, by rw [set_other e]; exact h, fun _ => ⟨rfl, fun b' vs t hb' hv => ⟨vs, ?_, rfl⟩⟩⟩
    refine (hb b' ?_ (lt_of_block hv)).trans hv
    rintro rfl
    exact e (hr.inj _ _ _ (lt_of_some hM) (lt_of_some h) hj hb')
  arr := fun i sz v xs h => by
    have e : id ≠ i := by rintro rfl; rw [hM] at h; injection h with h; subst h; cases hfx
    refine .inr ⟨v, xs, by rw [set_other e]; exact h, Nat.le_refl _, fun _ => ⟨rfl, rfl, fun b' vs t hb' hv => ⟨vs, ?_, rfl⟩⟩⟩
    refine (hb b' ?_ (lt_of_block hv)).trans hv
    rintro rfl
    exact e (hr.inj _ _ _ (lt_of_some hM) (lt_of_some h) hj hb')
  saf := fun b0 off h => by
    have hne : b0 ≠ b := by
      rintro rfl
      obtain ⟨sz, n, h1, _⟩ := h.2 id (lt_of_some hM) hj
      rw [hM] at h1; injection h1 with h1; subst h1; cases hfx
    refine ⟨⟨Nat.lt_of_lt_of_le h.1 q.size, fun i hi hji => ?_, h.3⟩, World.cell?_of_block (w := w) (hb b0 hne h.1)⟩
    have e : id ≠ i := by rintro rfl; rw [hj] at hji; injection hji with hji; exact hne hji.symm
    rw [set_other e]
    exact h.2 i (by simpa using hi) hji
  old := fun b0 hlt h => by
    have hne : b0 ≠ b := by rintro rfl; exact h id (lt_of_some hM) hj
    exact ⟨hb b0 hne hlt, fun i hi => h i (by simpa using hi)⟩
theorem Rel.store {id b : Nat} {bx bx' : ABox} (hM : M[id]? = some bx) (hfx : bx.fixed = true) (htag : bx'.tag = bx.tag) (hj : j id = some b) (hr : Rel j M w) (q : Quiet w w')
    (hb : ∀ b', b' ≠ b → b' < w.heap.size → w'.heap[b']? = w.heap[b']?) (hh : ∀ j' M', Ext j M w j' M' w' → Holds j' M' w' b bx') : Rel j (M.set id bx') w' := by
  have ext : Ext j M w j (M.set id bx') w' := Ext.store hM hfx htag hj hr q hb
  refine ⟨fun i i' b0 hi hi' => hr.inj i i' b0 (by simpa using hi) (by simpa using hi'), fun i b0 hi h => Nat.lt_of_lt_of_le (hr.lt i b0 (by simpa using hi) h) q.size, fun i bx0 h hf => ?_, fun i sz n b0 h hji => ?_, fun i sz ver xs h => ?_, fun i b0 hi h => hr.xdis i b0 (by simpa using hi) h, fun b0 off h => Nat.lt_of_lt_of_le (hr.xlt b0 off h) q.size⟩
  · by_cases e : id = i
    · subst e
      rw [set_same (lt_of_some hM)] at h
      injection h with h
      subst h
      exact ⟨b, hj, hh _ _ ext⟩
    · rw [set_other e] at h
      obtain ⟨b0, h1, h2⟩ := hr.fix i bx0 h hf
      refine ⟨b0, h1, h2.mono ext (hb b0 ?_ (hr.lt i b0 (lt_of_some h) h1))⟩
      rintro rfl
      exact e (hr.inj _ _ _ (lt_of_some hM) (lt_of_some h) hj h1)
  · have e : id ≠ i := by
      rintro rfl
      rw [set_same (lt_of_some hM)] at h
      injection h with h
      have := tag_fixed htag hfx
      rw [h] at this; cases this
    rw [set_other e] at h
    obtain ⟨vs, t0, h1⟩ := hr.tick i sz n b0 h hji
    refine ⟨vs, t0, (hb b0 ?_ (lt_of_block h1)).trans h1⟩
    rintro rfl
    exact e (hr.inj _ _ _ (lt_of_some hM) (lt_of_some h) hj hji)
  · have e : id ≠ i := by
      rintro rfl
      rw [set_same (lt_of_some hM)] at h
      injection h with h
      have := tag_fixed htag hfx
      rw [h] at this; cases this
    rw [set_other e] at h
    refine arr_keep hr ext h rfl fun b0 h1 => hb b0 ?_ (hr.lt i b0 (lt_of_some h) h1)
    rintro rfl
    exact e (hr.inj _ _ _ (lt_of_some hM) (lt_of_some h) hj h1)
theorem Ext.tickIn {k b sz n n' : Nat} {vs vs' : Array Value} {t : TypeId} (hM : M[k]? = some (.tick sz n)) (hj : j k = some b) (hr : Rel j M w) (q : Quiet w w')
    (hb : ∀ b', b' ≠ b → b' < w.heap.size → w'.heap[b']? = w.heap[b']?) (hw : w.heap[b]? = some (.cells vs t (0, 0))) (hw' : w'.heap[b]? = some (.cells vs' t (0, 0))) (hvs : vs'.size = vs.size)
    (hq : ∀ p, p < n * sz → vs'[p]? = vs[p]?) (hn : n ≤ n') : Ext j M w j (M.set k (.tick sz n')) w' where
  len := by simp
  size := q.size
  os := q.os
  tape := q.tape
  output := q.output
  X := rfl
  fix := fun i b0 h hf => ⟨rfl, by
    have e : k ≠ i := by rintro rfl; rw [hM] at h; injection h with h; subst h; cases hf
    exact ⟨b0, by rw [set_other e]; exact h, rfl⟩⟩
  tick := fun i sz0 n0 h => by
    by_cases e : k = i
    · subst e
      rw [hM] at h
      injection h with h; injection h with h1 h2
      subst h1; subst h2
      refine ⟨n', hn, set_same (lt_of_some hM), fun _ => ⟨rfl, fun b' vs0 t0 hb' hv => ?_⟩⟩
      rw [hj] at hb'; injection hb' with hb'; subst hb'
      rw [hw] at hv; injection hv with hv; injection hv with e1 e2
      subst e1; subst e2
      exact ⟨vs', hw', hvs⟩
    · refine ⟨n0, Nat.le_refl _, by rw [set_other e]; exact h, fun _ => ⟨rfl, fun b' vs0 t0 hb' hv => ⟨vs0, ?_, rfl⟩⟩⟩
      refine (hb b' ?_ (lt_of_block hv)).trans hv
      rintro rfl
      exact e (hr.inj _ _ _ (lt_of_some hM) (lt_of_some h) hj hb')
  arr := fun i sz v xs h => by
    have e : k ≠ i := by rintro rfl; rw [hM] at h; cases h
    refine .inr ⟨v, xs, by rw [set_other e]; exact h, Nat.le_refl _, fun _ => ⟨rfl, rfl, fun b' vs t hb' hv => ⟨vs, ?_, rfl⟩⟩⟩
    refine (hb b' ?_ (lt_of_block hv)).trans hv
    rintro rfl
    exact e (hr.inj _ _ _ (lt_of_some hM) (lt_of_some h) hj hb')
  saf := fun b0 off h => by
    refine ⟨⟨Nat.lt_of_lt_of_le h.1 q.size, fun i hi hji => ?_, h.3⟩, ?_⟩
    · by_cases e : k = i
      · subst e
        obtain ⟨sz0, n0, h1, h2⟩ := h.2 k (lt_of_some hM) hji
        rw [hM] at h1
        injection h1 with h1; injection h1 with e1 e2
        subst e1; subst e2
        exact ⟨sz, n', set_same (lt_of_some hM), Nat.lt_of_lt_of_le h2 (Nat.mul_le_mul_right _ hn)⟩
      · rw [set_other e]
        exact h.2 i (by simpa using hi) hji
    · by_cases e : b0 = b
      · subst e
        obtain ⟨sz0, n0, h1, h2⟩ := h.2 k (lt_of_some hM) hj
        rw [hM] at h1
        injection h1 with h1; injection h1 with e1 e2
        subst e1; subst e2
        simp only [World.cell?, hw, hw']
        simpa using hq off h2
      · exact World.cell?_of_block (w := w) (hb b0 e h.1)
  old := fun b0 hlt h => by
    have hne : b0 ≠ b := by rintro rfl; exact h k (lt_of_some hM) hj
    exact ⟨hb b0 hne hlt, fun i hi => h i (by simpa using hi)⟩
theorem Rel.tickIn {k b sz n n' : Nat} {vs vs' : Array Value} {t : TypeId} (hM : M[k]? = some (.tick sz n)) (hj : j k = some b) (hr : Rel j M w) (q : Quiet w w')
    (hb : ∀ b', b' ≠ b → b' < w.heap.size → w'.heap[b']? = w.heap[b']?) (hw : w.heap[b]? = some (.cells vs t (0, 0))) (hw' : w'.heap[b]? = some (.cells vs' t (0, 0))) (hvs : vs'.size = vs.size)
    (hq : ∀ p, p < n * sz → vs'[p]? = vs[p]?) (hn : n ≤ n') : Rel j (M.set k (.tick sz n')) w' := by
  have ext : Ext j M w j (M.set k (.tick sz n')) w' := Ext.tickIn hM hj hr q hb hw hw' hvs hq hn
  refine ⟨fun i i' b0 hi hi' => hr.inj i i' b0 (by simpa using hi) (by simpa using hi'), fun i b0 hi h => Nat.lt_of_lt_of_le (hr.lt i b0 (by simpa using hi) h) q.size, fun i bx0 h hf => ?_, fun i sz0 n0 b0 h hji => ?_, fun i sz ver xs h => ?_, fun i b0 hi h => hr.xdis i b0 (by simpa using hi) h, fun b0 off h => Nat.lt_of_lt_of_le (hr.xlt b0 off h) q.size⟩
  · have e : k ≠ i := by rintro rfl; rw [set_same (lt_of_some hM)] at h; injection h with h; subst h; cases hf
    rw [set_other e] at h
    obtain ⟨b0, h1, h2⟩ := hr.fix i bx0 h hf
    refine ⟨b0, h1, h2.mono ext (hb b0 ?_ (hr.lt i b0 (lt_of_some h) h1))⟩
    rintro rfl
    exact e (hr.inj _ _ _ (lt_of_some hM) (lt_of_some h) hj h1)
  · by_cases e : k = i
    · subst e
      rw [hj] at hji; injection hji with hji; subst hji
      exact ⟨vs', t, hw'⟩
    · rw [set_other e] at h
      obtain ⟨vs0, t0, h1⟩ := hr.tick i sz0 n0 b0 h hji
      refine ⟨vs0, t0, (hb b0 ?_ (lt_of_block h1)).trans h1⟩
      rintro rfl
      exact e (hr.inj _ _ _ (lt_of_some hM) (lt_of_some h) hj hji)
  · have e : k ≠ i := by rintro rfl; rw [set_same (lt_of_some hM)] at h; cases h
    rw [set_other e] at h
    refine arr_keep hr ext h rfl fun b0 h1 => hb b0 ?_ (hr.lt i b0 (lt_of_some h) h1)
    rintro rfl
    exact e (hr.inj _ _ _ (lt_of_some hM) (lt_of_some h) hj h1)
theorem Ext.tickNew {k b' sz n n' : Nat} (hM : M[k]? = some (.tick sz n)) (q : Quiet w w') (hb : ∀ b, b < w.heap.size → w'.heap[b]? = w.heap[b]?) (hf : w.heap.size ≤ b') (hn : n < n') :
    Ext j M w (upd j k (some b')) (M.set k (.tick sz n')) w' where
  len := by simp
  size := q.size
  os := q.os
  tape := q.tape
  output := q.output
  X := rfl
  fix := fun i b0 h hf => by
    have e : k ≠ i := by rintro rfl; rw [hM] at h; injection h with h; subst h; cases hf
    exact ⟨by simp [upd, Ne.symm e], b0, by rw [set_other e]; exact h, rfl⟩
  tick := fun i sz0 n0 h => by
    by_cases e : k = i
    · subst e
      rw [hM] at h
      injection h with h; injection h with h1 h2
      subst h1; subst h2
      exact ⟨n', by omega, set_same (lt_of_some hM), fun he => by omega⟩
    · exact ⟨n0, Nat.le_refl _, by rw [set_other e]; exact h, fun _ => ⟨by simp [upd, Ne.symm e], fun b vs0 t0 _ hv => ⟨vs0, (hb b (lt_of_block hv)).trans hv, rfl⟩⟩⟩
  arr := fun i sz v xs h => by
    have e : k ≠ i := by rintro rfl; rw [hM] at h; cases h
    exact .inr ⟨v, xs, by rw [set_other e]; exact h, Nat.le_refl _, fun _ => ⟨by simp [upd, Ne.symm e], rfl, fun b vs0 t0 _ hv => ⟨vs0, (hb b (lt_of_block hv)).trans hv, rfl⟩⟩⟩
  saf := fun b0 off h => by
    refine ⟨⟨Nat.lt_of_lt_of_le h.1 q.size, fun i hi hji => ?_, h.3⟩, World.cell?_of_block (w := w) (hb b0 h.1)⟩
    have e : k ≠ i := by
      rintro rfl
      have : b' = b0 := by simpa [upd] using hji
      have := h.1
      omega
    rw [set_other e]
    exact h.2 i (by simpa using hi) (by simpa [upd, Ne.symm e] using hji)
  old := fun b0 hlt h => by
    refine ⟨hb b0 hlt, fun i hi hji => ?_⟩
    by_cases e : i = k
    · have : b' = b0 := by simpa [upd, e] using hji
      omega
    · exact h i (by simpa using hi) (by simpa [upd, e] using hji)
theorem Rel.tickNew {k b' sz n n' : Nat} {vs : Array Value} {t : TypeId} (hM : M[k]? = some (.tick sz n)) (hr : Rel j M w) (q : Quiet w w') (hb : ∀ b, b < w.heap.size → w'.heap[b]? = w.heap[b]?)
    (hf : w.heap.size ≤ b') (hw' : w'.heap[b']? = some (.cells vs t (0, 0))) (hn : n < n') : Rel (upd j k (some b')) (M.set k (.tick sz n')) w' := by
  have ext : Ext j M w (upd j k (some b')) (M.set k (.tick sz n')) w' := Ext.tickNew hM q hb hf hn
  refine ⟨fun i i' b0 hi hi' h h' => ?_, fun i b0 hi h => ?_, fun i bx0 h hf => ?_, fun i sz0 n0 b0 h hji => ?_, fun i sz ver xs h => ?_, fun i b0 hi h off hx => ?_, fun b0 off h => Nat.lt_of_lt_of_le (hr.xlt b0 off h) q.size⟩
  · simp only [List.length_set] at hi hi'
    by_cases e : i = k <;> by_cases e' : i' = k
    · omega
    · have h1 : b' = b0 := by simpa [upd, e] using h
      have := hr.lt i' b0 hi' (by simpa [upd, e'] using h')
      omega
    · have h1 : b' = b0 := by simpa [upd, e'] using h'
      have := hr.lt i b0 hi (by simpa [upd, e] using h)
      omega
    · exact hr.inj i i' b0 hi hi' (by simpa [upd, e] using h) (by simpa [upd, e'] using h')
  · simp only [List.length_set] at hi
    by_cases e : i = k
    · have h1 : b' = b0 := by simpa [upd, e] using h
      subst h1
      exact lt_of_block hw'
    · exact Nat.lt_of_lt_of_le (hr.lt i b0 hi (by simpa [upd, e] using h)) q.size
  · have e : k ≠ i := by rintro rfl; rw [set_same (lt_of_some hM)] at h; injection h with h; subst h; cases hf
    rw [set_other e] at h
    obtain ⟨b0, h1, h2⟩ := hr.fix i bx0 h hf
    exact ⟨b0, by simpa [upd, Ne.symm e] using h1, h2.mono ext (hb b0 (hr.lt i b0 (lt_of_some h) h1))⟩
  · by_cases e : i = k
    · have h1 : b' = b0 := by simpa [upd, e] using hji
      subst h1
      exact ⟨vs, t, hw'⟩
    · rw [set_other (Ne.symm e)] at h
      obtain ⟨vs0, t0, h1⟩ := hr.tick i sz0 n0 b0 h (by simpa [upd, e] using hji)
      exact ⟨vs0, t0, (hb b0 (lt_of_block h1)).trans h1⟩
  · have e : k ≠ i := by rintro rfl; rw [set_same (lt_of_some hM)] at h; cases h
    rw [set_other e] at h
    exact arr_keep hr ext h (by simp [upd, Ne.symm e]) fun b0 h1 => hb b0 (hr.lt i b0 (lt_of_some h) h1)
  · by_cases e : i = k
    · have h1 : b' = b0 := by simpa [upd, e] using h
      have h2 := hr.xlt b0 off hx
      omega
    · exact hr.xdis i b0 (by simpa using hi) (by simpa [upd, e] using h) off hx
end
end Go.Abs
namespace Go.Abs
open Go Go.RowKit
section
variable {j : J} {M : AMem} {w w' : World}
def ArrAt (j : J) (M : AMem) (w : World) (b sz : Nat) (xs : List AVal) : Prop := ∃ vs t, w.heap[b]? = some (.cells vs t (0, 0)) ∧ xs.length * sz ≤ vs.size ∧ (∀ x, x ∈ xs → x.cells.length = sz) ∧
    ∀ (q : Nat) (x : AVal) (k : Nat) (c : AVal), xs[q]? = some x → x.cells[k]? = some c → ∃ v, vs[q * sz + k]? = some v ∧ RepP w (Saf j M w) c v
theorem Ext.arrIn {id b sz ver ver' : Nat} {xs xs' : List AVal} (hM : M[id]? = some (.arr sz ver xs)) (hj : j id = some b) (hr : Rel j M w) (q : Quiet w w')
    (hb : ∀ b', b' ≠ b → b' < w.heap.size → w'.heap[b']? = w.heap[b']?) (hw : ∀ vs t, w.heap[b]? = some (.cells vs t (0, 0)) → ∃ vs', w'.heap[b]? = some (.cells vs' t (0, 0)) ∧ vs'.size = vs.size)
    (hv : ver ≤ ver') (hl : ver' = ver → xs'.length = xs.length) : Ext j M w j (M.set id (.arr sz ver' xs')) w' where
  len := by simp
  size := q.size
  os := q.os
  tape := q.tape
  output := q.output
  X := rfl
  fix := fun i b0 h hf => ⟨rfl, by
    have e : id ≠ i := by rintro rfl; rw [hM] at h; injection h with h; subst h; cases hf
    exact ⟨b0, by rw [set_other e]; exact h, rfl⟩⟩
  tick := fun i sz0 n0 h => by
    have e : id ≠ i := by rintro rfl; rw [hM] at h; cases h
    refine ⟨n0, Nat.le_refl _, by rw [set_other e]; exact h, fun _ => ⟨rfl, fun b' vs0 t0 hb' hv => ⟨vs0, ?_, rfl⟩⟩⟩
    refine (hb b' ?_ (lt_of_block hv)).trans hv
    rintro rfl
    exact e (hr.inj _ _ _ (lt_of_some hM) (lt_of_some h) hj hb')
  arr := fun i sz0 v0 xs0 h => by
    by_cases e : id = i
    · subst e
      rw [hM] at h
      injection h with h; injection h with e1 e2 e3
      subst e1; subst e2; subst e3
      refine .inr ⟨ver', xs', set_same (lt_of_some hM), hv, fun he => ⟨rfl, hl he, fun b' vs t hb' hv => ?_⟩⟩
      rw [hj] at hb'; injection hb' with hb'; subst hb'
      exact hw vs t hv
    · refine .inr ⟨v0, xs0, by rw [set_other e]; exact h, Nat.le_refl _, fun _ => ⟨rfl, rfl, fun b' vs t hb' hv => ⟨vs, ?_, rfl⟩⟩⟩
      refine (hb b' ?_ (lt_of_block hv)).trans hv
      rintro rfl
      exact e (hr.inj _ _ _ (lt_of_some hM) (lt_of_some h) hj hb')
  saf := fun b0 off h => by
    have hne : b0 ≠ b := by
      rintro rfl
      obtain ⟨sz, n, h1, _⟩ := h.2 id (lt_of_some hM) hj
      rw [hM] at h1; cases h1
    refine ⟨⟨Nat.lt_of_lt_of_le h.1 q.size, fun i hi hji => ?_, h.3⟩, World.cell?_of_block (w := w) (hb b0 hne h.1)⟩
    have e : id ≠ i := by rintro rfl; rw [hj] at hji; injection hji with hji; exact hne hji.symm
    rw [set_other e]
    exact h.2 i (by simpa using hi) hji
  old := fun b0 hlt h => by
    have hne : b0 ≠ b := by rintro rfl; exact h id (lt_of_some hM) hj
    exact ⟨hb b0 hne hlt, fun i hi => h i (by simpa using hi)⟩
theorem Rel.arrIn {id b sz ver ver' : Nat} {xs xs' : List AVal} (hM : M[id]? = some (.arr sz ver xs)) (hj : j id = some b) (hr : Rel j M w) (q : Quiet w w')
    (hb : ∀ b', b' ≠ b → b' < w.heap.size → w'.heap[b']? = w.heap[b']?) (hw : ∀ vs t, w.heap[b]? = some (.cells vs t (0, 0)) → ∃ vs', w'.heap[b]? = some (.cells vs' t (0, 0)) ∧ vs'.size = vs.size)
    (hv : ver ≤ ver') (hl : ver' = ver → xs'.length = xs.length) (hh : ∀ j' M', Ext j M w j' M' w' → ArrAt j' M' w' b sz xs') : Rel j (M.set id (.arr sz ver' xs')) w' := by
  have ext : Ext j M w j (M.set id (.arr sz ver' xs')) w' := Ext.arrIn hM hj hr q hb hw hv hl
  refine ⟨fun i i' b0 hi hi' => hr.inj i i' b0 (by simpa using hi) (by simpa using hi'), fun i b0 hi h => Nat.lt_of_lt_of_le (hr.lt i b0 (by simpa using hi) h) q.size, fun i bx0 h hf => ?_, fun i sz0 n0 b0 h hji => ?_, fun i sz0 v0 xs0 h => ?_, fun i b0 hi h => hr.xdis i b0 (by simpa using hi) h, fun b0 off h => Nat.lt_of_lt_of_le (hr.xlt b0 off h) q.size⟩
  · have e : id ≠ i := by rintro rfl; rw [set_same (lt_of_some hM)] at h; injection h with h; subst h; cases hf
    rw [set_other e] at h
    obtain ⟨b0, h1, h2⟩ := hr.fix i bx0 h hf
    refine ⟨b0, h1, h2.mono ext (hb b0 ?_ (hr.lt i b0 (lt_of_some h) h1))⟩
    rintro rfl
    exact e (hr.inj _ _ _ (lt_of_some hM) (lt_of_some h) hj h1)
  · have e : id ≠ i := by rintro rfl; rw [set_same (lt_of_some hM)] at h; cases h
    rw [set_other e] at h
    obtain ⟨vs, t0, h1⟩ := hr.tick i sz0 n0 b0 h hji
    refine ⟨vs, t0, (hb b0 ?_ (lt_of_block h1)).trans h1⟩
    rintro rfl
    exact e (hr.inj _ _ _ (lt_of_some hM) (lt_of_some h) hj hji)
  · by_cases e : id = i
    · subst e
      rw [set_same (lt_of_some hM)] at h
      injection h with h; injection h with e1 e2 e3
      subst e1; subst e2; subst e3
      obtain ⟨vs, t, g⟩ := hh _ _ ext
      exact ⟨b, vs, t, hj, g⟩
    · rw [set_other e] at h
      refine arr_keep hr ext h rfl fun b0 h1 => hb b0 ?_ (hr.lt i b0 (lt_of_some h) h1)
      rintro rfl
      exact e (hr.inj _ _ _ (lt_of_some hM) (lt_of_some h) hj h1)
theorem Ext.freeze {id sz ver : Nat} {xs : List AVal} (hM : M[id]? = some (.arr sz ver xs)) : Ext j M w j (M.set id (.tick sz xs.length)) w where
  len := by simp
  size := Nat.le_refl _
  os := rfl
  tape := rfl
  output := rfl
  X := rfl
  fix := fun i b0 h hf => ⟨rfl, by
    have e : id ≠ i := by rintro rfl; rw [hM] at h; injection h with h; subst h; cases hf
    exact ⟨b0, by rw [set_other e]; exact h, rfl⟩⟩
  tick := fun i sz0 n0 h => by
    have e : id ≠ i := by rintro rfl; rw [hM] at h; cases h
    exact ⟨n0, Nat.le_refl _, by rw [set_other e]; exact h, fun _ => ⟨rfl, fun b' vs0 t0 hb' hv => ⟨vs0, hv, rfl⟩⟩⟩
  arr := fun i sz0 v0 xs0 h => by
    by_cases e : id = i
    · subst e
      rw [hM] at h
      injection h with h; injection h with e1 e2 e3
      subst e1; subst e2; subst e3
      exact .inl ⟨_, set_same (lt_of_some hM)⟩
    · exact .inr ⟨v0, xs0, by rw [set_other e]; exact h, Nat.le_refl _, fun _ => ⟨rfl, rfl, fun b' vs t hb' hv => ⟨vs, hv, rfl⟩⟩⟩
  saf := fun b0 off h => by
    refine ⟨⟨h.1, fun i hi hji => ?_, h.3⟩, rfl⟩
    have e : id ≠ i := by
      rintro rfl
      obtain ⟨sz, n, h1, _⟩ := h.2 id (lt_of_some hM) hji
      rw [hM] at h1; cases h1
    rw [set_other e]
    exact h.2 i (by simpa using hi) hji
  old := fun b0 hlt h => ⟨rfl, fun i hi => h i (by simpa using hi)⟩
theorem Rel.freeze {id sz ver : Nat} {xs : List AVal} (hM : M[id]? = some (.arr sz ver xs)) (hr : Rel j M w) : Rel j (M.set id (.tick sz xs.length)) w := by
  have ext : Ext j M w j (M.set id (.tick sz xs.length)) w := Ext.freeze hM
  refine ⟨fun i i' b0 hi hi' => hr.inj i i' b0 (by simpa using hi) (by simpa using hi'), fun i b0 hi h => hr.lt i b0 (by simpa using hi) h, fun i bx0 h hf => ?_, fun i sz0 n0 b0 h hji => ?_, fun i sz0 v0 xs0 h => ?_, fun i b0 hi h => hr.xdis i b0 (by simpa using hi) h, hr.xlt⟩
  · have e : id ≠ i := by rintro rfl; rw [set_same (lt_of_some hM)] at h; injection h with h; subst h; cases hf
    rw [set_other e] at h
    obtain ⟨b0, h1, h2⟩ := hr.fix i bx0 h hf
    exact ⟨b0, h1, h2.mono ext rfl⟩
  · by_cases e : id = i
    · subst e
      obtain ⟨b, vs, t, g1, g2, _⟩ := hr.arr id sz ver xs hM
      rw [hji] at g1; injection g1 with g1; subst g1
      exact ⟨vs, t, g2⟩
    · rw [set_other e] at h
      exact hr.tick i sz0 n0 b0 h hji
  · have e : id ≠ i := by rintro rfl; rw [set_same (lt_of_some hM)] at h; cases h
    rw [set_other e] at h
    exact arr_keep hr ext h rfl fun b0 h1 => rfl
end
theorem arr_slice {w : World} {saf saf' : Nat → Nat → Prop} {b lo hi sz cap : Nat} {vs : Array Value} {t : TypeId} {xs : List AVal} (hw : w.heap[b]? = some (.cells vs t (0, 0))) (hwid : ∀ x, x ∈ xs → x.cells.length = sz)
    (hc : ∀ (q : Nat) (x : AVal) (k : Nat) (c : AVal), xs[q]? = some x → x.cells[k]? = some c → ∃ v, vs[q * sz + k]? = some v ∧ RepP w saf c v) (hm : ∀ b off, saf b off → saf' b off) (hs : ∀ off, off < xs.length * sz → saf' b off)
    (h1 : lo ≤ hi) (h2 : hi ≤ xs.length) (h3 : hi - lo ≤ cap) : RepP w saf' (.slice .sh ((xs.take hi).drop lo)) (.slice (some ⟨b, lo * sz, none⟩) (hi - lo) cap) := by
  have hget : ∀ (i : Nat) (x : AVal), ((xs.take hi).drop lo)[i]? = some x → xs[lo + i]? = some x ∧ lo + i < hi := by
    intro i x h
    rw [List.getElem?_drop] at h
    have hlt : lo + i < hi := by have := lt_of_some h; simp at this; omega
    rw [List.getElem?_take_of_lt hlt] at h
    exact ⟨h, hlt⟩
  have idx : ∀ i k, lo * sz + (i * sz + k) = (lo + i) * sz + k := fun i k => by rw [Nat.add_mul]; omega
  refine .slice _ _ _ _ b (lo * sz) sz (fun p => (vs[lo * sz + p]?).getD undef) (by simp; omega) (by omega) (fun _ => rfl) (fun x hx => hwid x (List.mem_of_mem_take (List.mem_of_mem_drop hx))) (fun i x k c hx hk => ?_) fun i x k c hx hk => ?_
  · obtain ⟨g1, g2⟩ := hget i x hx
    obtain ⟨v, g3, g4⟩ := hc _ x k c g1 hk
    have hk' : k < sz := by rw [← hwid x (List.mem_of_getElem? g1)]; exact lt_of_some hk
    rw [idx]
    refine ⟨by simp [World.cell?, hw, g3], hs _ ?_⟩
    calc (lo + i) * sz + k < (lo + i) * sz + sz := by omega
      _ = (lo + i + 1) * sz := by rw [Nat.add_mul (lo + i) 1]; omega
      _ ≤ xs.length * sz := Nat.mul_le_mul_right _ (by omega)
  · obtain ⟨g1, g2⟩ := hget i x hx
    obtain ⟨v, g3, g4⟩ := hc _ x k c g1 hk
    simp only [idx, g3, Option.getD_some]
    exact g4.mono fun b off h => ⟨hm b off h, rfl⟩
end Go.Abs
namespace Go.Abs
open Go Go.RowKit
def SoundCall (P : Program) (f : Nat) (args : List AVal) (M : AMem) (x : AVal × AMem) : Prop :=
  ∀ (j : J) (w : World) (vs : Array Value), Rel j M w → args.length = vs.size → (∀ (i : Nat) (c : AVal) (v : Value), args[i]? = some c → vs[i]? = some v → Rep j M w c v) →
    Calls P f vs w fun e w' => ∃ v j', e = .returned v ∧ Rel j' x.2 w' ∧ Ext j M w j' x.2 w' ∧ Rep j' x.2 w' x.1 v
def SoundC (P : Program) (C : CallF) : Prop := ∀ f a M x, C f a M = some x → enterable P f = true ∧ SoundCall P f a M x
def OpOk (j : J) (M : AMem) (w : World) (x : AVal × AMem) (v : Value) (w' : World) : Prop := ∃ j', Rel j' x.2 w' ∧ Ext j M w j' x.2 w' ∧ Rep j' x.2 w' x.1 v
section
variable {j : J} {M : AMem} {w : World} {P : Program}
theorem OpOk.still {v : Value} {y : AVal} (hr : Rel j M w) (h : Rep j M w y v) : OpOk j M w (y, M) v w := ⟨j, hr, Ext.refl j M w, h⟩
theorem absV_rep {v : Value} {x : AVal} (h : absV v = some x) : Rep j M w x v := by
  unfold absV at h
  split at h <;> first
    | (injection h with h; subst h; first | exact .plain (.bool _) | exact .plain (.int _ _) | exact .plain (.str _) | exact .plain (.raw _ rfl) | exact .c0 _)
    | cases h
theorem absL_rep : ∀ {vs : List Value} {l : List AVal}, absL vs = some l → l.length = vs.length ∧ ∀ (i : Nat) (c : AVal) (v : Value), l[i]? = some c → vs[i]? = some v → Rep j M w c v
  | [], l, h => by
    simp [absL] at h; subst h
    exact ⟨rfl, fun i c v h => by simp at h⟩
  | v :: r, l, h => by
    simp only [absL] at h
    rw [Option.bind_eq_some_iff] at h
    obtain ⟨x, hx, h⟩ := h
    rw [Option.bind_eq_some_iff] at h
    obtain ⟨l', hl, h⟩ := h
    injection h with h; subst h
    obtain ⟨h1, h2⟩ := absL_rep hl
    refine ⟨by simp [h1], fun i c u hc hu => ?_⟩
    cases i with
    | zero => simp at hc hu; subst hc; subst hu; exact absV_rep hx
    | succ i => exact h2 i c u (by simpa using hc) (by simpa using hu)
theorem absT_rep {v : Value} {x : AVal} (h : absT v = some x) : Rep j M w x v := by
  unfold absT at h
  split at h
  · rename_i vs
    rw [Option.bind_eq_some_iff] at h
    obtain ⟨l, hl, h⟩ := h
    injection h with h; subst h
    obtain ⟨h1, h2⟩ := absL_rep (j := j) (M := M) (w := w) hl
    exact .agg (by simpa using h1) fun i c v hc hv => h2 i c v hc (by simpa using hv)
  · exact absV_rep h
theorem opd_rep {env : Env} {a : Act} (he : EnvRep j M w env a) {x : Operand} {y : Opd} (h : cOpd x = some y) : Rep j M w (y.ev env) (a.eval x) := by
  unfold cOpd at h
  split at h
  · injection h with h; subst h; exact he _
  · rw [Option.bind_eq_some_iff] at h
    obtain ⟨z, hz, h⟩ := h
    injection h with h; subst h
    exact absT_rep hz
  · injection h with h; subst h
    exact .func (by simp) fun i c v hc => by simp at hc
  · cases h
theorem opds_rep {env : Env} {a : Act} (he : EnvRep j M w env a) : ∀ {xs : List Operand} {ys : List Opd}, cOpds xs = some ys →
    ys.length = xs.length ∧ ∀ (i : Nat) (y : Opd) (x : Operand), ys[i]? = some y → xs[i]? = some x → Rep j M w (y.ev env) (a.eval x)
  | [], ys, h => by
    simp [cOpds] at h; subst h
    exact ⟨rfl, fun i y x h => by simp at h⟩
  | x :: r, ys, h => by
    simp only [cOpds] at h
    rw [Option.bind_eq_some_iff] at h
    obtain ⟨y, hy, h⟩ := h
    rw [Option.bind_eq_some_iff] at h
    obtain ⟨l, hl, h⟩ := h
    injection h with h; subst h
    obtain ⟨h1, h2⟩ := opds_rep he hl
    refine ⟨by simp [h1], fun i y' x' hy' hx' => ?_⟩
    cases i with
    | zero => simp at hy' hx'; subst hy'; subst hx'; exact opd_rep he hy
    | succ i => exact h2 i y' x' (by simpa using hy') (by simpa using hx')
theorem Rep.bool_inv {b : Bool} {v : Value} (h : Rep j M w (.bool b) v) : v = .bool b := by cases h with | plain h => cases h; rfl
theorem Rep.int_inv {k : IntKind} {n : Int} {v : Value} (h : Rep j M w (.int k n) v) : v = .int k n := by cases h with | plain h => cases h; rfl
theorem Rep.str_inv {s : List UInt8} {v : Value} (h : Rep j M w (.str s) v) : v = .string (bs s) := by cases h with | plain h => cases h; rfl
theorem Rep.agg_inv {cs : List AVal} {v : Value} (h : Rep j M w (.agg cs) v) : ∃ vs, v = .agg vs ∧ cs.length = vs.size ∧ ∀ (i : Nat) (c : AVal) (u : Value), cs[i]? = some c → vs[i]? = some u → Rep j M w c u := by
  cases h with
  | plain h => cases h
  | agg hl h => exact ⟨_, rfl, hl, h⟩
theorem Rep.tuple_inv {cs : List AVal} {v : Value} (h : Rep j M w (.tuple cs) v) : ∃ vs, v = .tuple vs ∧ cs.length = vs.size ∧ ∀ (i : Nat) (c : AVal) (u : Value), cs[i]? = some c → vs[i]? = some u → Rep j M w c u := by
  cases h with
  | plain h => cases h
  | tuple hl h => exact ⟨_, rfl, hl, h⟩
theorem Rep.func_inv {f : Nat} {cs : List AVal} {v : Value} (h : Rep j M w (.func f cs) v) : ∃ vs, v = .func (.func f) #[] vs ∧ cs.length = vs.size ∧ ∀ (i : Nat) (c : AVal) (u : Value), cs[i]? = some c → vs[i]? = some u → Rep j M w c u := by
  cases h with
  | plain h => cases h
  | func hl h => exact ⟨_, rfl, hl, h⟩
theorem Rep.ptr_inv {id off : Nat} {v : Value} (h : Rep j M w (.ptr id off) v) : ∃ b, id < M.length ∧ (∃ cs, M[id]? = some (.cells cs)) ∧ j id = some b ∧ v = .pointer (some ⟨b, off, none⟩) := by
  cases h with
  | plain h => cases h
  | ptr h1 h2 h3 => exact ⟨_, h1, h2, h3, rfl⟩
theorem Rep.mref_inv {id : Nat} {v : Value} (h : Rep j M w (.mref id) v) : ∃ b, (∃ ks vs, M[id]? = some (.map ks vs)) ∧ j id = some b ∧ v = .map (some b) := by
  cases h with
  | plain h => cases h
  | mref h1 h2 => exact ⟨_, h1, h2, rfl⟩
theorem Rep.iref_inv {id : Nat} {v : Value} (h : Rep j M w (.iref id) v) : ∃ b, (∃ s p, M[id]? = some (.siter s p)) ∧ j id = some b ∧ v = .pointer (some ⟨b, 0, none⟩) := by
  cases h with
  | plain h => cases h
  | iref h1 h2 => exact ⟨_, h1, h2, rfl⟩
theorem Rep.fmap_inv {ks vs : List AVal} {v : Value} (h : Rep j M w (.fmap ks vs) v) : ∃ (b : Nat) (es : Array MapEntry) (clock : Nat), v = .map (some b) ∧ w.heap[b]? = some (.map es clock) ∧ ks.length = es.size ∧ vs.length = es.size ∧
    (∀ (i : Nat) (k : AVal) (e : MapEntry), ks[i]? = some k → es[i]? = some e → RepP w (Saf j M w) k e.key) ∧ ∀ (i : Nat) (v : AVal) (e : MapEntry), vs[i]? = some v → es[i]? = some e → RepD w (Saf j M w) v e.val := by
  cases h with
  | plain h => cases h
  | fmap hb hf hx hw hk hv hks hvs => exact ⟨_, _, _, rfl, hw, hk, hv, hks, hvs⟩
theorem Rep.aref_inv {id ver sz lo hi : Nat} {v : Value} (h : Rep j M w (.aref id ver sz lo hi) v) : (∃ b off c, v = .slice (some ⟨b, off, none⟩) (hi - lo) c ∧ hi - lo ≤ c) ∧ id < M.length ∧ (∀ bx, M[id]? = some bx → bx.fixed = false) ∧
    ∀ sz' v' xs, M[id]? = some (.arr sz' v' xs) → ver ≤ v' ∧ (v' = ver → sz' = sz ∧ lo ≤ hi ∧ hi ≤ xs.length ∧ ∃ b cap vs t, j id = some b ∧ v = .slice (some ⟨b, lo * sz, none⟩) (hi - lo) cap ∧ hi - lo ≤ cap ∧ w.heap[b]? = some (.cells vs t (0, 0)) ∧ (lo + cap) * sz ≤ vs.size) := by
  cases h with
  | plain h => cases h
  | aref h0 h1 h2 h3 => exact ⟨h0, h1, h2, h3⟩
theorem Rep.eptr_inv {id ver i off : Nat} {v : Value} (h : Rep j M w (.eptr id ver i off) v) : (∃ b o, v = .pointer (some ⟨b, o, none⟩)) ∧ id < M.length ∧ (∀ bx, M[id]? = some bx → bx.fixed = false) ∧
    ∀ sz v' xs, M[id]? = some (.arr sz v' xs) → ver ≤ v' ∧ (v' = ver → i < xs.length ∧ ∃ b, j id = some b ∧ v = .pointer (some ⟨b, i * sz + off, none⟩)) := by
  cases h with
  | plain h => cases h
  | eptr h0 h1 h2 h3 => exact ⟨h0, h1, h2, h3⟩
theorem Rep.rptr_inv {cs : List AVal} {v : Value} (h : Rep j M w (.rptr cs) v) : ∃ (b off : Nat) (vs : Nat → Value), v = .pointer (some ⟨b, off, none⟩) ∧
    ∀ (k : Nat) (c : AVal), cs[k]? = some c → w.cell? ⟨b, off + k, none⟩ = some (vs k) ∧ Saf j M w b (off + k) ∧ RepP w (Saf j M w) c (vs k) := by
  cases h with
  | plain h => cases h
  | @rptr _ b off vs h => exact ⟨b, off, vs, rfl, h⟩
theorem RepP.nil (saf : Nat → Nat → Prop) (A : Option Addr) (cap : Nat) : RepP w saf (.slice .sh []) (.slice A 0 cap) :=
  .slice [] A 0 cap 0 0 0 (fun _ => undef) rfl (Nat.zero_le _) (fun h => absurd rfl h) (fun x h => by simp at h) (fun i x k c h => by simp at h) (fun i x k c h => by simp at h)
theorem Rep.slice_inv {tk : Tk} {xs : List AVal} {v : Value} (h : Rep j M w (.slice tk xs) v) : RepP w (Saf j M w) (.slice .sh xs) v := by
  cases h with
  | plain h => cases h with | slice => exact .slice _ _ _ _ _ _ _ _ (by assumption) (by assumption) (by assumption) (by assumption) (by assumption) (by assumption)
  | c0 A => exact RepP.nil _ _ _
  | own _ _ h _ => exact h
theorem RepP.slice_inv {saf : Nat → Nat → Prop} {xs : List AVal} {v : Value} (h : RepP w saf (.slice .sh xs) v) : ∃ (A : Option Addr) (cap b off sz : Nat) (vs : Nat → Value), v = .slice A xs.length cap ∧ xs.length ≤ cap ∧ (xs ≠ [] → A = some ⟨b, off, none⟩) ∧
    (∀ x, x ∈ xs → x.cells.length = sz) ∧ (∀ (i : Nat) (x : AVal) (k : Nat) (c : AVal), xs[i]? = some x → x.cells[k]? = some c → w.cell? ⟨b, off + (i * sz + k), none⟩ = some (vs (i * sz + k)) ∧ saf b (off + (i * sz + k))) ∧
    (∀ (i : Nat) (x : AVal) (k : Nat) (c : AVal), xs[i]? = some x → x.cells[k]? = some c → RepP w saf c (vs (i * sz + k))) := by
  cases h with
  | slice _ A len cap b off sz vs hl hc ha hz hs hr => subst hl; exact ⟨A, cap, b, off, sz, vs, rfl, hc, ha, hz, hs, hr⟩
end
end Go.Abs
namespace Go.Abs
open Go Go.RowKit
def Ran (P : Program) (o : Oper) (a : Act) (w : World) (v : Value) (w' : World) : Prop :=
  (execOp a.eval o).run P w = .ok (.value v) w' ∨ ((execOp a.eval o).run P w = .ok .skip w' ∧ v = undef)
theorem bind_inv {α β : Type} {x : Option α} {f : α → Option β} {y : β} (h : x.bind f = some y) : ∃ a, x = some a ∧ f a = some y := by
  cases x with
  | none => cases h
  | some a => exact ⟨a, rfl, h⟩
section
variable {P : Program} {C : CallF} {o : Oper} {env : Env} {M : AMem} {j : J} {w : World} {a : Act} {x : AVal × AMem}
theorem run_und {t : TypeId} {d : TypeDesc} (h : P.underlying t = some d) : (underlying t).run P w = .ok d w := by simp [underlying, h]
theorem run_info {t : TypeId} {i : TypeInfo} (h : P.info? t = some i) : (typeInfo t).run P w = .ok i w := by simp [typeInfo, h]
theorem szOf_inv {t : TypeId} {n : Nat} (h : szOf P t = some n) : ∃ i, P.info? t = some i ∧ i.size = n := by
  obtain ⟨i, h1, h2⟩ := bind_inv h
  exact ⟨i, h1, by injection h2⟩
theorem run_size {t : TypeId} {n : Nat} (h : szOf P t = some n) : (sizeOf t).run P w = .ok n w := by
  obtain ⟨i, h1, h2⟩ := szOf_inv h
  simp [sizeOf, run_info h1, h2]
theorem run_isAgg {t : TypeId} {g : Bool} (h : aggQ P t = some g) : (isAgg t).run P w = .ok g w := by
  obtain ⟨d, h1, h2⟩ := bind_inv h
  injection h2 with h2
  subst h2
  simp only [isAgg, Sem.run_bind, run_und h1, Result.andThen_ok]
  cases d <;> rfl
theorem addr_add (b off n : Nat) : (⟨b, off, none⟩ : Addr).add n = ⟨b, off + n, none⟩ := by
  unfold Addr.add; split <;> simp_all
theorem op_move (hr : Rel j M w) (he : EnvRep j M w env a) {y : Operand} {z : Opd} (hop : o.op = .move y ∨ o.op = .assign y) (hz : cOpd y = some z) (h : aop C env M (.mv z) = some x) :
    ∃ v w', Ran P o a w v w' ∧ OpOk j M w x v w' := by
  simp only [aop] at h; injection h with h; subst h
  exact ⟨a.eval y, w, .inl (by rcases hop with hop | hop <;> simp [execOp, hop]), .still hr (opd_rep he hz)⟩
theorem op_pick (hr : Rel j M w) (he : EnvRep j M w env a) {c p q : Operand} {c' p' q' : Opd} (hop : o.op = .pick c p q) (hc : cOpd c = some c') (hp : cOpd p = some p') (hq : cOpd q = some q')
    (h : aop C env M (.pick c' p' q') = some x) : ∃ v w', Ran P o a w v w' ∧ OpOk j M w x v w' := by
  simp only [aop] at h
  have h1 := opd_rep he hc
  split at h
  · rename_i t ht
    rw [ht] at h1
    have h1 := h1.bool_inv
    rcases oif_inv h with ⟨rfl, h⟩ | ⟨rfl, h⟩ <;> (injection h with h; subst h)
    · exact ⟨a.eval p, w, .inl (by simp [execOp, hop, asBool, h1]), .still hr (opd_rep he hp)⟩
    · exact ⟨a.eval q, w, .inl (by simp [execOp, hop, asBool, h1]), .still hr (opd_rep he hq)⟩
  · cases h
theorem op_chk (hr : Rel j M w) (he : EnvRep j M w env a) {y : Operand} {z : Opd} (hop : o.op = .nilCheck y) (hz : cOpd y = some z) (h : aop C env M (.chk z) = some x) :
    ∃ v w', Ran P o a w v w' ∧ OpOk j M w x v w' := by
  simp only [aop] at h
  have h1 := opd_rep he hz
  split at h
  · rename_i id off e
    injection h with h; subst h
    rw [e] at h1
    obtain ⟨b, _, _, _, hv⟩ := h1.ptr_inv
    exact ⟨_, w, .inl (by simp only [execOp, hop, hv]; rfl), .still hr (hv ▸ h1)⟩
  · rename_i cs e
    injection h with h; subst h
    rw [e] at h1
    obtain ⟨b, off, vs, hv, _⟩ := h1.rptr_inv
    exact ⟨_, w, .inl (by simp only [execOp, hop, hv]; rfl), .still hr (hv ▸ h1)⟩
  · rename_i f caps e
    injection h with h; subst h
    rw [e] at h1
    obtain ⟨vs, hv, _⟩ := h1.func_inv
    exact ⟨_, w, .inl (by simp only [execOp, hop, hv]; rfl), .still hr (hv ▸ h1)⟩
  · rename_i id v0 i off e
    injection h with h; subst h
    rw [e] at h1
    obtain ⟨⟨b, q, hv⟩, _⟩ := h1.eptr_inv
    exact ⟨_, w, .inl (by simp only [execOp, hop, hv]; rfl), .still hr (hv ▸ h1)⟩
  · cases h
theorem op_not (hr : Rel j M w) (he : EnvRep j M w env a) {y : Operand} {z : Opd} {t : TypeId} (hop : o.op = .unOp .not t y) (hz : cOpd y = some z) (h : aop C env M (.not z) = some x) :
    ∃ v w', Ran P o a w v w' ∧ OpOk j M w x v w' := by
  simp only [aop] at h
  have h1 := opd_rep he hz
  split at h
  · rename_i b e
    injection h with h; subst h
    rw [e] at h1
    exact ⟨_, w, .inl (by simp only [execOp, hop, h1.bool_inv]; rfl), .still hr (.plain (.bool _))⟩
  · cases h
theorem op_neg (hr : Rel j M w) (he : EnvRep j M w env a) {y : Operand} {z : Opd} {t : TypeId} (hop : o.op = .unOp .neg t y) (hz : cOpd y = some z) (h : aop C env M (.neg z) = some x) :
    ∃ v w', Ran P o a w v w' ∧ OpOk j M w x v w' := by
  simp only [aop] at h
  have h1 := opd_rep he hz
  split at h
  · rename_i k n e
    injection h with h; subst h
    rw [e] at h1
    exact ⟨_, w, .inl (by simp only [execOp, hop, h1.int_inv]; rfl), .still hr (.plain (.int _ _))⟩
  · cases h
theorem op_conv (hr : Rel j M w) (he : EnvRep j M w env a) {y : Operand} {z : Opd} {s d : TypeId} {k0 k : IntKind} (hop : o.op = .convert s d y) (hs : P.underlying s = some (.int k0)) (hd : P.underlying d = some (.int k))
    (hz : cOpd y = some z) (h : aop C env M (.conv k z) = some x) : ∃ v w', Ran P o a w v w' ∧ OpOk j M w x v w' := by
  simp only [aop] at h
  have h1 := opd_rep he hz
  split at h
  · rename_i k1 n e
    injection h with h; subst h
    rw [e] at h1
    refine ⟨.int k (k.wrap n), w, .inl ?_, .still hr (.plain (.int _ _))⟩
    simp [execOp, hop, convert, run_und hs, run_und hd, h1.int_inv, Conv.intToInt]
  · cases h
theorem op_same (hr : Rel j M w) (he : EnvRep j M w env a) {y : Operand} {z : Opd} {s d : TypeId} (hop : o.op = .convert s d y) (hs : P.underlying s = some .string) (hd : P.underlying d = some .string)
    (hz : cOpd y = some z) (h : aop C env M (.same z) = some x) : ∃ v w', Ran P o a w v w' ∧ OpOk j M w x v w' := by
  simp only [aop] at h
  have h1 := opd_rep he hz
  split at h
  · rename_i l e
    injection h with h; subst h
    rw [e] at h1
    refine ⟨.string (bs l), w, .inl ?_, .still hr (.plain (.str _))⟩
    simp [execOp, hop, convert, run_und hs, run_und hd, h1.str_inv]
  · cases h
theorem op_fn (hr : Rel j M w) (he : EnvRep j M w env a) {f : Nat} {first caps : Array Operand} {zs : List Opd} (hop : o.op = .makeFunc (.func f) first caps) (hf : first.isEmpty = true) (hz : cOpds caps.toList = some zs)
    (h : aop C env M (.fn f zs) = some x) : ∃ v w', Ran P o a w v w' ∧ OpOk j M w x v w' := by
  simp only [aop] at h
  injection h with h; subst h
  obtain ⟨h1, h2⟩ := opds_rep he hz
  have hf' : first = #[] := by simpa using hf
  refine ⟨.func (.func f) #[] (caps.map a.eval), w, .inl ?_, .still hr (.func (by simpa using h1) fun i c v hc hv => ?_)⟩
  · simp [execOp, hop, Instr.makeFunc, hf']
  · rw [List.getElem?_map, Option.map_eq_some_iff] at hc
    obtain ⟨y, hy, rfl⟩ := hc
    rw [Array.getElem?_map, Option.map_eq_some_iff] at hv
    obtain ⟨z, hz', rfl⟩ := hv
    exact h2 i y z hy (by simpa using hz')
theorem op_extract (hr : Rel j M w) (he : EnvRep j M w env a) {y : Operand} {z : Opd} {i : Nat} (hop : o.op = .extract y i) (hz : cOpd y = some z) (h : aop C env M (.extract z i) = some x) :
    ∃ v w', Ran P o a w v w' ∧ OpOk j M w x v w' := by
  simp only [aop] at h
  have h1 := opd_rep he hz
  split at h
  · rename_i vs e
    obtain ⟨c, hc, h⟩ := obind_inv h
    injection h with h; subst h
    rw [e] at h1
    obtain ⟨us, hv, hl, hu⟩ := h1.tuple_inv
    rw [nth_eq] at hc
    have hi := lt_of_some hc
    have hui : us[i]? = some (us[i]'(by omega)) := Array.getElem?_eq_getElem (by omega)
    exact ⟨_, w, .inl (by simp [execOp, hop, Instr.extract, hv, hui]), .still hr (hu i c _ hc hui)⟩
  · cases h
theorem op_lenS (hr : Rel j M w) (he : EnvRep j M w env a) {c : Call} {y : Operand} {z : Opd} {t : TypeId} (hop : o.op = .call c) (hb : c.callee = .builtin .len) (ha : c.args.toList = [y])
    (ht : c.argTypes[0]? = some t) (hs : P.underlying t = some .string) (hz : cOpd y = some z) (h : aop C env M (.lenS z) = some x) : ∃ v w', Ran P o a w v w' ∧ OpOk j M w x v w' := by
  simp only [aop] at h
  have h1 := opd_rep he hz
  split at h
  · rename_i l e
    injection h with h; subst h
    rw [e] at h1
    have ha' : c.args = #[y] := by rw [← ha]
    refine ⟨.int .i64 l.length, w, .inl ?_, .still hr (.plain (.int _ _))⟩
    have hsz : (bs l).size = l.length := by simp [bs, ByteArray.size]
    simp [execOp, hop, resolve, hb, invoke, builtin, Builtin.len_, ha', ht, run_und hs, h1.str_inv, goInt, hsz]
  · cases h
theorem op_lenV (hr : Rel j M w) (he : EnvRep j M w env a) {c : Call} {y : Operand} {z : Opd} {t e : TypeId} (hop : o.op = .call c) (hb : c.callee = .builtin .len) (ha : c.args.toList = [y])
    (ht : c.argTypes[0]? = some t) (hs : P.underlying t = some (.slice e)) (hz : cOpd y = some z) (h : aop C env M (.lenV z) = some x) : ∃ v w', Ran P o a w v w' ∧ OpOk j M w x v w' := by
  simp only [aop] at h
  have h1 := opd_rep he hz
  split at h
  · rename_i tk l e
    injection h with h; subst h
    rw [e] at h1
    have ha' : c.args = #[y] := by rw [← ha]
    obtain ⟨A, cap, b, off, sz, vs, hv, _⟩ := h1.slice_inv.slice_inv
    refine ⟨.int .i64 l.length, w, .inl ?_, .still hr (.plain (.int _ _))⟩
    simp [execOp, hop, resolve, hb, invoke, builtin, Builtin.len_, ha', ht, run_und hs, hv, goInt]
  · rename_i id v0 sz lo hi e
    injection h with h; subst h
    rw [e] at h1
    have ha' : c.args = #[y] := by rw [← ha]
    obtain ⟨⟨b, off, cap, hv, _⟩, _⟩ := h1.aref_inv
    refine ⟨.int .i64 (hi - lo : Nat), w, .inl ?_, .still hr (.plain (.int _ _))⟩
    simp [execOp, hop, resolve, hb, invoke, builtin, Builtin.len_, ha', ht, run_und hs, hv, goInt]
  · cases h
theorem op_minmax (hr : Rel j M w) (he : EnvRep j M w env a) {c : Call} {y y' : Operand} {z z' : Opd} {mx : Bool} (hop : o.op = .call c) (hb : c.callee = .builtin (if mx then .max else .min)) (ha : c.args.toList = [y, y'])
    (hz : cOpd y = some z) (hz' : cOpd y' = some z') (h : aop C env M (.minmax mx z z') = some x) : ∃ v w', Ran P o a w v w' ∧ OpOk j M w x v w' := by
  simp only [aop] at h
  have h1 := opd_rep he hz
  have h2 := opd_rep he hz'
  split at h
  · rename_i k n k' n' e e'
    injection h with h; subst h
    rw [e] at h1
    rw [e'] at h2
    have ha' : c.args = #[y, y'] := by rw [← ha]
    refine ⟨_, w, .inl ?_, .still hr (.plain (.int _ _))⟩
    cases mx
    · simp [execOp, hop, resolve, hb, invoke, builtin, Builtin.min_, Builtin.min2, ha', h1.int_inv, h2.int_inv, List.foldlM]
    · simp [execOp, hop, resolve, hb, invoke, builtin, Builtin.max_, Builtin.max2, ha', h1.int_inv, h2.int_inv, List.foldlM]
  · cases h
theorem op_indexS (hr : Rel j M w) (he : EnvRep j M w env a) {y i : Operand} {z z' : Opd} {t : TypeId} (hop : o.op = .index t y i) (ht : P.underlying t = some .string) (hz : cOpd y = some z) (hz' : cOpd i = some z')
    (h : aop C env M (.indexS z z') = some x) : ∃ v w', Ran P o a w v w' ∧ OpOk j M w x v w' := by
  simp only [aop] at h
  have h1 := opd_rep he hz
  have h2 := opd_rep he hz'
  split at h
  · rename_i l k n e e'
    obtain ⟨hn, h⟩ := owhen_inv h
    obtain ⟨b, hb, h⟩ := obind_inv h
    injection h with h; subst h
    rw [e] at h1
    rw [e'] at h2
    refine ⟨.int .u8 b.toNat, w, .inl ?_, .still hr (.plain (.int _ _))⟩
    have hg : (bs l)[n.toNat]? = some b := by
      have hlt := lt_of_some hb
      have : n.toNat < (bs l).size := by simp [bs, ByteArray.size]; exact hlt
      rw [getElem?_pos (bs l) n.toNat this]
      congr 1
      have h3 : l[n.toNat] = b := by
        have := List.getElem?_eq_getElem hlt
        rw [hb] at this; injection this with this; exact this.symm
      exact h3
    simp [execOp, hop, Instr.index, asIntOf, run_und ht, h1.str_inv, h2.int_inv, hn, hg]
  · cases h
theorem op_field1 (hr : Rel j M w) (he : EnvRep j M w env a) {y : Operand} {z : Opd} {s : TypeId} {fs : Array Field} {f : Field} {i : Nat} (hop : o.op = .field s y i) (hs : P.underlying s = some (.struct fs)) (hf : fs[i]? = some f)
    (hg : aggQ P f.type = some false) (hz : cOpd y = some z) (h : aop C env M (.field1 f.offset z) = some x) : ∃ v w', Ran P o a w v w' ∧ OpOk j M w x v w' := by
  simp only [aop] at h
  have h1 := opd_rep he hz
  split at h
  · rename_i cs e
    obtain ⟨c, hc, h⟩ := obind_inv h
    injection h with h; subst h
    rw [e] at h1
    obtain ⟨us, hv, hl, hu⟩ := h1.agg_inv
    rw [nth_eq] at hc
    have hi := lt_of_some hc
    have hui : us[f.offset]? = some (us[f.offset]'(by omega)) := Array.getElem?_eq_getElem (by omega)
    refine ⟨_, w, .inl ?_, .still hr (hu _ c _ hc hui)⟩
    simp [execOp, hop, Instr.field, run_und hs, hf, asAgg, hv, part, run_isAgg hg, hui]
  · cases h
theorem op_fieldA (hr : Rel j M w) (he : EnvRep j M w env a) {y : Operand} {z : Opd} {s : TypeId} {fs : Array Field} {f : Field} {i n : Nat} (hop : o.op = .field s y i) (hs : P.underlying s = some (.struct fs)) (hf : fs[i]? = some f)
    (hg : aggQ P f.type = some true) (hn : szOf P f.type = some n) (hz : cOpd y = some z) (h : aop C env M (.fieldA f.offset n z) = some x) : ∃ v w', Ran P o a w v w' ∧ OpOk j M w x v w' := by
  simp only [aop] at h
  have h1 := opd_rep he hz
  split at h
  · rename_i cs e
    split at h
    · rename_i hle
      injection h with h; subst h
      rw [e] at h1
      obtain ⟨us, hv, hl, hu⟩ := h1.agg_inv
      refine ⟨.agg (us.extract f.offset (f.offset + n)), w, .inl ?_, .still hr (.agg (by simp; omega) fun p c u hc hu' => ?_)⟩
      · simp [execOp, hop, Instr.field, run_und hs, hf, asAgg, hv, part, run_isAgg hg, run_size hn]
      · have hp : p < n := by have := lt_of_some hc; simp at this; omega
        rw [List.getElem?_take_of_lt hp, List.getElem?_drop] at hc
        rw [Array.getElem?_extract] at hu'
        split at hu'
        · exact hu _ c u hc hu'
        · cases hu'
    · cases h
  · cases h
theorem op_faddr (hr : Rel j M w) (he : EnvRep j M w env a) {y : Operand} {z : Opd} {s : TypeId} {fs : Array Field} {f : Field} {i : Nat} (hop : o.op = .fieldAddr s y i) (hs : P.underlying s = some (.struct fs)) (hf : fs[i]? = some f)
    {n : Nat} (hn : szOf P f.type = some n) (hpos : 0 < n) (hz : cOpd y = some z) (h : aop C env M (.faddr f.offset z) = some x) : ∃ v w', Ran P o a w v w' ∧ OpOk j M w x v w' := by
  simp only [aop] at h
  have h1 := opd_rep he hz
  have hrun : ∀ b off, a.eval y = .pointer (some ⟨b, off, none⟩) → (execOp a.eval o).run P w = .ok (.value (.pointer (some ⟨b, off + f.offset, none⟩))) w := by
    intro b off hv
    have hne : n ≠ 0 := by omega
    simp [execOp, hop, Instr.fieldAt, run_und hs, hf, Instr.sureAddr, hv, fieldPlace, run_size hn, hne, addr_add]
  split at h
  · rename_i id off e
    injection h with h; subst h
    rw [e] at h1
    obtain ⟨b, h2, h3, h4, hv⟩ := h1.ptr_inv
    exact ⟨_, w, .inl (hrun _ _ hv), .still hr (.ptr h2 h3 h4)⟩
  · rename_i cs e
    injection h with h; subst h
    rw [e] at h1
    obtain ⟨b, off, vs, hv, hc⟩ := h1.rptr_inv
    refine ⟨_, w, .inl (hrun _ _ hv), .still hr (.rptr (vs := fun k => vs (f.offset + k)) fun k c hk => ?_)⟩
    rw [List.getElem?_drop] at hk
    have := hc _ c hk
    rw [Nat.add_assoc]
    exact this
  · rename_i id v0 i0 o0 e
    injection h with h; subst h
    rw [e] at h1
    obtain ⟨⟨b, q, hv⟩, h2, h3, h4⟩ := h1.eptr_inv
    refine ⟨_, w, .inl (hrun _ _ hv), .still hr (.eptr ⟨_, _, rfl⟩ h2 h3 fun sz v' xs hM => ?_)⟩
    obtain ⟨g1, g2⟩ := h4 sz v' xs hM
    refine ⟨g1, fun he => ?_⟩
    obtain ⟨g3, b', g4, g5⟩ := g2 he
    rw [hv] at g5
    injection g5 with g5; injection g5 with g5; injection g5 with e1 e2 e3
    subst e1; subst e2
    exact ⟨g3, _, g4, by rw [Nat.add_assoc]⟩
  · cases h
end
end Go.Abs
namespace Go.Abs
open Go Go.RowKit
theorem bs_loop (l : List UInt8) : ∀ (n i : Nat) (acc : List UInt8), i + n = l.length → ByteArray.toList.loop (bs l) i acc = acc.reverse ++ l.drop i := by
  intro n
  induction n with
  | zero =>
    intro i acc h
    have hs : (bs l).size = l.length := by simp [bs, ByteArray.size]
    rw [ByteArray.toList.loop, if_neg (by omega)]
    simp [show i = l.length by omega]
  | succ n ih =>
    intro i acc h
    have hs : (bs l).size = l.length := by simp [bs, ByteArray.size]
    rw [ByteArray.toList.loop, if_pos (by omega), ih (i + 1) _ (by omega)]
    have hg : (bs l).get! i = l[i]'(by omega) := by
      have hi : i < l.length := by omega
      simp [bs, ByteArray.get!, hi]
    rw [hg, List.reverse_cons, List.append_assoc, List.singleton_append, ← List.drop_eq_getElem_cons]
theorem bs_toList (l : List UInt8) : (bs l).toList = l := by
  rw [ByteArray.toList, bs_loop l l.length 0 [] (by omega)]; simp
theorem bs_size (l : List UInt8) : (bs l).size = l.length := by simp [bs, ByteArray.size]
theorem strLt_eq : ∀ a b : List UInt8, Op.bytesLess a b = strLt a b
  | [], [] => rfl
  | [], _ :: _ => rfl
  | _ :: _, [] => rfl
  | a :: x, b :: y => by simp [Op.bytesLess, strLt, strLt_eq x y]
theorem bs_append (a b : List UInt8) : bs a ++ bs b = bs (a ++ b) := by
  apply ByteArray.ext
  simp [bs, ByteArray.data_append]
theorem bs_extract (a : List UInt8) (l h : Nat) : (bs a).extract l h = bs ((a.take h).drop l) := by
  apply ByteArray.ext
  simp [bs, ByteArray.data_extract, List.drop_take]
section
variable {P : Program} {C : CallF} {o : Oper} {env : Env} {M : AMem} {j : J} {w : World} {a : Act} {x : AVal × AMem}
theorem guard_int (op : BinOp) (t : TypeId) (y z : Operand) (k k' : IntKind) (m n : Int) : (eqGuard op t y z (.int k m) (.int k' n)).run P w = .ok () w := by
  unfold eqGuard; cases op <;> simp
theorem guard_str (op : BinOp) (t : TypeId) (y z : Operand) (m n : ByteArray) : (eqGuard op t y z (.string m) (.string n)).run P w = .ok () w := by
  unfold eqGuard; cases op <;> simp
theorem guard_bool (op : BinOp) (t : TypeId) (y z : Operand) (m n : Bool) : (eqGuard op t y z (.bool m) (.bool n)).run P w = .ok () w := by
  unfold eqGuard; cases op <;> simp
theorem bin_int {op : BinOp} {b : ABin} (hb : cBin op = some b) {t : TypeId} {k k' : IntKind} {m n : Int} {r : AVal} (h : abin b (.int k m) (.int k' n) = some r) :
    ∃ v, (binOp op t (.int k m) (.int k' n)).run P w = .ok v w ∧ RepP w (Saf j M w) r v := by
  cases op <;> simp only [cBin, reduceCtorEq, Option.some.injEq] at hb <;> subst hb <;> simp only [abin] at h
  case shl =>
    split at h
    · rename_i hn
      injection h with h; subst h
      exact ⟨_, by simp [binOp, Op.shift, Int.not_lt.2 hn], .int _ _⟩
    · cases h
  case shr =>
    split at h
    · rename_i hn
      injection h with h; subst h
      exact ⟨_, by simp [binOp, Op.shift, Int.not_lt.2 hn], .int _ _⟩
    · cases h
  case quo =>
    split at h
    · cases h
    · rename_i hk
      split at h
      · cases h
      · rename_i hn
        injection h with h; subst h
        have hk : k = k' := by simpa using hk
        subst hk
        exact ⟨_, by simp [binOp, Op.intDiv, hn], .int _ _⟩
  case rem =>
    split at h
    · cases h
    · rename_i hk
      split at h
      · cases h
      · rename_i hn
        injection h with h; subst h
        have hk : k = k' := by simpa using hk
        subst hk
        exact ⟨_, by simp [binOp, Op.intDiv, hn], .int _ _⟩
  all_goals
    split at h
    · cases h
    · rename_i hk
      injection h with h; subst h
      have hk : k = k' := by simpa using hk
      subst hk
      first
        | exact ⟨_, by simp [binOp, Op.intArith], .int _ _⟩
        | exact ⟨_, by simp [binOp, Op.intCmp], .bool _⟩
theorem bin_str {op : BinOp} {b : ABin} (hb : cBin op = some b) {t : TypeId} {m n : List UInt8} {r : AVal} (h : abin b (.str m) (.str n) = some r) :
    ∃ v, (binOp op t (.string (bs m)) (.string (bs n))).run P w = .ok v w ∧ RepP w (Saf j M w) r v := by
  cases op <;> simp only [cBin, reduceCtorEq, Option.some.injEq] at hb <;> subst hb <;> simp only [abin, reduceCtorEq] at h
  case add =>
    split at h
    · cases h
    · rename_i hn
      injection h with h; subst h
      refine ⟨.string (bs m ++ bs n), ?_, by rw [bs_append]; exact .str _⟩
      simp only [binOp, Op.stringOp, bs_size]
      rw [if_neg hn]
      rfl
  all_goals
    injection h with h; subst h
    exact ⟨_, by simp only [binOp, Op.stringOp, bs_toList, strLt_eq]; rfl, .bool _⟩
theorem op_bin (hr : Rel j M w) (he : EnvRep j M w env a) {op : BinOp} {b : ABin} {y y' : Operand} {z z' : Opd} {t t' : TypeId} (hop : o.op = .binOp op t y y' t') (hb : cBin op = some b) (hz : cOpd y = some z) (hz' : cOpd y' = some z')
    (h : aop C env M (.bin b z z') = some x) : ∃ v w', Ran P o a w v w' ∧ OpOk j M w x v w' := by
  simp only [aop] at h
  have h1 := opd_rep he hz
  have h2 := opd_rep he hz'
  obtain ⟨r, hr', h⟩ := obind_inv h
  injection h with h; subst h
  generalize hu : z.ev env = u at *
  generalize hu' : z'.ev env = u' at *
  cases u <;> cases u' <;> try (simp [abin] at hr'; done)
  · rename_i k m k' n
    obtain ⟨v, hv, hp⟩ := bin_int (P := P) (w := w) (j := j) (M := M) (t := t) hb hr'
    exact ⟨v, w, .inl (by simp [execOp, hop, h1.int_inv, h2.int_inv, guard_int, hv]), .still hr (.plain hp)⟩
  · rename_i m n
    obtain ⟨v, hv, hp⟩ := bin_str (P := P) (w := w) (j := j) (M := M) (t := t) hb hr'
    exact ⟨v, w, .inl (by simp [execOp, hop, h1.str_inv, h2.str_inv, guard_str, hv]), .still hr (.plain hp)⟩
theorem op_eqB (hr : Rel j M w) (he : EnvRep j M w env a) {neg : Bool} {y y' : Operand} {z z' : Opd} {t t' : TypeId} (hop : o.op = .binOp (if neg then .neq else .eql) t y y' t') (ht : P.underlying t = some .bool)
    (hz : cOpd y = some z) (hz' : cOpd y' = some z') (h : aop C env M (.eqB neg z z') = some x) : ∃ v w', Ran P o a w v w' ∧ OpOk j M w x v w' := by
  simp only [aop] at h
  have h1 := opd_rep he hz
  have h2 := opd_rep he hz'
  split at h
  · rename_i m n e e'
    injection h with h; subst h
    rw [e] at h1
    rw [e'] at h2
    have heq : (Op.equal t (.bool m) (.bool n)).run P w = .ok (m == n) w := by
      unfold Op.equal
      rw [show Op.maxDepth = 9999 + 1 from rfl, Op.equalIn]
      simp [run_und ht]
    cases neg
    · exact ⟨.bool (m == n), w, .inl (by simp [execOp, hop, h1.bool_inv, h2.bool_inv, guard_bool, binOp, heq]), .still hr (.plain (.bool _))⟩
    · exact ⟨.bool (!(m == n)), w, .inl (by simp [execOp, hop, h1.bool_inv, h2.bool_inv, guard_bool, binOp, heq]), .still hr (.plain (.bool _))⟩
  · cases h
theorem bound_run {env : Env} {a : Act} (he : EnvRep j M w env a) {y : Operand} {z : Opd} (hz : cOpd y = some z) {n : Nat} {i : Int} (h : boundOf env n (some z) = some i) {m : Nat} (h0 : 0 ≤ i) (h1 : i ≤ m) (code : BoundsCode) :
    (Instr.sliceBound (a.eval y) m code).run P w = .ok i.toNat w := by
  unfold boundOf at h
  have h2 := opd_rep he hz
  simp only at h
  split at h
  · rename_i k i' e
    injection h with h; subst h
    rw [e] at h2
    simp [Instr.sliceBound, h2.int_inv, asIntOf, h0, h1]
  · cases h
theorem cOpt_inv {y : Option Operand} {z : Option Opd} (h : cOpt y = some z) : (y = none ∧ z = none) ∨ ∃ y' z', y = some y' ∧ z = some z' ∧ cOpd y' = some z' := by
  cases y with
  | none => simp [cOpt] at h; exact .inl ⟨rfl, h.symm⟩
  | some y =>
    simp only [cOpt] at h
    obtain ⟨z', h1, h2⟩ := bind_inv h
    injection h2 with h2
    exact .inr ⟨y, z', rfl, h2.symm, h1⟩
theorem bounds_run {env : Env} {a : Act} (he : EnvRep j M w env a) {lo hi : Option Operand} {lo' hi' : Option Opd} (hlo : cOpt lo = some lo') (hhi : cOpt hi = some hi') {len cap : Nat} {l h : Int}
    (h1 : boundOf env len hi' = some h) (h2 : boundOf env 0 lo' = some l) (hh0 : 0 ≤ h) (hh : h ≤ len) (hl0 : 0 ≤ l) (hl : l ≤ h) (hc : len ≤ cap) (isS : Bool) :
    (Instr.sliceBounds isS len cap (lo.map a.eval) (hi.map a.eval) none).run P w = .ok (l.toNat, h.toNat, cap) w := by
  unfold Instr.sliceBounds
  have hhn : ((h.toNat : Nat) : Int) = h := Int.toNat_of_nonneg hh0
  rcases cOpt_inv hhi with ⟨rfl, rfl⟩ | ⟨y, z, rfl, rfl, hz⟩ <;> rcases cOpt_inv hlo with ⟨rfl, rfl⟩ | ⟨y', z', rfl, rfl, hz'⟩
  · simp [boundOf] at h1 h2; subst h1; subst h2; simp
  · simp [boundOf] at h1; subst h1
    have := bound_run (P := P) he hz' h2 hl0 (m := len) (by omega) .sliceB
    simp [this]
  · simp [boundOf] at h2; subst h2
    have := bound_run (P := P) he hz h1 hh0 (m := cap) (by omega) (if isS then .sliceAcap else .sliceAlen)
    simp [this]
  · have t1 := bound_run (P := P) he hz h1 hh0 (m := cap) (by omega) (if isS then .sliceAcap else .sliceAlen)
    have t2 := bound_run (P := P) he hz' h2 hl0 (m := h.toNat) (by omega) .sliceB
    simp [t1, t2]
theorem op_sliceS (hr : Rel j M w) (he : EnvRep j M w env a) {y : Operand} {lo hi : Option Operand} {z : Opd} {lo' hi' : Option Opd} {t : TypeId} (hop : o.op = .slice t y lo hi none) (ht : P.underlying t = some .string)
    (hz : cOpd y = some z) (hlo : cOpt lo = some lo') (hhi : cOpt hi = some hi') (h : aop C env M (.sliceS z lo' hi') = some x) : ∃ v w', Ran P o a w v w' ∧ OpOk j M w x v w' := by
  simp only [aop] at h
  have h1 := opd_rep he hz
  split at h
  · rename_i s e
    obtain ⟨hh, h2, h⟩ := obind_inv h
    obtain ⟨l, h3, h⟩ := obind_inv h
    obtain ⟨⟨c1, c2, c3, c4⟩, h⟩ := owhen_inv h
    injection h with h; subst h
    rw [e] at h1
    have hb := bounds_run (P := P) he hlo hhi (cap := s.length) h2 h3 c1 c2 c3 c4 (Nat.le_refl _) false
    refine ⟨.string (bs ((s.take hh.toNat).drop l.toNat)), w, .inl ?_, .still hr (.plain (.str _))⟩
    simp [execOp, hop, Instr.sliceAt, run_und ht, Instr.slice, h1.str_inv, bs_size, hb, bs_extract]
  · cases h
theorem RepP.part {saf : Nat → Nat → Prop} {xs : List AVal} {A : Option Addr} {cap m l h n : Nat} (hx : RepP w saf (.slice .sh xs) (.slice A xs.length cap)) (hw : wid xs n) (hl : l ≤ h) (hh : h ≤ xs.length) (hm : h ≤ m) :
    RepP w saf (.slice .sh ((xs.take h).drop l)) (.slice (if m = l then A else A.map (·.add (l * n))) (h - l) (m - l)) := by
  obtain ⟨A', cap', b, off, sz, vs, hv, hc, ha, hz, hs, hrp⟩ := hx.slice_inv
  injection hv with e1 e2 e3
  subst e1; subst e3
  have hlen : ((xs.take h).drop l).length = h - l := by simp; omega
  have el : ∀ i x, ((xs.take h).drop l)[i]? = some x → xs[l + i]? = some x ∧ i < h - l := by
    intro i x hi
    have hlt := lt_of_some hi
    rw [hlen] at hlt
    rw [List.getElem?_drop, List.getElem?_take_of_lt (by omega)] at hi
    exact ⟨hi, hlt⟩
  refine .slice _ _ _ _ b (off + l * sz) sz (fun p => vs (l * sz + p)) hlen.symm (by omega) (fun hne => ?_) (fun x hx => hz x (List.mem_of_mem_take (List.mem_of_mem_drop hx))) (fun i x k c hi hk => ?_) (fun i x k c hi hk => ?_)
  · have : 0 < h - l := by
      rw [← hlen]; exact List.length_pos_iff.2 hne
    rw [if_neg (by omega)]
    have hne' : xs ≠ [] := by rintro rfl; simp at hne
    rw [ha hne']
    have : n = sz := by
      obtain ⟨x, r, rfl⟩ := List.exists_cons_of_ne_nil hne'
      rw [← hw x (by simp), hz x (by simp)]
    simp [addr_add, this]
  · obtain ⟨h1, _⟩ := el i x hi
    have := hs (l + i) x k c h1 hk
    rw [show (l + i) * sz + k = l * sz + (i * sz + k) by rw [Nat.add_mul]; omega] at this
    rw [show off + l * sz + (i * sz + k) = off + (l * sz + (i * sz + k)) by omega]
    exact this
  · obtain ⟨h1, _⟩ := el i x hi
    have := hrp (l + i) x k c h1 hk
    rw [show (l + i) * sz + k = l * sz + (i * sz + k) by rw [Nat.add_mul]; omega] at this
    exact this
theorem op_sliceV (hr : Rel j M w) (he : EnvRep j M w env a) {y : Operand} {lo hi mx : Option Operand} {z : Opd} {lo' hi' mx' : Option Opd} {t e : TypeId} {n : Nat} (hop : o.op = .slice t y lo hi mx) (ht : P.underlying t = some (.slice e))
    (hn : szOf P e = some n) (hz : cOpd y = some z) (hlo : cOpt lo = some lo') (hhi : cOpt hi = some hi') (hmx : cOpt mx = some mx') (hmh : mx'.isNone = true ∨ hi'.isSome = true)
    (h : aop C env M (.sliceV n z lo' hi' mx') = some x) : ∃ v w', Ran P o a w v w' ∧ OpOk j M w x v w' := by
  simp only [aop] at h
  have h1 := opd_rep he hz
  split at h
  · rename_i tk xs ez
    obtain ⟨hw, h⟩ := owhen_inv h
    obtain ⟨hh, h2, h⟩ := obind_inv h
    obtain ⟨l, h3, h⟩ := obind_inv h
    rw [ez] at h1
    have hp := h1.slice_inv
    obtain ⟨A, cap, b, off, sz, vs, hv, hc, _⟩ := hp.slice_inv
    rw [hv] at hp
    rcases cOpt_inv hmx with ⟨rfl, rfl⟩ | ⟨my, mz, rfl, rfl, hmz⟩
    · simp only at h
      obtain ⟨⟨c1, c2, c3, c4⟩, h⟩ := owhen_inv h
      injection h with h; subst h
      have hb := bounds_run (P := P) he hlo hhi (cap := cap) h2 h3 c1 c2 c3 c4 hc true
      refine ⟨_, w, .inl ?_, .still hr (.plain (hp.part (m := cap) (l := l.toNat) (h := hh.toNat) hw (by omega) (by omega) (by omega)))⟩
      simp [execOp, hop, Instr.sliceAt, run_und ht, Instr.slice, hv, hb, run_size hn]
    · simp only at h
      split at h
      · rename_i mk m em
        obtain ⟨⟨c0, c0', c1, c2, c3, c4⟩, h⟩ := owhen_inv h
        have hm := opd_rep he hmz
        rw [em] at hm
        have hmr : (Instr.sliceBound (a.eval my) cap .slice3Acap).run P w = .ok m.toNat w := by
          simp [Instr.sliceBound, hm.int_inv, asIntOf, c0, show m ≤ cap by omega]
        have hbs : (Instr.sliceBounds true xs.length cap (lo.map a.eval) (hi.map a.eval) (some (a.eval my))).run P w = .ok (l.toNat, hh.toNat, m.toNat) w := by
          unfold Instr.sliceBounds
          rcases cOpt_inv hhi with ⟨rfl, rfl⟩ | ⟨hy, hz', rfl, rfl, hhz⟩
          · simp at hmh
          · have t1 := bound_run (P := P) he hhz h2 c1 (m := m.toNat) (by omega) .slice3B
            rcases cOpt_inv hlo with ⟨rfl, rfl⟩ | ⟨y', z', rfl, rfl, hz'⟩
            · simp [boundOf] at h3; subst h3
              simp [hmr, t1]
            · have t2 := bound_run (P := P) he hz' h3 c3 (m := hh.toNat) (by omega) .slice3C
              simp [hmr, t1, t2]
        have hrun : (execOp a.eval o).run P w = .ok (.value (.slice (if m.toNat = l.toNat then A else A.map (·.add (l.toNat * n))) (hh.toNat - l.toNat) (m.toNat - l.toNat))) w := by
          simp [execOp, hop, Instr.sliceAt, run_und ht, Instr.slice, hv, hbs, run_size hn]
        rcases oif_inv h with ⟨hm0, h⟩ | ⟨hm0, h⟩ <;> (injection h with h; subst h)
        · have hm0 : m = 0 := by simpa using hm0
          subst hm0
          have e1 : hh = 0 := by omega
          have e2 : l = 0 := by omega
          subst e1; subst e2
          exact ⟨_, w, .inl hrun, .still hr (.c0 _)⟩
        · exact ⟨_, w, .inl hrun, .still hr (.plain (hp.part (m := m.toNat) hw (by omega) (by omega) (by omega)))⟩
      · cases h
  · rename_i id v0 sz' al ah ez
    obtain ⟨hsz, h⟩ := owhen_inv h
    subst hsz
    obtain ⟨hh, h2, h⟩ := obind_inv h
    obtain ⟨l, h3, h⟩ := obind_inv h
    rw [ez] at h1
    obtain ⟨⟨b, off, cap, hv, hc⟩, g1, g2, g3⟩ := h1.aref_inv
    have key : ∀ m : Nat, m ≤ cap → 0 ≤ l → l < hh → hh ≤ m → hh ≤ (ah - al : Nat) → Rep j M w (.aref id v0 sz' (al + l.toNat) (al + hh.toNat)) (.slice (some ⟨b, off + l.toNat * sz', none⟩) (hh.toNat - l.toNat) (m - l.toNat)) := by
      intro m hmc hl0 hlh hhm hha
      have e0 : al + hh.toNat - (al + l.toNat) = hh.toNat - l.toNat := by clear g3 g2 h1 hv; omega
      have e6 : hh.toNat - l.toNat ≤ m - l.toNat := by clear g3 g2 h1 hv; omega
      have e7 : al + l.toNat + (m - l.toNat) ≤ al + cap := by clear g3 g2 h1 hv; omega
      have e8 : al + l.toNat ≤ al + hh.toNat := by clear g3 g2 h1 hv; omega
      have e9 : al + hh.toNat ≤ ah := by clear g3 g2 h1 hv; omega
      refine .aref ⟨b, off + l.toNat * sz', m - l.toNat, by rw [e0], by rw [e0]; exact e6⟩ g1 g2 fun sz v' xs hM => ?_
      obtain ⟨k1, k2⟩ := g3 sz v' xs hM
      refine ⟨k1, fun hev => ?_⟩
      obtain ⟨l0, l1, l2, b', cap', vs, t', l3, l4, l5, l6, l7⟩ := k2 hev
      rw [hv] at l4
      injection l4 with l4 l4' l4''
      injection l4 with l4; injection l4 with e1 e2 e3
      subst e1; subst e2; subst l4''
      exact ⟨l0, e8, Nat.le_trans e9 l2, b, m - l.toNat, vs, t', l3, by rw [e0, Nat.add_mul], by rw [e0]; exact e6, l6, Nat.le_trans (Nat.mul_le_mul_right _ e7) l7⟩
    rcases cOpt_inv hmx with ⟨rfl, rfl⟩ | ⟨my, mz, rfl, rfl, hmz⟩
    · simp only at h
      obtain ⟨⟨c1, c2, c3, c4⟩, h⟩ := owhen_inv h
      have hb := bounds_run (P := P) he hlo hhi (cap := cap) h2 h3 c1 c2 c3 c4 hc true
      have hrun : (execOp a.eval o).run P w = .ok (.value (.slice (if cap = l.toNat then some ⟨b, off, none⟩ else some ⟨b, off + l.toNat * sz', none⟩) (hh.toNat - l.toNat) (cap - l.toNat))) w := by
        simp [execOp, hop, Instr.sliceAt, run_und ht, Instr.slice, hv, hb, run_size hn]
        split <;> simp [addr_add]
      rcases oif_inv h with ⟨hm0, h⟩ | ⟨hm0, h⟩ <;> (injection h with h; subst h)
      · have : l = hh := by simpa using hm0
        subst this
        refine ⟨_, w, .inl hrun, .still hr (.plain ?_)⟩
        rw [Nat.sub_self]
        exact RepP.nil _ _ _
      · have : l ≠ hh := by simpa using hm0
        rw [if_neg (by omega)] at hrun
        exact ⟨_, w, .inl hrun, .still hr (key cap (Nat.le_refl _) c3 (by omega) (by omega) c2)⟩
    · simp only at h
      split at h
      · rename_i mk m em
        obtain ⟨⟨c0, c0', c1, c2, c3, c4⟩, h⟩ := owhen_inv h
        have hm := opd_rep he hmz
        rw [em] at hm
        have hmr : (Instr.sliceBound (a.eval my) cap .slice3Acap).run P w = .ok m.toNat w := by
          simp [Instr.sliceBound, hm.int_inv, asIntOf, c0, show m ≤ cap by omega]
        have hbs : (Instr.sliceBounds true (ah - al) cap (lo.map a.eval) (hi.map a.eval) (some (a.eval my))).run P w = .ok (l.toNat, hh.toNat, m.toNat) w := by
          unfold Instr.sliceBounds
          rcases cOpt_inv hhi with ⟨rfl, rfl⟩ | ⟨hy, hz', rfl, rfl, hhz⟩
          · simp at hmh
          · have t1 := bound_run (P := P) he hhz h2 c1 (m := m.toNat) (by omega) .slice3B
            rcases cOpt_inv hlo with ⟨rfl, rfl⟩ | ⟨y', z', rfl, rfl, hz'⟩
            · simp [boundOf] at h3; subst h3
              simp [hmr, t1]
            · have t2 := bound_run (P := P) he hz' h3 c3 (m := hh.toNat) (by omega) .slice3C
              simp [hmr, t1, t2]
        have hrun : (execOp a.eval o).run P w = .ok (.value (.slice (if m.toNat = l.toNat then some ⟨b, off, none⟩ else some ⟨b, off + l.toNat * sz', none⟩) (hh.toNat - l.toNat) (m.toNat - l.toNat))) w := by
          simp [execOp, hop, Instr.sliceAt, run_und ht, Instr.slice, hv, hbs, run_size hn]
          split <;> simp [addr_add]
        rcases oif_inv h with ⟨hm0, h⟩ | ⟨hm0, h⟩
        · injection h with h; subst h
          have hm0 : m = 0 := by simpa using hm0
          subst hm0
          have e1 : hh = 0 := by omega
          have e2 : l = 0 := by omega
          subst e1; subst e2
          exact ⟨_, w, .inl hrun, .still hr (.c0 _)⟩
        · rcases oif_inv h with ⟨hm1, h⟩ | ⟨hm1, h⟩ <;> (injection h with h; subst h)
          · have : l = hh := by simpa using hm1
            subst this
            refine ⟨_, w, .inl hrun, .still hr (.plain ?_)⟩
            rw [Nat.sub_self]
            exact RepP.nil _ _ _
          · have : l ≠ hh := by simpa using hm1
            rw [if_neg (by omega)] at hrun
            exact ⟨_, w, .inl hrun, .still hr (key m.toNat (by omega) c3 (by omega) (by omega) (by omega))⟩
      · cases h
  · cases h
theorem op_iaddr (hr : Rel j M w) (he : EnvRep j M w env a) {y i : Operand} {z z' : Opd} {t e : TypeId} {n : Nat} (hop : o.op = .indexAddr t y i) (ht : P.underlying t = some (.slice e)) (hn : szOf P e = some n)
    (hz : cOpd y = some z) (hz' : cOpd i = some z') (h : aop C env M (.iaddr n z z') = some x) : ∃ v w', Ran P o a w v w' ∧ OpOk j M w x v w' := by
  simp only [aop] at h
  have h1 := opd_rep he hz
  have h2 := opd_rep he hz'
  split at h
  · rename_i tk xs k m ez ez'
    obtain ⟨h0, h⟩ := owhen_inv h
    obtain ⟨el, hel, h⟩ := obind_inv h
    split at h
    · rename_i hwd
      injection h with h; subst h
      rw [ez] at h1
      rw [ez'] at h2
      obtain ⟨A, cap, b, off, sz, vs, hv, hc, ha, hsz, hs, hrp⟩ := h1.slice_inv.slice_inv
      have hlt := lt_of_some hel
      have hne : xs ≠ [] := by rintro rfl; simp at hlt
      have hA := ha hne
      have hsz' : sz = n := by rw [← hwd]; exact (hsz el (List.mem_of_getElem? hel)).symm
      subst hsz'
      subst hA
      refine ⟨.pointer (some ⟨b, off + m.toNat * sz, none⟩), w, .inl ?_, .still hr (.rptr (vs := fun q => vs (m.toNat * sz + q)) fun q c hq => ?_)⟩
      · have hm : m < xs.length := by omega
        simp [execOp, hop, Instr.indexAt, run_und ht, hv, h2.int_inv, asIntOf, h0, hm, run_size hn, addr_add]
      · have h3 := hs _ el q c hel hq
        have h4 := hrp _ el q c hel hq
        rw [Nat.add_assoc]
        exact ⟨h3.1, h3.2, h4⟩
    · cases h
  · rename_i id v0 sz' lo hi k m ez ez'
    obtain ⟨⟨h0, hm, hsz⟩, h⟩ := owhen_inv h
    injection h with h; subst h
    subst hsz
    rw [ez] at h1
    rw [ez'] at h2
    obtain ⟨⟨b, off, cap, hv, hcap⟩, g1, g2, g3⟩ := h1.aref_inv
    refine ⟨.pointer (some ⟨b, off + m.toNat * sz', none⟩), w, .inl ?_, .still hr (.eptr ⟨_, _, rfl⟩ g1 g2 fun sz v' xs hM => ?_)⟩
    · simp [execOp, hop, Instr.indexAt, run_und ht, hv, h2.int_inv, asIntOf, h0, hm, run_size hn, addr_add]
    · obtain ⟨k1, k2⟩ := g3 sz v' xs hM
      refine ⟨k1, fun he => ?_⟩
      obtain ⟨rfl, l1, l2, b', cap', vs, t', l3, l4, l5, l6, l7⟩ := k2 he
      rw [hv] at l4
      injection l4 with l4; injection l4 with l4; injection l4 with e1 e2 e3
      subst e1; subst e2
      have hlt : lo + m.toNat < xs.length := by clear k2 g3 l7 hcap l5; omega
      exact ⟨hlt, _, l3, by rw [Nat.add_mul]; simp⟩
  · cases h
theorem loadFrom_run (b off : Nat) (u : Nat → Value) : ∀ (n i : Nat) (acc : Array Value), (∀ k, k < n → w.cell? ⟨b, off + (i + k), none⟩ = some (u (i + k))) →
    (loadCellsFrom ⟨b, off, none⟩ i n acc).run P w = .ok (acc ++ ((List.range n).map fun k => u (i + k)).toArray) w := by
  intro n
  induction n with
  | zero => intro i acc _; simp [loadCellsFrom]
  | succ n ih =>
    intro i acc h
    have h0 := h 0 (by omega)
    simp only [Nat.add_zero] at h0
    have hi := ih (i + 1) (acc.push (u i)) fun k hk => by
      have := h (k + 1) (by omega)
      rw [show i + (k + 1) = i + 1 + k by omega] at this
      exact this
    simp only [loadCellsFrom, Sem.run_bind, addr_add, run_load, h0, Result.andThen_ok, hi]
    congr 1
    apply Array.ext'
    simp [List.range_succ_eq_map, Function.comp_def, Nat.add_comm, Nat.add_left_comm]
theorem load_run (b off n : Nat) (u : Nat → Value) (h : ∀ k, k < n → w.cell? ⟨b, off + k, none⟩ = some (u k)) :
    (loadCells ⟨b, off, none⟩ n).run P w = .ok (((List.range n).map u).toArray) w := by
  have := loadFrom_run (P := P) (w := w) b off u n 0 #[] (by simpa using h)
  simpa [loadCells] using this
theorem box_cell {id b : Nat} {cs : List AVal} (hr : Rel j M w) (hM : M[id]? = some (.cells cs)) (hj : j id = some b) : ∃ vs t, w.heap[b]? = some (.cells vs t (0, 0)) ∧ cs.length = vs.size ∧
    (∀ (q : Nat) (c : AVal) (v : Value), cs[q]? = some c → vs[q]? = some v → Rep j M w c v) ∧ ∀ q, w.cell? ⟨b, q, none⟩ = vs[q]? := by
  obtain ⟨b', vs, t, h1, h2, h3, h4⟩ := hr.box id cs hM
  rw [hj] at h1; injection h1 with h1; subst h1
  exact ⟨vs, t, h2, h3, h4, fun q => by simp [World.cell?, h2]⟩
theorem arr_cell (hr : Rel j M w) {id ver i off sz : Nat} {xs : List AVal} {v : Value} {el : AVal} (hM : M[id]? = some (.arr sz ver xs)) (h : Rep j M w (.eptr id ver i off) v) (hel : xs[i]? = some el) :
    ∃ b, v = .pointer (some ⟨b, i * sz + off, none⟩) ∧ ∀ (k : Nat) (c : AVal), el.cells[off + k]? = some c → ∃ u, w.cell? ⟨b, i * sz + off + k, none⟩ = some u ∧ RepP w (Saf j M w) c u := by
  obtain ⟨_, _, _, g⟩ := h.eptr_inv
  obtain ⟨g1, b, g2, g3⟩ := (g sz ver xs hM).2 rfl
  obtain ⟨b', vs, t, k1, k2, k3, k4, k5⟩ := hr.arr id sz ver xs hM
  rw [g2] at k1; injection k1 with k1; subst k1
  refine ⟨b, g3, fun k c hc => ?_⟩
  obtain ⟨u, l1, l2⟩ := k5 i el (off + k) c hel hc
  exact ⟨u, by simp [World.cell?, k2, Nat.add_assoc, l1], l2⟩
theorem op_load1 (hr : Rel j M w) (he : EnvRep j M w env a) {y : Operand} {z : Opd} {t : TypeId} (hop : o.op = .load t y) (hg : aggQ P t = some false) (hz : cOpd y = some z) (h : aop C env M (.load1 z) = some x) :
    ∃ v w', Ran P o a w v w' ∧ OpOk j M w x v w' := by
  simp only [aop] at h
  have h1 := opd_rep he hz
  split at h
  · rename_i id off e
    rw [e] at h1
    obtain ⟨b, _, _, hj, hv⟩ := h1.ptr_inv
    rw [nth_eq] at h
    split at h
    · rename_i cs hM
      obtain ⟨c, hc, h⟩ := obind_inv h
      injection h with h; subst h
      rw [nth_eq] at hc
      obtain ⟨vs, t0, hw, hl, hcs, hcell⟩ := box_cell hr hM hj
      have hlt := lt_of_some hc
      have hu : vs[off]? = some (vs[off]'(by omega)) := Array.getElem?_eq_getElem (by omega)
      refine ⟨_, w, .inl ?_, .still hr (hcs _ c _ hc hu)⟩
      simp [execOp, hop, Instr.loadAt, Instr.sureAddr, hv, loadVar, run_isAgg hg, hcell, hu]
    · cases h
  · rename_i cs e
    rw [e] at h1
    obtain ⟨b, off, vs, hv, hc⟩ := h1.rptr_inv
    obtain ⟨c, hc0, h⟩ := obind_inv h
    injection h with h; subst h
    rw [nth_eq] at hc0
    obtain ⟨h2, _, h3⟩ := hc 0 c hc0
    simp only [Nat.add_zero] at h2
    refine ⟨_, w, .inl ?_, .still hr (.plain h3)⟩
    simp [execOp, hop, Instr.loadAt, Instr.sureAddr, hv, loadVar, run_isAgg hg, h2]
  · rename_i id ver i off e
    rw [e] at h1
    rw [nth_eq] at h
    split at h
    · rename_i sz v0 xs hM
      split at h
      · rename_i hv0
        subst hv0
        obtain ⟨el, hel, h⟩ := obind_inv h
        obtain ⟨c, hc, h⟩ := obind_inv h
        injection h with h; subst h
        rw [nth_eq] at hc
        obtain ⟨b, hv, hcell⟩ := arr_cell hr hM h1 hel
        obtain ⟨u, l1, l2⟩ := hcell 0 c (by simpa using hc)
        simp only [Nat.add_zero] at l1
        refine ⟨u, w, .inl ?_, .still hr (.plain l2)⟩
        simp [execOp, hop, Instr.loadAt, Instr.sureAddr, hv, loadVar, run_isAgg hg, l1]
      · cases h
    · cases h
  · cases h
theorem op_loadA (hr : Rel j M w) (he : EnvRep j M w env a) {y : Operand} {z : Opd} {t : TypeId} {n : Nat} (hop : o.op = .load t y) (hg : aggQ P t = some true) (hn : szOf P t = some n) (hz : cOpd y = some z)
    (h : aop C env M (.loadA n z) = some x) : ∃ v w', Ran P o a w v w' ∧ OpOk j M w x v w' := by
  simp only [aop] at h
  have h1 := opd_rep he hz
  split at h
  · rename_i id off e
    rw [e] at h1
    obtain ⟨b, _, _, hj, hv⟩ := h1.ptr_inv
    rw [nth_eq] at h
    split at h
    · rename_i cs hM
      split at h
      · rename_i hle
        injection h with h; subst h
        obtain ⟨vs, t0, hw, hl, hcs, hcell⟩ := box_cell hr hM hj
        have hrun := load_run (P := P) (w := w) b off n (fun k => (vs[off + k]?).getD undef) fun k hk => by
          rw [hcell, Array.getElem?_eq_getElem (by omega)]; simp
        refine ⟨_, w, .inl (by simp [execOp, hop, Instr.loadAt, Instr.sureAddr, hv, loadVar, run_isAgg hg, run_size hn, hrun]; rfl), .still hr (.agg (by simp; omega) fun p c u hc hu => ?_)⟩
        have hp : p < n := by have := lt_of_some hc; simp at this; omega
        rw [List.getElem?_take_of_lt hp, List.getElem?_drop] at hc
        have hu' : u = (vs[off + p]?).getD undef := by simp [hp] at hu; exact hu.symm
        have hs : vs[off + p]? = some (vs[off + p]'(by omega)) := Array.getElem?_eq_getElem (by omega)
        rw [hs] at hu'
        subst hu'
        exact hcs _ c _ hc hs
      · cases h
    · cases h
  · rename_i cs e
    split at h
    · rename_i hle
      injection h with h; subst h
      rw [e] at h1
      obtain ⟨b, off, vs, hv, hc⟩ := h1.rptr_inv
      have hrun := load_run (P := P) (w := w) b off n vs fun k hk => (hc k _ (List.getElem?_eq_getElem (by omega))).1
      refine ⟨_, w, .inl (by simp [execOp, hop, Instr.loadAt, Instr.sureAddr, hv, loadVar, run_isAgg hg, run_size hn, hrun]; rfl), .still hr (.agg (by simp; omega) fun p c u hc' hu => ?_)⟩
      have hp : p < n := by have := lt_of_some hc'; simp at this; omega
      rw [List.getElem?_take_of_lt hp] at hc'
      have hu' : u = vs p := by simp [hp] at hu; exact hu.symm
      subst hu'
      exact .plain (hc p c hc').2.2
    · cases h
  · rename_i id ver i off e
    rw [e] at h1
    rw [nth_eq] at h
    split at h
    · rename_i sz v0 xs hM
      split at h
      · rename_i hv0
        subst hv0
        obtain ⟨el, hel, h⟩ := obind_inv h
        split at h
        · rename_i hle
          injection h with h; subst h
          obtain ⟨b, hv, hcell⟩ := arr_cell hr hM h1 hel
          have hrun := load_run (P := P) (w := w) b (i * sz + off) n (fun k => (w.cell? ⟨b, i * sz + off + k, none⟩).getD undef) fun k hk => by
            obtain ⟨u, l1, _⟩ := hcell k _ (List.getElem?_eq_getElem (by omega))
            rw [l1]; rfl
          refine ⟨_, w, .inl (by simp [execOp, hop, Instr.loadAt, Instr.sureAddr, hv, loadVar, run_isAgg hg, run_size hn, hrun]; rfl), .still hr (.agg (by simp; omega) fun p c u hc' hu => ?_)⟩
          have hp : p < n := by have := lt_of_some hc'; simp at this; omega
          rw [List.getElem?_take_of_lt hp, List.getElem?_drop] at hc'
          obtain ⟨u', l1, l2⟩ := hcell p c hc'
          have hu' : u = (w.cell? ⟨b, i * sz + off + p, none⟩).getD undef := by simp [hp] at hu; exact hu.symm
          rw [l1] at hu'
          subst hu'
          exact .plain l2
        · cases h
      · cases h
    · cases h
  · cases h
end
end Go.Abs
namespace Go.Abs
open Go Go.RowKit
section
variable {P : Program} {C : CallF} {o : Oper} {env : Env} {M : AMem} {j : J} {w : World} {a : Act} {x : AVal × AMem}
theorem cells_rep {y : AVal} {v : Value} {cs : List AVal} (h : Rep j M w y v) (hc : y.cells? = some cs) : RC j M w cs v.cells := by
  cases y <;> simp only [AVal.cells?, Option.some.injEq, reduceCtorEq] at hc
  case agg cs' =>
    subst hc
    obtain ⟨vs, rfl, h1, h2⟩ := h.agg_inv
    exact ⟨h1, h2⟩
  case raw u =>
    cases h with
    | plain h =>
      cases h with
      | raw _ h1 =>
        cases v <;> simp at hc <;> subst hc <;>
          exact ⟨rfl, fun i c v hc hv => by
            cases i with
            | zero => simp [Value.cells] at hc hv; subst hc; subst hv; exact .plain (.raw _ h1)
            | succ i => simp at hc⟩
  all_goals
    subst hc
    have hv : v.cells = #[v] := by
      first
        | (have := h.bool_inv; subst this; rfl)
        | (have := h.int_inv; subst this; rfl)
        | (have := h.str_inv; subst this; rfl)
        | (obtain ⟨A, cap, b, off, sz, vs, e, _⟩ := h.slice_inv.slice_inv; subst e; rfl)
        | (obtain ⟨b, _, _, _, e⟩ := h.ptr_inv; subst e; rfl)
        | (obtain ⟨b, off, vs, e, _⟩ := h.rptr_inv; subst e; rfl)
        | (obtain ⟨vs, e, _⟩ := h.func_inv; subst e; rfl)
        | (obtain ⟨b, _, _, e⟩ := h.mref_inv; subst e; rfl)
        | (obtain ⟨b, _, _, e⟩ := h.iref_inv; subst e; rfl)
        | (obtain ⟨b, es, cl, e, _⟩ := h.fmap_inv; subst e; rfl)
        | (obtain ⟨⟨_, _, _, e, _⟩, _⟩ := h.aref_inv; subst e; rfl)
        | (obtain ⟨⟨_, _, e⟩, _⟩ := h.eptr_inv; subst e; rfl)
    rw [hv]
    exact ⟨rfl, fun i c u hc hu => by
      cases i with
      | zero => simp at hc hu; subst hc; subst hu; exact h
      | succ i => simp at hc⟩
theorem cell_one {c : AVal} {v : Value} (h : Rep j M w c v) (hc : c.isCell = true) : v.oneCell' = true := by
  cases c <;> simp only [AVal.isCell, reduceCtorEq, Bool.false_eq_true] at hc
  case bool => have := h.bool_inv; subst this; rfl
  case int => have := h.int_inv; subst this; rfl
  case str => have := h.str_inv; subst this; rfl
  case slice => obtain ⟨A, cap, b, off, sz, vs, e, _⟩ := h.slice_inv.slice_inv; subst e; rfl
  case ptr => obtain ⟨b, _, _, _, e⟩ := h.ptr_inv; subst e; rfl
  case rptr => obtain ⟨b, off, vs, e, _⟩ := h.rptr_inv; subst e; rfl
  case func => obtain ⟨vs, e, _⟩ := h.func_inv; subst e; rfl
  case mref => obtain ⟨b, _, _, e⟩ := h.mref_inv; subst e; rfl
  case iref => obtain ⟨b, _, _, e⟩ := h.iref_inv; subst e; rfl
  case fmap => obtain ⟨b, es, cl, e, _⟩ := h.fmap_inv; subst e; rfl
  case aref => obtain ⟨⟨_, _, _, e, _⟩, _⟩ := h.aref_inv; subst e; rfl
  case eptr => obtain ⟨⟨_, _, e⟩, _⟩ := h.eptr_inv; subst e; rfl
  case raw u =>
    cases h with
    | plain h => cases h with | raw _ h1 => exact h1
theorem new_box (hr : Rel j M w) {cs : List AVal} {vs : Array Value} (hc : RC j M w cs vs) (t : TypeId) :
    OpOk j M w (.ptr M.length 0, M ++ [.cells cs]) (.pointer (some ⟨w.heap.size, 0, none⟩)) { w with heap := w.heap.push (.cells vs t (0, 0)) } := by
  have q : Quiet w { w with heap := w.heap.push (.cells vs t (0, 0)) } := ⟨by simp, rfl, rfl, rfl⟩
  have hb : ∀ b, b < w.heap.size → ({ w with heap := w.heap.push (.cells vs t (0, 0)) } : World).heap[b]? = w.heap[b]? := fun b hb => by
    show (w.heap.push _)[b]? = _
    rw [Array.getElem?_push, if_neg (by omega)]
  have hn : ({ w with heap := w.heap.push (.cells vs t (0, 0)) } : World).heap[w.heap.size]? = some (.cells vs t (0, 0)) := by simp
  refine ⟨upd j M.length (some w.heap.size), hr.push (fun b h => ?_) q hb (fun _ => ?_) (fun sz n b h => by cases h), Ext.push (fun b h => ?_) q hb, .ptr (by simp) ⟨cs, by simp⟩ (by simp [upd])⟩
  · injection h with h; subst h; simp
  · exact ⟨_, rfl, fun j' M' hx => ⟨vs, t, hn, hc.1, fun i c v h1 h2 => (hc.2 i c v h1 h2).mono hx⟩⟩
  · injection h with h; omega
theorem op_box (hr : Rel j M w) (he : EnvRep j M w env a) {y : Operand} {z : Opd} {t : TypeId} (hop : o.op = .box t y) (hz : cOpd y = some z) (h : aop C env M (.box z) = some x) :
    ∃ v w', Ran P o a w v w' ∧ OpOk j M w x v w' := by
  simp only [aop] at h
  obtain ⟨cs, hc, h⟩ := obind_inv h
  injection h with h; subst h
  exact ⟨_, _, .inl (by simp [execOp, hop, Instr.box, newVar, newRow]), new_box hr (cells_rep (opd_rep he hz) hc) t⟩
theorem op_box0 (hr : Rel j M w) {t : TypeId} {i : TypeInfo} {zv : Value} {l : List AVal} (hop : o.op = .alloc t) (hi : P.info? t = some i) (hzv : i.zero = some zv) (hl : absL zv.cells.toList = some l)
    (h : aop C env M (.box0 l) = some x) : ∃ v w', Ran P o a w v w' ∧ OpOk j M w x v w' := by
  simp only [aop] at h
  injection h with h; subst h
  obtain ⟨h1, h2⟩ := absL_rep (j := j) (M := M) (w := w) hl
  refine ⟨_, _, .inl (by simp [execOp, hop, Instr.alloc, zeroValue, run_info hi, hzv, newVar, newRow]; rfl), new_box hr ⟨by simpa using h1, fun i c v hc hv => h2 i c v hc (by simpa using hv)⟩ t⟩
theorem op_own (hr : Rel j M w) (he : EnvRep j M w env a) {y : Operand} {n : Nat} (hop : o.op = .assign y) (hz : cOpd y = some (.cst (.slice .c0 []))) (h : aop C env M (.own n (.cst (.slice .c0 []))) = some x) :
    ∃ v w', Ran P o a w v w' ∧ OpOk j M w x v w' := by
  simp only [aop, Opd.ev] at h
  injection h with h; subst h
  have h1 := opd_rep he hz
  have q : Quiet w w := ⟨Nat.le_refl _, rfl, rfl, rfl⟩
  obtain ⟨A, hA⟩ : ∃ A, a.eval y = .slice A 0 0 := by
    simp only [Opd.ev] at h1
    generalize a.eval y = v at h1
    cases h1 with
    | plain h => cases h
    | c0 A => exact ⟨A, rfl⟩
  refine ⟨a.eval y, w, .inl (by simp [execOp, hop]), upd j M.length none, hr.push (ob := none) (fun b h => by cases h) q (fun _ _ => rfl) (fun h => by cases h) (fun sz n b h h' => by cases h'), Ext.push (fun b h => by cases h) q (fun _ _ => rfl), ?_⟩
  rw [hA]
  exact .own (sz := n) (n := 0) (by simp) (by simp) (RepP.nil _ _ _) fun _ => .inl ⟨by simp [upd], rfl, A, rfl⟩
def setL (w : World) (b : Nat) : Nat → List Value → World
  | _, [] => w
  | off, v :: r => setL (w.setCell ⟨b, off, none⟩ v) b (off + 1) r
theorem setL_spec {b : Nat} {t : TypeId} : ∀ (l : List Value) (w : World) (off : Nat) (vs : Array Value), w.heap[b]? = some (.cells vs t (0, 0)) → off + l.length ≤ vs.size →
    (setL w b off l).heap.size = w.heap.size ∧ (setL w b off l).os = w.os ∧ (setL w b off l).tape = w.tape ∧ (setL w b off l).output = w.output ∧
    (∀ b', b' ≠ b → (setL w b off l).heap[b']? = w.heap[b']?) ∧
    ∃ vs', (setL w b off l).heap[b]? = some (.cells vs' t (0, 0)) ∧ vs'.size = vs.size ∧ (∀ p, p < off ∨ off + l.length ≤ p → vs'[p]? = vs[p]?) ∧ ∀ p, p < l.length → vs'[off + p]? = l[p]? := by
  intro l
  induction l with
  | nil => intro w off vs h _; exact ⟨rfl, rfl, rfl, rfl, fun _ _ => rfl, vs, h, rfl, fun _ _ => rfl, fun p hp => by simp at hp⟩
  | cons v r ih =>
    intro w off vs h hle
    simp only [List.length_cons] at hle
    have hs : (w.setCell ⟨b, off, none⟩ v).heap[b]? = some (.cells (vs.setIfInBounds off v) t (0, 0)) := by
      simp [World.setCell, Array.getElem?_modify, h]
    obtain ⟨h1, h2, h3, h4, h5, vs', h6, h7, h8, h9⟩ := ih (w.setCell ⟨b, off, none⟩ v) (off + 1) (vs.setIfInBounds off v) hs (by simp; omega)
    refine ⟨by simp only [setL]; rw [h1]; simp [World.setCell], by simp only [setL]; rw [h2]; rfl, by simp only [setL]; rw [h3]; rfl, by simp only [setL]; rw [h4]; rfl, fun b' hb' => ?_, vs', h6, by rw [h7]; simp, fun p hp => ?_, fun p hp => ?_⟩
    · simp only [setL]
      rw [h5 b' hb']
      simp [World.setCell, Array.getElem?_modify, Ne.symm hb']
    · simp only [List.length_cons] at hp
      rw [h8 p (by omega), Array.getElem?_setIfInBounds_ne (by omega)]
    · cases p with
      | zero =>
        have : vs'[off]? = (vs.setIfInBounds off v)[off]? := h8 off (by omega)
        rw [Nat.add_zero, this]
        simp [Array.getElem?_setIfInBounds_self]
        omega
      | succ p =>
        have := h9 p (by simpa using hp)
        rw [show off + (p + 1) = off + 1 + p by omega, this]
        simp
theorem storeFrom_run {b : Nat} {t : TypeId} : ∀ (l : List Value) (w : World) (off i : Nat) (vs : Array Value), w.heap[b]? = some (.cells vs t (0, 0)) → off + i + l.length ≤ vs.size → (∀ v, v ∈ l → v.oneCell' = true) →
    (storeCells ⟨b, off, none⟩ l i).run P w = .ok () (setL w b (off + i) l) := by
  intro l
  induction l with
  | nil => intro w off i vs _ _ _; simp [storeCells, setL]
  | cons v r ih =>
    intro w off i vs h hle hv
    simp only [List.length_cons] at hle
    have hs : (w.setCell ⟨b, off + i, none⟩ v).heap[b]? = some (.cells (vs.setIfInBounds (off + i) v) t (0, 0)) := by
      simp [World.setCell, Array.getElem?_modify, h]
    have hc : w.cell? ⟨b, off + i, none⟩ = some (vs[off + i]'(by omega)) := by
      simp [World.cell?, h]
    have hf : w.frozen? ⟨b, off + i, none⟩ = false := by simp [World.frozen?, h]
    have hi := ih (w.setCell ⟨b, off + i, none⟩ v) off (i + 1) (vs.setIfInBounds (off + i) v) hs (by simp; omega) (fun u hu => hv u (List.mem_cons_of_mem _ hu))
    simp only [storeCells, Sem.run_bind, addr_add, run_store P w _ v .plain (hv v (by simp)), hc, hf, Bool.false_eq_true, if_false, Result.andThen_ok, hi, setL]
    congr 2
theorem writeAt_get {cs new : List AVal} {off : Nat} (h : off + new.length ≤ cs.length) (p : Nat) :
    (writeAt cs off new)[p]? = if off ≤ p ∧ p < off + new.length then new[p - off]? else cs[p]? := by
  unfold writeAt
  have hl : (cs.take off).length = off := by simp; omega
  by_cases h1 : p < off
  · rw [List.getElem?_append_left (by omega), List.getElem?_take_of_lt h1, if_neg (by omega)]
  · rw [List.getElem?_append_right (by omega), hl]
    by_cases h2 : p < off + new.length
    · rw [List.getElem?_append_left (by omega), if_pos ⟨by omega, h2⟩]
    · rw [List.getElem?_append_right (by omega), List.getElem?_drop, if_neg (by omega)]
      congr 1
      omega
theorem writeAt_len {cs new : List AVal} {off : Nat} (h : off + new.length ≤ cs.length) : (writeAt cs off new).length = cs.length := by
  unfold writeAt; simp; omega
theorem shut_rep {c : AVal} {v : Value} (h : Rep j M w c v) (hp : c.shut.plainCell = true) : RepP w (Saf j M w) c.shut v := by
  cases c <;> simp only [AVal.shut, AVal.plainCell, Bool.false_eq_true] at hp ⊢
  case bool => have := h.bool_inv; subst this; exact .bool _
  case int => have := h.int_inv; subst this; exact .int _ _
  case str => have := h.str_inv; subst this; exact .str _
  case slice => exact h.slice_inv
  case raw => cases h with | plain h => exact h
theorem shut_isCell {c : AVal} (h : c.shut.plainCell = true) : c.isCell = true := by
  cases c <;> simp only [AVal.shut, AVal.plainCell, Bool.false_eq_true] at h <;> try rfl
  rename_i v
  cases v <;> first | rfl | (simp at h)
theorem plain_cells1 {c : AVal} (h : c.plainCell = true) : c.cells = [c] := by
  cases c <;> first | rfl | cases h
theorem putCells_cells {e : AVal} {off : Nat} {new : List AVal} (h : off + new.length ≤ e.cells.length) (hp : new.all AVal.plainCell = true) : (putCells e off new).cells = writeAt e.cells off new := by
  by_cases hag : ∃ cs, e = .agg cs
  · obtain ⟨cs, rfl⟩ := hag
    cases new <;> rfl
  · have h1 : e.cells = [e] := by cases e <;> first | rfl | exact absurd ⟨_, rfl⟩ hag
    rw [h1] at h ⊢
    match new, h, hp with
    | [], h, _ =>
      have : putCells e off [] = e := by cases e <;> first | rfl | exact absurd ⟨_, rfl⟩ hag
      rw [this, h1]
      simp only [List.length_nil, List.length_cons] at h
      match off, h with
      | 0, _ => rfl
      | 1, _ => rfl
    | [c], h, hp =>
      have : putCells e off [c] = c := by cases e <;> first | rfl | exact absurd ⟨_, rfl⟩ hag
      have h0 : off = 0 := by simp at h; omega
      subst h0
      rw [this, plain_cells1 (by simpa using hp)]
      rfl
    | _ :: _ :: _, h, _ => simp at h; omega
theorem op_store (hr : Rel j M w) (he : EnvRep j M w env a) {y y' : Operand} {z z' : Opd} {t : TypeId} {n : Nat} (hop : o.op = .store t y y') (hn : szOf P t = some n) (hz : cOpd y = some z) (hz' : cOpd y' = some z')
    (h : aop C env M (.store n z z') = some x) : ∃ v w', Ran P o a w v w' ∧ OpOk j M w x v w' := by
  simp only [aop] at h
  have h1 := opd_rep he hz
  have h2 := opd_rep he hz'
  split at h
  · rename_i id off e
    rw [e] at h1
    obtain ⟨b, _, _, hj, hv⟩ := h1.ptr_inv
    rw [nth_eq] at h
    split at h
    · rename_i cs hM
      obtain ⟨new, hnew, h⟩ := obind_inv h
      split at h
      · rename_i hcond
        obtain ⟨c1, c2, c3⟩ := hcond
        injection h with h; subst h
        obtain ⟨vs, t0, hw, hl, hcs, hcell⟩ := box_cell hr hM hj
        obtain ⟨n1, n2⟩ := cells_rep h2 hnew
        have hone : ∀ v, v ∈ (a.eval y').cells.toList → v.oneCell' = true := by
          intro v hv
          obtain ⟨p, hp, rfl⟩ := List.getElem_of_mem hv
          have hp' : p < (a.eval y').cells.size := by simpa using hp
          have hpl : p < new.length := by omega
          have hr' := n2 p _ _ (List.getElem?_eq_getElem hpl) (Array.getElem?_eq_getElem hp')
          have := cell_one hr' (List.all_eq_true.1 c3 _ (List.getElem_mem hpl))
          simpa using this
        have hrun := storeFrom_run (P := P) (a.eval y').cells.toList w off 0 vs hw (by simp; omega) hone
        obtain ⟨s1, s2, s3, s4, s5, vs', s6, s7, s8, s9⟩ := setL_spec (a.eval y').cells.toList w off vs hw (by simp; omega)
        have q : Quiet w (setL w b off (a.eval y').cells.toList) := ⟨by omega, s2, s3, s4⟩
        have hle : off + new.length ≤ cs.length := by omega
        rw [setN_eq]
        refine ⟨undef, setL w b off (a.eval y').cells.toList, .inr ⟨?_, rfl⟩, j, Rel.store hM rfl rfl hj hr q (fun b' hb' _ => s5 b' hb') (fun j' M' hx => ⟨vs', t0, s6, by rw [writeAt_len hle]; omega, fun p c v hc hv' => Rep.mono hx ?_⟩), Ext.store hM rfl rfl hj hr q (fun b' hb' _ => s5 b' hb'), .any _⟩
        · simp only [Nat.add_zero] at hrun
          simp [execOp, hop, Instr.storeAt, Instr.sureAddr, hv, storeVar, run_size hn, show (a.eval y').cells.size = n by omega, hrun]
        · rw [writeAt_get hle] at hc
          split at hc
          · rename_i hp
            have h9 := s9 (p - off) (by simp; omega)
            rw [show off + (p - off) = p by omega, hv'] at h9
            exact n2 (p - off) c v hc (by simpa using h9.symm)
          · rename_i hp
            have h8 := s8 p (by simp; omega)
            rw [hv'] at h8
            exact hcs p c v hc h8.symm
      · cases h
    · cases h
  · rename_i id ver i off e
    rw [e] at h1
    rw [nth_eq] at h
    split at h
    · rename_i sz v0 xs hM
      obtain ⟨new, hnew, h⟩ := obind_inv h
      obtain ⟨el, hel, h⟩ := obind_inv h
      split at h
      · rename_i hcond
        obtain ⟨hv0, c1, c2, c3⟩ := hcond
        subst hv0
        injection h with h; subst h
        obtain ⟨_, hid, _, hv⟩ := h1.eptr_inv
        obtain ⟨hi, b, hj, hv⟩ := (hv sz v0 xs hM).2 rfl
        obtain ⟨b', vs, t0, k1, hw, k3, k4, k5⟩ := hr.arr id sz v0 xs hM
        rw [hj] at k1; injection k1 with k1; subst k1
        have hsz : el.cells.length = sz := k4 el (List.mem_of_getElem? hel)
        have hbd : i * sz + sz ≤ vs.size := by
          refine Nat.le_trans ?_ k3
          calc i * sz + sz = (i + 1) * sz := by rw [Nat.add_mul]; omega
            _ ≤ xs.length * sz := Nat.mul_le_mul_right _ hi
        obtain ⟨n1, n2⟩ := cells_rep h2 hnew
        have hpl : ∀ (p : Nat) (c : AVal), new[p]? = some c → c.shut.plainCell = true := fun p c hc => by
          rw [List.all_map, List.all_eq_true] at c3
          exact c3 c (List.mem_of_getElem? hc)
        have hone : ∀ v, v ∈ (a.eval y').cells.toList → v.oneCell' = true := by
          intro v hv
          obtain ⟨p, hp, rfl⟩ := List.getElem_of_mem hv
          have hp' : p < (a.eval y').cells.size := by simpa using hp
          have hpl' : p < new.length := by omega
          have hr' := n2 p _ _ (List.getElem?_eq_getElem hpl') (Array.getElem?_eq_getElem hp')
          have := cell_one hr' (shut_isCell (hpl p _ (List.getElem?_eq_getElem hpl')))
          simpa using this
        have hrun := storeFrom_run (P := P) (a.eval y').cells.toList w (i * sz + off) 0 vs hw (by simp; omega) hone
        obtain ⟨s1, s2, s3, s4, s5, vs', s6, s7, s8, s9⟩ := setL_spec (a.eval y').cells.toList w (i * sz + off) vs hw (by simp; omega)
        have q : Quiet w (setL w b (i * sz + off) (a.eval y').cells.toList) := ⟨by omega, s2, s3, s4⟩
        have hle : off + (new.map AVal.shut).length ≤ el.cells.length := by simp; omega
        have hput := putCells_cells hle c3
        have hw' : ∀ vs0 t1, w.heap[b]? = some (.cells vs0 t1 (0, 0)) → ∃ vs1, (setL w b (i * sz + off) (a.eval y').cells.toList).heap[b]? = some (.cells vs1 t1 (0, 0)) ∧ vs1.size = vs0.size := fun vs0 t1 h => by
          rw [hw] at h; injection h with h; injection h with e1 e2
          subst e1; subst e2
          exact ⟨vs', s6, s7⟩
        rw [setN_eq, setN_eq]
        refine ⟨undef, setL w b (i * sz + off) (a.eval y').cells.toList, .inr ⟨?_, rfl⟩, j, Rel.arrIn hM hj hr q (fun b' hb' _ => s5 b' hb') hw' (Nat.le_refl _) (fun _ => by simp) (fun j' M' hx => ⟨vs', t0, s6, by simp; omega, fun x hx' => ?_, fun p x k c hp hk => ?_⟩), Ext.arrIn hM hj hr q (fun b' hb' _ => s5 b' hb') hw' (Nat.le_refl _) (fun _ => by simp), .any _⟩
        · simp only [Nat.add_zero] at hrun
          simp [execOp, hop, Instr.storeAt, Instr.sureAddr, hv, storeVar, run_size hn, show (a.eval y').cells.size = n by omega, hrun]
        · rcases List.mem_or_eq_of_mem_set hx' with hx' | rfl
          · exact k4 x hx'
          · rw [hput, writeAt_len hle, hsz]
        · have hlen : (a.eval y').cells.toList.length = n := by simp; omega
          by_cases hpi : i = p
          · subst hpi
            rw [List.getElem?_set_self hi] at hp
            injection hp with hp; subst hp
            rw [hput, writeAt_get hle] at hk
            split at hk
            · rename_i hin
              simp only [List.length_map] at hin
              rw [List.getElem?_map, Option.map_eq_some_iff] at hk
              obtain ⟨c0, hc0, rfl⟩ := hk
              have h9 := s9 (k - off) (by omega)
              rw [show i * sz + off + (k - off) = i * sz + k by omega] at h9
              have hlt : k - off < (a.eval y').cells.size := by omega
              have hu : (a.eval y').cells[k - off]? = some (a.eval y').cells[k - off] := Array.getElem?_eq_getElem hlt
              exact ⟨_, by rw [h9]; simp, (shut_rep (n2 _ c0 _ hc0 hu) (hpl _ c0 hc0)).mono hx.saf⟩
            · rename_i hin
              simp only [List.length_map] at hin
              obtain ⟨u, u1, u2⟩ := k5 i el k c hel hk
              exact ⟨u, by rw [s8 _ (by omega)]; exact u1, u2.mono hx.saf⟩
          · rw [List.getElem?_set_ne hpi] at hp
            obtain ⟨u, u1, u2⟩ := k5 p x k c hp hk
            have hk' : k < sz := by rw [← k4 x (List.mem_of_getElem? hp)]; exact lt_of_some hk
            refine ⟨u, (s8 _ ?_).trans u1, u2.mono hx.saf⟩
            rcases Nat.lt_or_ge p i with hlt | hge
            · left
              have := Nat.mul_le_mul_right sz (show p + 1 ≤ i from hlt)
              rw [Nat.add_mul] at this
              omega
            · right
              have := Nat.mul_le_mul_right sz (show i + 1 ≤ p by omega)
              rw [Nat.add_mul] at this
              omega
      · cases h
    · cases h
  · cases h
end
end Go.Abs
