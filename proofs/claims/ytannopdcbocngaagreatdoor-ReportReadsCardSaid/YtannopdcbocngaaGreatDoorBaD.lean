import Derived.KernelRfl
import Derived.Test.YtannopdcbocngaaGreatDoorProg
import Derived.Shelf.RegionOpenPlain
import Derived.WalkKit
import Derived.Deep.LoopGhost
import Derived.Deep.RegionLaw
import Derived.Lib.Walk
import Derived.Lib.SliceRun
import Derived.Laws.IdiomCopy
import Derived.Lib.AppendZeros
import Derived.Lib.AppendZerosOnto
import Derived.Laws.NewBlocks
import Derived.Laws.Externs
import Derived.Deep.AppendSrc
import Derived.Below
import Derived.Lib.Strings
import Derived.Lib.Slices
import Derived.Lib.Bytealg
import Derived.Lib.Builder
import Derived.Lib.AppendStr
import Derived.Lib.UnsafeStr
import Derived.Test.YtannopdcbocngaaGreatDoorRows
import Derived.Shelf.Strings.Builder1
import Derived.Shelf.Strings.Builder2
import Derived.Shelf.Strings.OnBuilder
import Derived.Shelf.Small.Strs
import Derived.Shelf.Strings.BuilderF
import Derived.Shelf.Strconv.Atoi
import Derived.Shelf.Strconv.Itoa0
import Derived.Shelf.Strconv.Itoa1
import Derived.Shelf.LaysM
import Derived.Shelf.Strconv.Itoa2
import Derived.Shelf.Strconv.Itoa3
import Derived.Shelf.Strconv.AtoiErrFast
import Derived.Shelf.Strconv.ParseIntEmpty
import Derived.Shelf.Strconv.AtoiFail
import Derived.Shelf.Strconv.Clone
import Derived.Shelf.Strconv.SyntaxError
import Derived.Shelf.LaysC
import Derived.Shelf.Strconv.ToError
import Derived.Shelf.Strconv.Lower
import Derived.Shelf.Strconv.ParseUint10
import Derived.Shelf.Strconv.ParseUint10Empty
import Derived.Shelf.Strconv.ParseUint10Any
import Derived.Shelf.Strconv.ParseInt10
import Derived.Shelf.Strconv.AtoiLong
import Derived.Shelf.Strconv.AtoiInnerAll
import Derived.Shelf.Strconv.RangeError
import Derived.Shelf.Strconv.ToErrorRange
import Derived.Shelf.Strconv.AtoiAll
import Derived.Shelf.Strings.Search1
import Derived.Shelf.Strings.Search2
import Derived.Shelf.Strings.Search3
import Derived.Shelf.Strings.Cut
import Derived.Shelf.Strings.Count
import Derived.Shelf.Strings.Shaped
import Derived.Shelf.Strings.Prefix
import Derived.Shelf.Strings.Split
import Derived.Shelf.Unicode.DecodeSlow
import Derived.Lib.AtoiErrMem
import Derived.Lib.AppendIntMem
import Derived.Lib.ItoaLen
import Derived.Lib.SplitLaws
import Derived.Lib.IndexMore
import Derived.Lib.AtoiAllCases
import Derived.Test.YtannopdcbocngaaGreatDoorBaC
set_option linter.unusedSimpArgs false
set_option linter.unusedVariables false
set_option linter.unusedSectionVars false
set_option linter.defProp false
namespace Go.Proofs.YtannopdcbocngaaGreatDoor
open Go Go.Abs
def q22_0 : ACode :=
 (.region [
 ob 18 (.mv (.tmp 3)),
 ob 19 (.chk (.tmp 18)),
 ob 20 (.faddr 2 (.tmp 19)),
 ob 21 (.load1 (.tmp 20)),
 ob 22 (.faddr 0 (.tmp 5)),
 ob 23 (.load1 (.tmp 22)),
 ob 24 (.loadA 6 (.tmp 5)),
 ox (.upd .i (.tmp 21) (.tmp 23) (.tmp 24))] true [1, 3, 12, 13, 14])
def q22_1 : ACode :=
 (.region [
 ob 25 (.bin .add (.tmp 14) (.cst (.int .i64 1))),
 ob 14 (.mv (.tmp 25))] false [1, 3, 12, 13, 14])
def q22_2 : ACode :=
 (.seq (.block 1 (.seq (.region [
 ob 16 (.iaddr 6 (.tmp 12) (.tmp 14)),
 ob 17 (.loadA 6 (.tmp 16)),
 ob 5 (.box0 [(.int .i64 0), (.int .i64 0), (.int .i64 0), (.slice .c0 []), (.slice .c0 []), (.int .i64 0)]),
 ox (.store 6 (.tmp 5) (.tmp 17))] false [1, 3, 5, 12, 13, 14]) q22_0)) q22_1)
def q22_3 : ACode :=
 (.seq (.cond (.tmp 15) (.skip) (.exit 0)) q22_2)
def lb22_0 : ACode :=
 (.seq (.region [
 ob 15 (.bin .lss (.tmp 14) (.tmp 13))] false [1, 3, 12, 13, 14, 15]) q22_3)
def q22_4 : ACode :=
 (.block 0 (.loop [1, 3, 12, 13, 14] lb22_0))
def q22_5 : ACode :=
 (.region [
 ob 47 (.mv (.tmp 3)),
 ob 48 (.loadA 6 (.tmp 7)),
 ob 49 (.call 53 [(.tmp 47), (.cst (.str [45])), (.tmp 48)])] false [3, 33, 34, 35])
def q22_6 : ACode :=
 (.seq (.region [
 ob 39 (.faddr 1 (.tmp 7)),
 ob 40 (.load1 (.tmp 39)),
 ob 41 (.bin .eql (.tmp 40) (.cst (.int .i64 1))),
 ob 42 (.mv (.tmp 41)),
 og 43 42 true (.faddr 2 (.tmp 7)),
 og 44 42 true (.load1 (.tmp 43)),
 og 45 42 true (.bin .eql (.tmp 44) (.cst (.int .i64 0))),
 ob 46 (.pick (.tmp 42) (.tmp 45) (.cst (.bool false)))] false [3, 7, 33, 34, 35, 46]) (.cond (.tmp 46) q22_5 (.skip)))
def q22_7 : ACode :=
 (.region [
 ob 50 (.bin .add (.tmp 35) (.cst (.int .i64 1))),
 ob 35 (.mv (.tmp 50))] false [3, 33, 34, 35])
def q22_8 : ACode :=
 (.seq (.block 3 (.seq (.region [
 ob 37 (.iaddr 6 (.tmp 33) (.tmp 35)),
 ob 38 (.loadA 6 (.tmp 37)),
 ob 7 (.box0 [(.int .i64 0), (.int .i64 0), (.int .i64 0), (.slice .c0 []), (.slice .c0 []), (.int .i64 0)]),
 ox (.store 6 (.tmp 7) (.tmp 38))] false [3, 7, 33, 34, 35]) q22_6)) q22_7)
def q22_9 : ACode :=
 (.seq (.cond (.tmp 36) (.skip) (.exit 2)) q22_8)
def lb22_1 : ACode :=
 (.seq (.region [
 ob 36 (.bin .lss (.tmp 35) (.tmp 34))] false [3, 33, 34, 35, 36]) q22_9)
def q22_10 : ACode :=
 (.seq (.region [
 ob 51 (.mv (.tmp 3)),
 ob 52 (.chk (.tmp 51)),
 ob 53 (.faddr 0 (.tmp 52)),
 ob 54 (.call 51 [(.tmp 53)]),
 ob 2 (.mv (.tmp 54))] false [2]) (.ret))
def q22_11 : ACode :=
 (.seq (.seq (.region [
 ob 32 (.faddr 0 (.tmp 1)),
 ob 33 (.load1 (.tmp 32)),
 ob 34 (.lenV (.tmp 33)),
 ob 35 (.mv (.cst (.int .i64 0)))] false [3, 33, 34, 35]) (.block 2 (.loop [3, 33, 34, 35] lb22_1))) q22_10)
def q22_12 : ACode :=
 (.seq (.region [
 ob 30 (.mv (.tmp 3)),
 ob 31 (.call 52 [(.tmp 30), (.cst (.int .i64 1)), (.cst (.str []))])] false [1, 3]) q22_11)
def q22_13 : ACode :=
 (.seq (.region [
 ob 26 (.mv (.tmp 3)),
 ob 27 (.chk (.tmp 26)),
 ob 28 (.faddr 0 (.tmp 27)),
 ob 29 (.call 50 [(.tmp 28), (.cst (.str [47, 32, 100, 105, 114, 32, 49, 10]))])] false [1, 3]) q22_12)
def q22_14 : ACode :=
 (.seq (.seq (.region [
 ob 11 (.faddr 0 (.tmp 1)),
 ob 12 (.load1 (.tmp 11)),
 ob 13 (.lenV (.tmp 12)),
 ob 14 (.mv (.cst (.int .i64 0)))] false [1, 3, 12, 13, 14]) q22_4) q22_13)
def q22_15 : ACode :=
 (.seq (.region [
 ob 8 (.mkMap),
 ob 9 (.build [(.raw (.pointer none)), (.slice .c0 []), (.raw (.map none))] [(2, 1, (.tmp 8))]),
 ob 10 (.boxW 96 5 (.tmp 9)),
 ob 3 (.mv (.tmp 10))] false [1, 3]) q22_14)
def E22 := And.intro (exK_head q22_0.eq_1) (And.intro (exK_head q22_1.eq_1) (And.intro (exK_head q22_2.eq_1) (And.intro (exK_head q22_3.eq_1) (And.intro (exK_head lb22_0.eq_1) (And.intro (exK_head q22_4.eq_1) (And.intro (exK_head q22_5.eq_1) (And.intro (exK_head q22_6.eq_1) (And.intro (exK_head q22_7.eq_1) (And.intro (exK_head q22_8.eq_1) (And.intro (exK_head q22_9.eq_1) (And.intro (exK_head lb22_1.eq_1) (And.intro (exK_head q22_10.eq_1) (And.intro (exK_head q22_11.eq_1) (And.intro (exK_head q22_12.eq_1) (And.intro (exK_head q22_13.eq_1) (And.intro (exK_head q22_14.eq_1) (exK_head q22_15.eq_1)))))))))))))))))
def ann22 : Ann := { n := 55, own := [3000010], lv := [(0, [1]), (1, [1, 3]), (2, [1, 3, 12, 13, 14]), (3, [1, 3, 12, 13, 14, 15]), (4, [1, 3, 5, 12, 13, 14]), (5, [1, 3, 12, 13, 14]), (6, [1, 3, 12, 13, 14]), (7, [1, 3]), (8, [1, 3]), (9, [3, 33, 34, 35]), (10, [3, 33, 34, 35, 36]), (11, [3, 7, 33, 34, 35]), (12, [3, 7, 33, 34, 35, 46]), (13, [3, 33, 34, 35]), (14, [3, 33, 34, 35]), (15, [2])], lp := [(3, [1, 3, 12, 13, 14]), (10, [3, 33, 34, 35])] }
def fn22 : AFn := AFn.mk 1 [.tmp 2]
  (.seq (.region [
  ob 1 (.box (.tmp 0)),
  ob 2 (.mv (.cst (.str [])))] false [1]) q22_15)
theorem ok22 : compFn Tryz.prog ann22 Tryz.f22 = some fn22 := by kernel_rfl
def q52_0 : ACode :=
 (.seq (.region [
 ob 49 (.mv (.tmp 0)),
 ob 50 (.faddr 0 (.tmp 8)),
 ob 51 (.load1 (.tmp 50)),
 ob 52 (.mv (.tmp 9)),
 ob 53 (.call 52 [(.tmp 49), (.tmp 51), (.tmp 52)])] false [0, 2, 16, 17, 18]) (.exit 1))
def q52_1 : ACode :=
 (.seq (.region [
 ob 37 (.mv (.tmp 0)),
 ob 38 (.chk (.tmp 37)),
 ob 39 (.faddr 0 (.tmp 38)),
 ob 40 (.mv (.tmp 9)),
 ⟨(some 41), .call 44 [(.tmp 40)], none, true, false, []⟩,
 ob 42 (.bin .add (.tmp 41) (.cst (.str [32, 100, 105, 114, 32]))),
 ob 43 (.faddr 0 (.tmp 8)),
 ob 44 (.load1 (.tmp 43)),
 ob 45 (.call 42 [(.tmp 44)]),
 ob 46 (.bin .add (.tmp 42) (.tmp 45)),
 ob 47 (.bin .add (.tmp 46) (.cst (.str [10]))),
 ob 48 (.call 50 [(.tmp 39), (.tmp 47)])] true [0, 2, 8, 9, 16, 17, 18]) q52_0)
def q52_2 : ACode :=
 (.region [
 ob 54 (.mv (.tmp 0)),
 ob 55 (.mv (.tmp 9)),
 ⟨(some 56), .call 44 [(.tmp 55)], none, true, false, []⟩,
 ob 57 (.loadA 6 (.tmp 8)),
 ob 58 (.call 53 [(.tmp 54), (.tmp 56), (.tmp 57)])] true [0, 2, 16, 17, 18])
def q52_3 : ACode :=
 (.seq (.seq (.region [
 ob 34 (.faddr 1 (.tmp 8)),
 ob 35 (.load1 (.tmp 34)),
 ob 36 (.bin .eql (.tmp 35) (.cst (.int .i64 2)))] false [0, 2, 8, 9, 16, 17, 18, 36]) (.cond (.tmp 36) q52_1 (.skip))) q52_2)
def q52_4 : ACode :=
 (.seq (.region [
 ob 22 (.mv (.tmp 0)),
 ob 23 (.chk (.tmp 22)),
 ob 24 (.faddr 2 (.tmp 23)),
 ob 25 (.load1 (.tmp 24)),
 ob 26 (.faddr 1 (.tmp 7)),
 ob 27 (.load1 (.tmp 26)),
 ob 28 (.look .i (.agg [(.int .i64 0), (.int .i64 0), (.int .i64 0), (.slice .c0 []), (.slice .c0 []), (.int .i64 0)]) false (.tmp 25) (.tmp 27)),
 ob 29 (.mv (.tmp 2)),
 ob 30 (.bin .add (.tmp 29) (.cst (.str [47]))),
 ob 31 (.faddr 0 (.tmp 7)),
 ob 32 (.load1 (.tmp 31)),
 ob 33 (.bin .add (.tmp 30) (.tmp 32)),
 ⟨(some 8), .box0 [(.int .i64 0), (.int .i64 0), (.int .i64 0), (.slice .c0 []), (.slice .c0 []), (.int .i64 0)], none, true, false, []⟩,
 ⟨none, .store 6 (.tmp 8) (.tmp 28), none, true, false, [31]⟩,
 ob 9 (.mv (.tmp 33))] true [0, 2, 8, 9, 16, 17, 18]) q52_3)
def q52_5 : ACode :=
 (.region [
 ob 59 (.bin .add (.tmp 18) (.cst (.int .i64 1))),
 ob 18 (.mv (.tmp 59))] false [0, 2, 16, 17, 18])
def q52_6 : ACode :=
 (.seq (.block 1 (.seq (.region [
 ob 20 (.iaddr 3 (.tmp 16) (.tmp 18)),
 ob 21 (.loadA 3 (.tmp 20)),
 ob 7 (.box0 [(.str []), (.int .i64 0), (.int .i64 0)]),
 ox (.store 3 (.tmp 7) (.tmp 21))] false [0, 2, 7, 16, 17, 18]) q52_4)) q52_5)
def q52_7 : ACode :=
 (.seq (.cond (.tmp 19) (.skip) (.exit 0)) q52_6)
def lb52_0 : ACode :=
 (.seq (.region [
 ob 19 (.bin .lss (.tmp 18) (.tmp 17))] false [0, 2, 16, 17, 18, 19]) q52_7)
def q52_8 : ACode :=
 (.block 0 (.loop [0, 2, 16, 17, 18] lb52_0))
def E52 := And.intro (exK_head q52_0.eq_1) (And.intro (exK_head q52_1.eq_1) (And.intro (exK_head q52_2.eq_1) (And.intro (exK_head q52_3.eq_1) (And.intro (exK_head q52_4.eq_1) (And.intro (exK_head q52_5.eq_1) (And.intro (exK_head q52_6.eq_1) (And.intro (exK_head q52_7.eq_1) (And.intro (exK_head lb52_0.eq_1) (exK_head q52_8.eq_1)))))))))
def ann52 : Ann := { n := 60, own := [], lv := [(0, [0, 2, 16, 17, 18]), (1, [0, 2, 16, 17, 18, 19]), (2, [0, 2, 7, 16, 17, 18]), (3, [0, 2, 8, 9, 16, 17, 18]), (4, [0, 2, 8, 9, 16, 17, 18, 36]), (5, [0, 2, 8, 9, 16, 17, 18]), (6, [0, 2, 16, 17, 18]), (7, [0, 2, 16, 17, 18]), (8, [0, 2, 16, 17, 18])], lp := [(1, [0, 2, 16, 17, 18])] }
def fn52 : AFn := AFn.mk 3 []
  (.seq (.region [
  ob 10 (.mv (.tmp 0)),
  ob 11 (.chk (.tmp 10)),
  ob 12 (.faddr 2 (.tmp 11)),
  ob 13 (.load1 (.tmp 12)),
  ob 14 (.mv (.tmp 1)),
  ob 15 (.look .i (.agg [(.int .i64 0), (.int .i64 0), (.int .i64 0), (.slice .c0 []), (.slice .c0 []), (.int .i64 0)]) false (.tmp 13) (.tmp 14)),
  ob 16 (.field1 4 (.tmp 15)),
  ob 17 (.lenV (.tmp 16)),
  ob 18 (.mv (.cst (.int .i64 0)))] false [0, 2, 16, 17, 18]) q52_8)
theorem ok52 : compFn Tryz.prog ann52 Tryz.f52 = some fn52 := by kernel_rfl
def q53_0 : ACode :=
 (.region [
 ob 6 (.mv (.tmp 0)),
 ob 7 (.chk (.tmp 6)),
 ob 8 (.faddr 0 (.tmp 7)),
 ob 9 (.mv (.tmp 1)),
 ob 10 (.bin .add (.tmp 9) (.cst (.str [32, 102, 105, 108, 101, 32]))),
 ob 11 (.faddr 0 (.tmp 5)),
 ob 12 (.load1 (.tmp 11)),
 ⟨(some 13), .call 42 [(.tmp 12)], none, true, false, []⟩,
 ob 14 (.bin .add (.tmp 10) (.tmp 13)),
 ob 15 (.faddr 2 (.tmp 5)),
 ob 16 (.load1 (.tmp 15)),
 ob 17 (.build [(.str []), (.int .i64 0), (.str [])] [(0, 1, (.cst (.str [108, 105, 110, 107, 115]))), (1, 1, (.tmp 16)), (2, 1, (.cst (.str [])))]),
 ob 18 (.faddr 3 (.tmp 5)),
 ob 19 (.load1 (.tmp 18)),
 ob 20 (.b2s (.tmp 19)),
 ⟨(some 21), .call 44 [(.tmp 20)], none, true, false, []⟩,
 ob 22 (.build [(.str []), (.int .i64 0), (.str [])] [(0, 1, (.cst (.str [100, 97, 116, 97]))), (1, 1, (.cst (.int .i64 0))), (2, 1, (.tmp 21))]),
 ob 23 (.lits 3 [(.tmp 17), (.tmp 22)]),
 ob 24 (.call 43 [(.tmp 14), (.tmp 23)]),
 ob 25 (.bin .add (.tmp 24) (.cst (.str [10]))),
 ob 26 (.call 50 [(.tmp 8), (.tmp 25)])] true [])
def E53 := exK_head q53_0.eq_1
def ann53 : Ann := { n := 27, own := [], lv := [(0, [0, 1, 5]), (1, [])], lp := [] }
def fn53 : AFn := AFn.mk 3 []
  (.seq (.region [
  ob 5 (.box (.tmp 2))] false [0, 1, 5]) q53_0)
theorem ok53 : compFn Tryz.prog ann53 Tryz.f53 = some fn53 := by kernel_rfl
def q35_0 : ACode :=
 (.seq (.region [
 ob 18 (.mv (.tmp 7)),
 ob 4 (.mv (.cst (.int .i64 0))),
 ob 5 (.mv (.tmp 18))] false [4, 5]) (.ret))
def q35_1 : ACode :=
 (.seq (.region [
 ob 34 (.mv (.tmp 7)),
 ob 4 (.mv (.cst (.int .i64 0))),
 ob 5 (.mv (.tmp 34))] false [4, 5]) (.ret))
def q35_2 : ACode :=
 (.seq (.region [
 ob 32 (.mv (.tmp 7)),
 ob 33 (.bin .neq (.tmp 32) (.cst (.int .i64 0)))] false [2, 7, 8, 19, 20, 21, 33]) (.cond (.tmp 33) q35_1 (.skip)))
def q35_3 : ACode :=
 (.seq (.region [
 ob 26 (.loadA 3 (.tmp 2)),
 ob 27 (.mv (.tmp 8)),
 ob 28 (.mv (.tmp 10)),
 ob 29 (.call 74 [(.tmp 26), (.tmp 27), (.tmp 28)]),
 ob 25 (.mv (.tmp 29)),
 ob 30 (.extract (.tmp 25) 0),
 ob 31 (.extract (.tmp 25) 1),
 ob 8 (.mv (.tmp 30)),
 ob 7 (.mv (.tmp 31))] false [2, 7, 8, 19, 20, 21]) q35_2)
def q35_4 : ACode :=
 (.region [
 ob 35 (.bin .add (.tmp 21) (.cst (.int .i64 1))),
 ob 21 (.mv (.tmp 35))] false [2, 8, 19, 20, 21])
def q35_5 : ACode :=
 (.seq (.block 1 (.seq (.region [
 ob 23 (.iaddr 1 (.tmp 19) (.tmp 21)),
 ob 24 (.load1 (.tmp 23)),
 ob 10 (.mv (.tmp 24))] false [2, 8, 10, 19, 20, 21]) q35_3)) q35_4)
def q35_6 : ACode :=
 (.seq (.cond (.tmp 22) (.skip) (.exit 0)) q35_5)
def lb35_0 : ACode :=
 (.seq (.region [
 ob 22 (.bin .lss (.tmp 21) (.tmp 20))] false [2, 8, 19, 20, 21, 22]) q35_6)
def q35_7 : ACode :=
 (.block 0 (.loop [2, 8, 19, 20, 21] lb35_0))
def q35_8 : ACode :=
 (.seq (.region [
 ob 36 (.mv (.tmp 8)),
 ob 4 (.mv (.tmp 36)),
 ob 5 (.mv (.cst (.int .i64 0)))] false [4, 5]) (.ret))
def q35_9 : ACode :=
 (.seq (.seq (.region [
 ob 19 (.mv (.tmp 6)),
 ob 20 (.lenV (.tmp 19)),
 ob 21 (.mv (.cst (.int .i64 0)))] false [2, 8, 19, 20, 21]) q35_7) q35_8)
def q35_10 : ACode :=
 (.seq (.region [
 ob 8 (.mv (.cst (.int .i64 1)))] false [2, 6, 8]) q35_9)
def q35_11 : ACode :=
 (.seq (.seq (.region [
 ob 16 (.mv (.tmp 7)),
 ob 17 (.bin .neq (.tmp 16) (.cst (.int .i64 0)))] false [2, 6, 7, 17]) (.cond (.tmp 17) q35_0 (.skip))) q35_10)
def q35_12 : ACode :=
 (.seq (.region [
 ob 12 (.mv (.tmp 1)),
 ob 13 (.call 73 [(.tmp 12)]),
 ob 11 (.mv (.tmp 13)),
 ob 14 (.extract (.tmp 11) 0),
 ob 15 (.extract (.tmp 11) 1),
 ob 6 (.mv (.tmp 14)),
 ob 7 (.mv (.tmp 15))] false [2, 6, 7]) q35_11)
def E35 := And.intro (exK_head q35_0.eq_1) (And.intro (exK_head q35_1.eq_1) (And.intro (exK_head q35_2.eq_1) (And.intro (exK_head q35_3.eq_1) (And.intro (exK_head q35_4.eq_1) (And.intro (exK_head q35_5.eq_1) (And.intro (exK_head q35_6.eq_1) (And.intro (exK_head lb35_0.eq_1) (And.intro (exK_head q35_7.eq_1) (And.intro (exK_head q35_8.eq_1) (And.intro (exK_head q35_9.eq_1) (And.intro (exK_head q35_10.eq_1) (And.intro (exK_head q35_11.eq_1) (exK_head q35_12.eq_1)))))))))))))
def ann35 : Ann := { n := 37, own := [], lv := [(0, [1, 2]), (1, [2, 6, 7]), (2, [2, 6, 7, 17]), (3, [4, 5]), (4, [2, 6, 8]), (5, [2, 8, 19, 20, 21]), (6, [2, 8, 19, 20, 21, 22]), (7, [2, 8, 10, 19, 20, 21]), (8, [2, 7, 8, 19, 20, 21]), (9, [2, 7, 8, 19, 20, 21, 33]), (10, [4, 5]), (11, [2, 8, 19, 20, 21]), (12, [4, 5])], lp := [(6, [2, 8, 19, 20, 21])] }
def fn35 : AFn := AFn.mk 2 [.tmp 4, .tmp 5]
  (.seq (.region [
  ob 2 (.box (.tmp 0)),
  ob 4 (.mv (.cst (.int .i64 0))),
  ob 5 (.mv (.cst (.int .i64 0)))] false [1, 2]) q35_12)
theorem ok35 : compFn Tryz.prog ann35 Tryz.f35 = some fn35 := by kernel_rfl
def q36_0 : ACode :=
 (.seq (.region [
 ob 6 (.loadA 3 (.tmp 2)),
 ob 7 (.build [(.slice .c0 []), (.int .i64 0), (.int .i64 0)] [(0, 3, (.tmp 6))]),
 ob 8 (.box (.tmp 7)),
 ob 9 (.mv (.tmp 1)),
 ob 10 (.call 75 [(.tmp 8), (.tmp 9)]),
 ob 11 (.extract (.tmp 10) 0),
 ob 12 (.extract (.tmp 10) 1),
 ox (.store 6 (.tmp 4) (.tmp 11)),
 ob 5 (.mv (.tmp 12))] false [4, 5]) (.ret))
def E36 := exK_head q36_0.eq_1
def ann36 : Ann := { n := 13, own := [], lv := [(0, [1, 2, 4]), (1, [4, 5])], lp := [] }
def fn36 : AFn := AFn.mk 2 [.cellA 4 6, .tmp 5]
  (.seq (.region [
  ob 2 (.box (.tmp 0)),
  ob 4 (.box0 [(.int .i64 0), (.int .i64 0), (.int .i64 0), (.slice .c0 []), (.slice .c0 []), (.int .i64 0)]),
  ob 5 (.mv (.cst (.bool false)))] false [1, 2, 4]) q36_0)
theorem ok36 : compFn Tryz.prog ann36 Tryz.f36 = some fn36 := by kernel_rfl
def q38_0 : ACode :=
 (.seq (.region [
 ob 20 (.loadA 3 (.tmp 4)),
 ox (.store 3 (.tmp 8) (.tmp 20)),
 ob 9 (.mv (.cst (.int .i64 0))),
 ob 10 (.mv (.cst (.int .i64 1)))] false [8, 9, 10]) (.ret))
def q38_1 : ACode :=
 (.seq (.region [
 ob 30 (.loadA 3 (.tmp 4)),
 ob 31 (.mv (.tmp 12)),
 ox (.store 3 (.tmp 8) (.tmp 30)),
 ob 9 (.mv (.cst (.int .i64 0))),
 ob 10 (.mv (.tmp 31))] false [8, 9, 10]) (.ret))
def q38_2 : ACode :=
 (.seq (.region [
 ob 28 (.mv (.tmp 12)),
 ob 29 (.bin .neq (.tmp 28) (.cst (.int .i64 0)))] false [1, 2, 3, 4, 8, 11, 12, 29]) (.cond (.tmp 29) q38_1 (.skip)))
def q38_3 : ACode :=
 (.seq (.region [
 ob 47 (.loadA 3 (.tmp 4)),
 ox (.store 3 (.tmp 8) (.tmp 47)),
 ob 9 (.mv (.cst (.int .i64 0))),
 ob 10 (.mv (.cst (.int .i64 76)))] false [8, 9, 10]) (.ret))
def q38_4 : ACode :=
 (.region [
 ob 57 (.mv (.tmp 1)),
 ob 58 (.faddr 5 (.tmp 13)),
 ox (.store 1 (.tmp 58) (.tmp 57))] false [1, 2, 8, 11, 13])
def q38_5 : ACode :=
 (.seq (.region [
 ob 77 (.mv (.tmp 11)),
 ob 78 (.chk (.tmp 77)),
 ob 79 (.faddr 0 (.tmp 78)),
 ob 80 (.loadA 3 (.tmp 79)),
 ob 81 (.faddr 0 (.tmp 13)),
 ob 82 (.load1 (.tmp 81)),
 ⟨none, .store 3 (.tmp 8) (.tmp 80), none, true, false, [81]⟩,
 ob 9 (.mv (.tmp 82)),
 ob 10 (.mv (.cst (.int .i64 0)))] true [8, 9, 10]) (.ret))
def q38_6 : ACode :=
 (.seq (.region [
 ob 71 (.mv (.tmp 11)),
 ob 72 (.mv (.tmp 1)),
 ob 73 (.mv (.tmp 2)),
 ob 74 (.faddr 0 (.tmp 13)),
 ob 75 (.load1 (.tmp 74)),
 ob 76 (.call 78 [(.tmp 71), (.tmp 72), (.tmp 73), (.tmp 75)])] false [8, 11, 13]) q38_5)
def q38_7 : ACode :=
 (.seq (.region [
 ob 68 (.mv (.tmp 11)),
 ob 69 (.loadA 6 (.tmp 13)),
 ob 70 (.call 77 [(.tmp 68), (.tmp 69)])] false [1, 2, 8, 11, 13]) q38_6)
def q38_8 : ACode :=
 (.seq (.region [
 ob 59 (.mv (.tmp 11)),
 ob 60 (.chk (.tmp 59)),
 ob 61 (.faddr 0 (.tmp 60)),
 ob 62 (.faddr 1 (.tmp 61)),
 ob 63 (.load1 (.tmp 62)),
 ob 64 (.bin .add (.tmp 63) (.cst (.int .i64 1))),
 ob 65 (.chk (.tmp 59)),
 ob 66 (.faddr 0 (.tmp 65)),
 ob 67 (.faddr 1 (.tmp 66)),
 ox (.store 1 (.tmp 67) (.tmp 64))] false [1, 2, 8, 11, 13]) q38_7)
def q38_9 : ACode :=
 (.seq (.seq (.region [
 ob 55 (.mv (.tmp 3)),
 ob 56 (.bin .eql (.tmp 55) (.cst (.int .i64 2)))] false [1, 2, 8, 11, 13, 56]) (.cond (.tmp 56) q38_4 (.skip))) q38_8)
def q38_10 : ACode :=
 (.seq (.region [
 ob 48 (.mv (.tmp 11)),
 ob 49 (.chk (.tmp 48)),
 ob 50 (.faddr 0 (.tmp 49)),
 ob 51 (.faddr 1 (.tmp 50)),
 ob 52 (.load1 (.tmp 51)),
 ob 53 (.mv (.tmp 3)),
 ob 54 (.build [(.int .i64 0), (.int .i64 0), (.int .i64 0), (.slice .c0 []), (.slice .c0 []), (.int .i64 0)] [(0, 1, (.tmp 52)), (1, 1, (.tmp 53)), (2, 1, (.cst (.int .i64 1)))]),
 ob 13 (.box0 [(.int .i64 0), (.int .i64 0), (.int .i64 0), (.slice .c0 []), (.slice .c0 []), (.int .i64 0)]),
 ox (.store 6 (.tmp 13) (.tmp 54))] false [1, 2, 3, 8, 11, 13]) q38_9)
def q38_11 : ACode :=
 (.seq (.seq (.region [
 ob 32 (.mv (.tmp 11)),
 ob 33 (.chk (.tmp 32)),
 ob 34 (.faddr 0 (.tmp 33)),
 ob 35 (.faddr 0 (.tmp 34)),
 ob 36 (.load1 (.tmp 35)),
 ob 37 (.lenV (.tmp 36)),
 ob 38 (.bin .geq (.tmp 37) (.cst (.int .i64 200))),
 ob 39 (.mv (.tmp 38)),
 og 40 39 false (.mv (.tmp 11)),
 og 41 39 false (.chk (.tmp 40)),
 og 42 39 false (.faddr 0 (.tmp 41)),
 og 43 39 false (.faddr 1 (.tmp 42)),
 og 44 39 false (.load1 (.tmp 43)),
 og 45 39 false (.bin .geq (.tmp 44) (.cst (.int .i64 1099511627776))),
 ob 46 (.pick (.tmp 39) (.cst (.bool true)) (.tmp 45))] false [1, 2, 3, 4, 8, 11, 46]) (.cond (.tmp 46) q38_3 (.skip))) q38_10)
def q38_12 : ACode :=
 (.seq (.seq (.region [
 ob 24 (.mv (.tmp 11)),
 ob 25 (.mv (.tmp 1)),
 ob 26 (.mv (.tmp 2)),
 ob 27 (.call 76 [(.tmp 24), (.tmp 25), (.tmp 26)]),
 ob 12 (.mv (.tmp 27))] false [1, 2, 3, 4, 8, 11, 12]) q38_2) q38_11)
def q38_13 : ACode :=
 (.seq (.region [
 ob 21 (.loadA 3 (.tmp 4)),
 ob 22 (.build [(.slice .c0 []), (.int .i64 0), (.int .i64 0)] [(0, 3, (.tmp 21))]),
 ob 23 (.box (.tmp 22)),
 ob 11 (.mv (.tmp 23))] false [1, 2, 3, 4, 8, 11]) q38_12)
def q38_14 : ACode :=
 (.seq (.seq (.region [
 ob 14 (.mv (.tmp 3)),
 ob 15 (.bin .neq (.tmp 14) (.cst (.int .i64 1))),
 ob 16 (.mv (.tmp 15)),
 og 17 16 true (.mv (.tmp 3)),
 og 18 16 true (.bin .neq (.tmp 17) (.cst (.int .i64 2))),
 ob 19 (.pick (.tmp 16) (.tmp 18) (.cst (.bool false)))] false [1, 2, 3, 4, 8, 19]) (.cond (.tmp 19) q38_0 (.skip))) q38_13)
def E38 := And.intro (exK_head q38_0.eq_1) (And.intro (exK_head q38_1.eq_1) (And.intro (exK_head q38_2.eq_1) (And.intro (exK_head q38_3.eq_1) (And.intro (exK_head q38_4.eq_1) (And.intro (exK_head q38_5.eq_1) (And.intro (exK_head q38_6.eq_1) (And.intro (exK_head q38_7.eq_1) (And.intro (exK_head q38_8.eq_1) (And.intro (exK_head q38_9.eq_1) (And.intro (exK_head q38_10.eq_1) (And.intro (exK_head q38_11.eq_1) (And.intro (exK_head q38_12.eq_1) (And.intro (exK_head q38_13.eq_1) (exK_head q38_14.eq_1))))))))))))))
def ann38 : Ann := { n := 83, own := [], lv := [(0, [1, 2, 3, 4, 8]), (1, [1, 2, 3, 4, 8, 19]), (2, [8, 9, 10]), (3, [1, 2, 3, 4, 8, 11]), (4, [1, 2, 3, 4, 8, 11, 12]), (5, [1, 2, 3, 4, 8, 11, 12, 29]), (6, [8, 9, 10]), (7, [1, 2, 3, 4, 8, 11, 46]), (8, [8, 9, 10]), (9, [1, 2, 3, 8, 11, 13]), (10, [1, 2, 8, 11, 13, 56]), (11, [1, 2, 8, 11, 13]), (12, [1, 2, 8, 11, 13]), (13, [1, 2, 8, 11, 13]), (14, [8, 11, 13]), (15, [8, 9, 10])], lp := [] }
def fn38 : AFn := AFn.mk 4 [.cellA 8 3, .tmp 9, .tmp 10]
  (.seq (.region [
  ob 4 (.box (.tmp 0)),
  ob 8 (.box0 [(.slice .c0 []), (.int .i64 0), (.int .i64 0)]),
  ob 9 (.mv (.cst (.int .i64 0))),
  ob 10 (.mv (.cst (.int .i64 0)))] false [1, 2, 3, 4, 8]) q38_14)
theorem ok38 : compFn Tryz.prog ann38 Tryz.f38 = some fn38 := by kernel_rfl
def q39_0 : ACode :=
 (.seq (.region [
 ob 1 (.build [(.int .i64 0), (.int .i64 0), (.int .i64 0), (.slice .c0 []), (.slice .c0 []), (.int .i64 0)] [(0, 1, (.cst (.int .i64 1))), (1, 1, (.cst (.int .i64 2))), (5, 1, (.cst (.int .i64 1)))]),
 ob 2 (.lits 6 [(.tmp 1)]),
 ob 3 (.build [(.slice .c0 []), (.int .i64 0), (.int .i64 0)] [(0, 1, (.tmp 2)), (1, 1, (.cst (.int .i64 2))), (2, 1, (.cst (.int .i64 1)))]),
 ox (.store 3 (.tmp 0) (.tmp 3))] false [0]) (.ret))
def E39 := exK_head q39_0.eq_1
def ann39 : Ann := { n := 4, own := [], lv := [(0, [0]), (1, [0])], lp := [] }
def fn39 : AFn := AFn.mk 0 [.cellA 0 3]
  (.seq (.region [
  ob 0 (.box0 [(.slice .c0 []), (.int .i64 0), (.int .i64 0)])] false [0]) q39_0)
theorem ok39 : compFn Tryz.prog ann39 Tryz.f39 = some fn39 := by kernel_rfl
def q74_0 : ACode :=
 (.seq (.region [
 ob 22 (.mv (.tmp 9)),
 ob 6 (.mv (.cst (.int .i64 0))),
 ob 7 (.mv (.tmp 22))] false [6, 7]) (.ret))
def q74_1 : ACode :=
 (.seq (.region [
 ob 6 (.mv (.cst (.int .i64 0))),
 ob 7 (.mv (.cst (.int .i64 60)))] false [6, 7]) (.ret))
def q74_2 : ACode :=
 (.seq (.region [
 ob 6 (.mv (.cst (.int .i64 0))),
 ob 7 (.mv (.cst (.int .i64 70)))] false [6, 7]) (.ret))
def q74_3 : ACode :=
 (.seq (.region [
 ob 34 (.faddr 4 (.tmp 8)),
 ob 35 (.load1 (.tmp 34)),
 ob 36 (.mv (.tmp 10)),
 ob 37 (.iaddr 3 (.tmp 35) (.tmp 36)),
 ob 38 (.faddr 1 (.tmp 37)),
 ob 39 (.load1 (.tmp 38)),
 ob 6 (.mv (.tmp 39)),
 ob 7 (.mv (.cst (.int .i64 0)))] false [6, 7]) (.ret))
def q74_4 : ACode :=
 (.seq (.seq (.region [
 ob 32 (.mv (.tmp 11)),
 ob 33 (.not (.tmp 32))] false [8, 10, 33]) (.cond (.tmp 33) q74_2 (.skip))) q74_3)
def q74_5 : ACode :=
 (.seq (.region [
 ob 27 (.loadA 6 (.tmp 8)),
 ob 28 (.mv (.tmp 2)),
 ob 29 (.call 104 [(.tmp 27), (.tmp 28)]),
 ob 26 (.mv (.tmp 29)),
 ob 30 (.extract (.tmp 26) 0),
 ob 31 (.extract (.tmp 26) 1),
 ob 10 (.mv (.tmp 30)),
 ob 11 (.mv (.tmp 31))] false [8, 10, 11]) q74_4)
def q74_6 : ACode :=
 (.seq (.seq (.region [
 ob 23 (.mv (.tmp 2)),
 ob 24 (.call 102 [(.tmp 23)]),
 ob 25 (.not (.tmp 24))] false [2, 8, 25]) (.cond (.tmp 25) q74_1 (.skip))) q74_5)
def q74_7 : ACode :=
 (.seq (.seq (.region [
 ob 20 (.mv (.tmp 9)),
 ob 21 (.bin .neq (.tmp 20) (.cst (.int .i64 0)))] false [2, 8, 9, 21]) (.cond (.tmp 21) q74_0 (.skip))) q74_6)
def q74_8 : ACode :=
 (.seq (.region [
 ob 13 (.loadA 3 (.tmp 3)),
 ob 14 (.build [(.slice .c0 []), (.int .i64 0), (.int .i64 0)] [(0, 3, (.tmp 13))]),
 ob 15 (.box (.tmp 14)),
 ob 16 (.mv (.tmp 1)),
 ob 17 (.call 103 [(.tmp 15), (.tmp 16)]),
 ob 12 (.mv (.tmp 17)),
 ob 18 (.extract (.tmp 12) 0),
 ob 19 (.extract (.tmp 12) 1),
 ob 8 (.box0 [(.int .i64 0), (.int .i64 0), (.int .i64 0), (.slice .c0 []), (.slice .c0 []), (.int .i64 0)]),
 ox (.store 6 (.tmp 8) (.tmp 18)),
 ob 9 (.mv (.tmp 19))] false [2, 8, 9]) q74_7)
def E74 := And.intro (exK_head q74_0.eq_1) (And.intro (exK_head q74_1.eq_1) (And.intro (exK_head q74_2.eq_1) (And.intro (exK_head q74_3.eq_1) (And.intro (exK_head q74_4.eq_1) (And.intro (exK_head q74_5.eq_1) (And.intro (exK_head q74_6.eq_1) (And.intro (exK_head q74_7.eq_1) (exK_head q74_8.eq_1))))))))
def ann74 : Ann := { n := 40, own := [], lv := [(0, [1, 2, 3]), (1, [2, 8, 9]), (2, [2, 8, 9, 21]), (3, [6, 7]), (4, [2, 8, 25]), (5, [6, 7]), (6, [8, 10, 11]), (7, [8, 10, 33]), (8, [6, 7]), (9, [6, 7])], lp := [] }
def fn74 : AFn := AFn.mk 3 [.tmp 6, .tmp 7]
  (.seq (.region [
  ob 3 (.box (.tmp 0)),
  ob 6 (.mv (.cst (.int .i64 0))),
  ob 7 (.mv (.cst (.int .i64 0)))] false [1, 2, 3]) q74_8)
theorem ok74 : compFn Tryz.prog ann74 Tryz.f74 = some fn74 := by kernel_rfl
def q75_0 : ACode :=
 (.seq (.region [
 ob 16 (.build [(.int .i64 0), (.int .i64 0), (.int .i64 0), (.slice .c0 []), (.slice .c0 []), (.int .i64 0)] []),
 ox (.store 6 (.tmp 4) (.tmp 16)),
 ob 5 (.mv (.cst (.bool false)))] false [4, 5]) (.ret))
def q75_1 : ACode :=
 (.seq (.region [
 ob 17 (.mv (.tmp 0)),
 ob 18 (.chk (.tmp 17)),
 ob 19 (.faddr 0 (.tmp 18)),
 ob 20 (.faddr 0 (.tmp 19)),
 ob 21 (.load1 (.tmp 20)),
 ob 22 (.mv (.tmp 6)),
 ob 23 (.iaddr 6 (.tmp 21) (.tmp 22)),
 ob 24 (.loadA 6 (.tmp 23)),
 ox (.store 6 (.tmp 4) (.tmp 24)),
 ob 5 (.mv (.cst (.bool true)))] false [4, 5]) (.ret))
def q75_2 : ACode :=
 (.seq (.seq (.region [
 ob 14 (.mv (.tmp 7)),
 ob 15 (.not (.tmp 14))] false [0, 4, 6, 15]) (.cond (.tmp 15) q75_0 (.skip))) q75_1)
def q75_3 : ACode :=
 (.seq (.region [
 ob 9 (.mv (.tmp 0)),
 ob 10 (.mv (.tmp 1)),
 ob 11 (.call 105 [(.tmp 9), (.tmp 10)]),
 ob 8 (.mv (.tmp 11)),
 ob 12 (.extract (.tmp 8) 0),
 ob 13 (.extract (.tmp 8) 1),
 ob 6 (.mv (.tmp 12)),
 ob 7 (.mv (.tmp 13))] false [0, 4, 6, 7]) q75_2)
def E75 := And.intro (exK_head q75_0.eq_1) (And.intro (exK_head q75_1.eq_1) (And.intro (exK_head q75_2.eq_1) (exK_head q75_3.eq_1)))
def ann75 : Ann := { n := 25, own := [], lv := [(0, [0, 1, 4]), (1, [0, 4, 6, 7]), (2, [0, 4, 6, 15]), (3, [4, 5]), (4, [4, 5])], lp := [] }
def fn75 : AFn := AFn.mk 2 [.cellA 4 6, .tmp 5]
  (.seq (.region [
  ob 4 (.box0 [(.int .i64 0), (.int .i64 0), (.int .i64 0), (.slice .c0 []), (.slice .c0 []), (.int .i64 0)]),
  ob 5 (.mv (.cst (.bool false)))] false [0, 1, 4]) q75_3)
theorem ok75 : compFn Tryz.prog ann75 Tryz.f75 = some fn75 := by kernel_rfl
def q76_0 : ACode :=
 (.seq (.region [
 ob 19 (.mv (.tmp 8)),
 ob 6 (.mv (.tmp 19))] false [6]) (.ret))
def q76_1 : ACode :=
 (.seq (.region [
 ob 6 (.mv (.cst (.int .i64 60)))] false [6]) (.ret))
def q76_2 : ACode :=
 (.seq (.region [
 ob 6 (.mv (.cst (.int .i64 71)))] false [6]) (.ret))
def q76_3 : ACode :=
 (.seq (.region [
 ob 29 (.mv (.tmp 10))] false [0, 1, 7, 29]) (.cond (.tmp 29) q76_2 (.skip)))
def q76_4 : ACode :=
 (.seq (.region [
 ob 6 (.mv (.cst (.int .i64 76)))] false [6]) (.ret))
def q76_5 : ACode :=
 (.seq (.region [
 ob 6 (.mv (.cst (.int .i64 0)))] false [6]) (.ret))
def q76_6 : ACode :=
 (.seq (.seq (.region [
 ob 30 (.faddr 4 (.tmp 7)),
 ob 31 (.load1 (.tmp 30)),
 ob 32 (.lenV (.tmp 31)),
 ob 33 (.bin .geq (.tmp 32) (.cst (.int .i64 64))),
 ob 34 (.mv (.tmp 33)),
 og 35 34 false (.mv (.tmp 0)),
 og 36 34 false (.mv (.tmp 1)),
 og 37 34 false (.call 106 [(.tmp 35), (.tmp 36)]),
 og 38 34 false (.bin .geq (.tmp 37) (.cst (.int .i64 12))),
 ob 39 (.pick (.tmp 34) (.cst (.bool true)) (.tmp 38)),
 ob 40 (.mv (.tmp 39)),
 og 41 40 false (.mv (.tmp 0)),
 og 42 40 false (.chk (.tmp 41)),
 og 43 40 false (.faddr 0 (.tmp 42)),
 og 44 40 false (.faddr 2 (.tmp 43)),
 og 45 40 false (.load1 (.tmp 44)),
 og 46 40 false (.bin .geq (.tmp 45) (.cst (.int .i64 1099511627776))),
 ob 47 (.pick (.tmp 40) (.cst (.bool true)) (.tmp 46))] false [47]) (.cond (.tmp 47) q76_4 (.skip))) q76_5)
def q76_7 : ACode :=
 (.seq (.seq (.region [
 ob 24 (.loadA 6 (.tmp 7)),
 ob 25 (.mv (.tmp 2)),
 ob 26 (.call 104 [(.tmp 24), (.tmp 25)]),
 ob 23 (.mv (.tmp 26)),
 ob 27 (.extract (.tmp 23) 0),
 ob 28 (.extract (.tmp 23) 1),
 ob 9 (.mv (.tmp 27)),
 ob 10 (.mv (.tmp 28))] false [0, 1, 7, 10]) q76_3) q76_6)
def q76_8 : ACode :=
 (.seq (.seq (.region [
 ob 20 (.mv (.tmp 2)),
 ob 21 (.call 102 [(.tmp 20)]),
 ob 22 (.not (.tmp 21))] false [0, 1, 2, 7, 22]) (.cond (.tmp 22) q76_1 (.skip))) q76_7)
def q76_9 : ACode :=
 (.seq (.seq (.region [
 ob 17 (.mv (.tmp 8)),
 ob 18 (.bin .neq (.tmp 17) (.cst (.int .i64 0)))] false [0, 1, 2, 7, 8, 18]) (.cond (.tmp 18) q76_0 (.skip))) q76_8)
def q76_10 : ACode :=
 (.seq (.region [
 ob 12 (.mv (.tmp 0)),
 ob 13 (.mv (.tmp 1)),
 ob 14 (.call 103 [(.tmp 12), (.tmp 13)]),
 ob 11 (.mv (.tmp 14)),
 ob 15 (.extract (.tmp 11) 0),
 ob 16 (.extract (.tmp 11) 1),
 ob 7 (.box0 [(.int .i64 0), (.int .i64 0), (.int .i64 0), (.slice .c0 []), (.slice .c0 []), (.int .i64 0)]),
 ox (.store 6 (.tmp 7) (.tmp 15)),
 ob 8 (.mv (.tmp 16))] false [0, 1, 2, 7, 8]) q76_9)
def E76 := And.intro (exK_head q76_0.eq_1) (And.intro (exK_head q76_1.eq_1) (And.intro (exK_head q76_2.eq_1) (And.intro (exK_head q76_3.eq_1) (And.intro (exK_head q76_4.eq_1) (And.intro (exK_head q76_5.eq_1) (And.intro (exK_head q76_6.eq_1) (And.intro (exK_head q76_7.eq_1) (And.intro (exK_head q76_8.eq_1) (And.intro (exK_head q76_9.eq_1) (exK_head q76_10.eq_1))))))))))
def ann76 : Ann := { n := 48, own := [], lv := [(0, [0, 1, 2]), (1, [0, 1, 2, 7, 8]), (2, [0, 1, 2, 7, 8, 18]), (3, [6]), (4, [0, 1, 2, 7, 22]), (5, [6]), (6, [0, 1, 7, 10]), (7, [0, 1, 7, 29]), (8, [6]), (9, [47]), (10, [6]), (11, [6])], lp := [] }
def fn76 : AFn := AFn.mk 3 [.tmp 6]
  (.seq (.region [
  ob 6 (.mv (.cst (.int .i64 0)))] false [0, 1, 2]) q76_10)
theorem ok76 : compFn Tryz.prog ann76 Tryz.f76 = some fn76 := by kernel_rfl
def q77_0 : ACode :=
 (.seq (.region [
 ob 24 (.mv (.tmp 0)),
 ob 25 (.chk (.tmp 24)),
 ob 26 (.faddr 0 (.tmp 25)),
 ob 27 (.faddr 0 (.tmp 26)),
 ob 28 (.load1 (.tmp 27)),
 ob 29 (.mv (.tmp 4)),
 ob 30 (.loadA 6 (.tmp 3)),
 ob 31 (.iaddr 6 (.tmp 28) (.tmp 29)),
 ox (.store 6 (.tmp 31) (.tmp 30))] true []) (.ret))
def q77_1 : ACode :=
 (.region [
 ob 32 (.mv (.tmp 0)),
 ob 33 (.mv (.tmp 0)),
 ob 34 (.chk (.tmp 33)),
 ob 35 (.faddr 0 (.tmp 34)),
 ob 36 (.faddr 0 (.tmp 35)),
 ob 37 (.load1 (.tmp 36)),
 ob 38 (.mv (.tmp 4)),
 ob 39 (.loadA 6 (.tmp 3)),
 ob 40 (.lits 6 [(.tmp 39)]),
 ob 41 (.callD 108 [(.tmp 37), (.tmp 38), (.tmp 40)]),
 ob 42 (.chk (.tmp 32)),
 ob 43 (.faddr 0 (.tmp 42)),
 ob 44 (.faddr 0 (.tmp 43)),
 ox (.store 1 (.tmp 44) (.tmp 41))] true [])
def q77_2 : ACode :=
 (.seq (.seq (.region [
 ob 23 (.mv (.tmp 5))] false [0, 3, 4, 23]) (.cond (.tmp 23) q77_0 (.skip))) q77_1)
def q77_3 : ACode :=
 (.seq (.region [
 ob 13 (.mv (.tmp 0)),
 ob 14 (.mv (.tmp 0)),
 ob 15 (.chk (.tmp 14)),
 ob 16 (.faddr 0 (.tmp 15)),
 ob 17 (.faddr 0 (.tmp 16)),
 ob 18 (.load1 (.tmp 17)),
 ob 19 (.callD 107 [(.tmp 18)]),
 ob 20 (.chk (.tmp 13)),
 ob 21 (.faddr 0 (.tmp 20)),
 ob 22 (.faddr 0 (.tmp 21)),
 ox (.store 1 (.tmp 22) (.tmp 19))] false [0, 3, 4, 5]) q77_2)
def q77_4 : ACode :=
 (.seq (.region [
 ob 7 (.mv (.tmp 0)),
 ob 8 (.faddr 0 (.tmp 3)),
 ob 9 (.load1 (.tmp 8)),
 ob 10 (.call 105 [(.tmp 7), (.tmp 9)]),
 ob 6 (.mv (.tmp 10)),
 ob 11 (.extract (.tmp 6) 0),
 ob 12 (.extract (.tmp 6) 1),
 ob 4 (.mv (.tmp 11)),
 ob 5 (.mv (.tmp 12))] false [0, 3, 4, 5]) q77_3)
def E77 := And.intro (exK_head q77_0.eq_1) (And.intro (exK_head q77_1.eq_1) (And.intro (exK_head q77_2.eq_1) (And.intro (exK_head q77_3.eq_1) (exK_head q77_4.eq_1))))
def ann77 : Ann := { n := 45, own := [1000107, 1000108], lv := [(0, [0, 3]), (1, [0, 3, 4, 5]), (2, [0, 3, 4, 5]), (3, [0, 3, 4, 23]), (4, []), (5, [])], lp := [] }
def fn77 : AFn := AFn.mk 2 []
  (.seq (.region [
  ob 3 (.box (.tmp 1))] false [0, 3]) q77_4)
theorem ok77 : compFn Tryz.prog ann77 Tryz.f77 = some fn77 := by kernel_rfl
def q78_0 : ACode :=
 (.region [
 ob 48 (.mv (.tmp 0)),
 ob 49 (.loadA 6 (.tmp 8)),
 ob 50 (.callF 77 [(.tmp 48), (.tmp 49)])] false [])
def q78_1 : ACode :=
 (.seq (.region [
 ob 39 (.mv (.tmp 0)),
 ob 40 (.chk (.tmp 39)),
 ob 41 (.faddr 0 (.tmp 40)),
 ob 42 (.faddr 2 (.tmp 41)),
 ob 43 (.load1 (.tmp 42)),
 ob 44 (.bin .add (.tmp 43) (.cst (.int .i64 1))),
 ob 45 (.chk (.tmp 39)),
 ob 46 (.faddr 0 (.tmp 45)),
 ob 47 (.faddr 2 (.tmp 46)),
 ox (.store 1 (.tmp 47) (.tmp 44))] false [0, 8]) q78_0)
def q78_2 : ACode :=
 (.seq (.region [
 ob 24 (.faddr 4 (.tmp 8)),
 ob 25 (.load1 (.tmp 24)),
 ⟨(some 26), .callD 110 [(.tmp 25)], none, true, false, []⟩,
 ob 27 (.mv (.tmp 10)),
 ob 28 (.mv (.tmp 2)),
 ob 29 (.mv (.tmp 3)),
 ob 30 (.mv (.tmp 0)),
 ob 31 (.chk (.tmp 30)),
 ob 32 (.faddr 0 (.tmp 31)),
 ob 33 (.faddr 2 (.tmp 32)),
 ob 34 (.load1 (.tmp 33)),
 ob 35 (.build [(.str []), (.int .i64 0), (.int .i64 0)] [(0, 1, (.tmp 28)), (1, 1, (.tmp 29)), (2, 1, (.tmp 34))]),
 ob 36 (.lits 3 [(.tmp 35)]),
 ob 37 (.callD 109 [(.tmp 26), (.tmp 27), (.tmp 36)]),
 ob 38 (.faddr 4 (.tmp 8)),
 ox (.store 1 (.tmp 38) (.tmp 37))] true [0, 8]) q78_1)
def q78_3 : ACode :=
 (.seq (.region [
 ob 19 (.loadA 6 (.tmp 8)),
 ob 20 (.mv (.tmp 2)),
 ob 21 (.call 104 [(.tmp 19), (.tmp 20)]),
 ob 18 (.mv (.tmp 21)),
 ob 22 (.extract (.tmp 18) 0),
 ob 23 (.extract (.tmp 18) 1),
 ob 10 (.mv (.tmp 22)),
 ob 11 (.mv (.tmp 23))] false [0, 2, 3, 8, 10]) q78_2)
def E78 := And.intro (exK_head q78_0.eq_1) (And.intro (exK_head q78_1.eq_1) (And.intro (exK_head q78_2.eq_1) (exK_head q78_3.eq_1)))
def ann78 : Ann := { n := 51, own := [1000110, 1000109, 2000077], lv := [(0, [0, 2, 3, 8]), (1, [0, 2, 3, 8, 10]), (2, [0, 8]), (3, [0, 8]), (4, [])], lp := [] }
def fn78 : AFn := AFn.mk 4 []
  (.seq (.region [
  ob 13 (.mv (.tmp 0)),
  ob 14 (.mv (.tmp 1)),
  ob 15 (.call 75 [(.tmp 13), (.tmp 14)]),
  ob 12 (.mv (.tmp 15)),
  ob 16 (.extract (.tmp 12) 0),
  ob 17 (.extract (.tmp 12) 1),
  ob 8 (.box0 [(.int .i64 0), (.int .i64 0), (.int .i64 0), (.slice .c0 []), (.slice .c0 []), (.int .i64 0)]),
  ox (.store 6 (.tmp 8) (.tmp 16)),
  ob 9 (.mv (.tmp 17))] false [0, 2, 3, 8]) q78_3)
theorem ok78 : compFn Tryz.prog ann78 Tryz.f78 = some fn78 := by kernel_rfl
def q102_0 : ACode :=
 (.seq (.region [
 ob 2 (.mv (.cst (.bool false)))] false [2]) (.ret))
def q102_1 : ACode :=
 (.seq (.region [
 ob 2 (.mv (.cst (.bool false)))] false [2]) (.ret))
def q102_2 : ACode :=
 (.seq (.region [
 ob 25 (.mv (.tmp 4)),
 ob 26 (.bin .lss (.tmp 25) (.cst (.int .i32 32))),
 ob 27 (.mv (.tmp 26)),
 og 28 27 false (.mv (.tmp 4)),
 og 29 27 false (.bin .eql (.tmp 28) (.cst (.int .i32 47))),
 ob 30 (.pick (.tmp 27) (.cst (.bool true)) (.tmp 29))] false [21, 30]) (.cond (.tmp 30) q102_1 (.skip)))
def q102_3 : ACode :=
 (.block 1 (.seq (.region [
 ob 24 (.extract (.tmp 22) 2),
 ob 4 (.mv (.tmp 24))] false [4, 21]) q102_2))
def q102_4 : ACode :=
 (.seq (.cond (.tmp 23) (.skip) (.exit 0)) q102_3)
def lb102_0 : ACode :=
 (.seq (.region [
 ob 22 (.nextS (.tmp 21)),
 ob 23 (.extract (.tmp 22) 0)] false [21, 22, 23]) q102_4)
def q102_5 : ACode :=
 (.seq (.region [
 ob 2 (.mv (.cst (.bool true)))] false [2]) (.ret))
def q102_6 : ACode :=
 (.seq (.seq (.region [
 ob 20 (.mv (.tmp 0)),
 ob 21 (.rngS (.tmp 20))] false [21]) (.block 0 (.loop [21] lb102_0))) q102_5)
def q102_7 : ACode :=
 (.seq (.seq (.region [
 ob 5 (.mv (.tmp 0)),
 ob 6 (.bin .eql (.tmp 5) (.cst (.str []))),
 ob 7 (.mv (.tmp 6)),
 og 8 7 false (.mv (.tmp 0)),
 og 9 7 false (.lenS (.tmp 8)),
 og 10 7 false (.bin .gtr (.tmp 9) (.cst (.int .i64 32))),
 ob 11 (.pick (.tmp 7) (.cst (.bool true)) (.tmp 10)),
 ob 12 (.mv (.tmp 11)),
 og 13 12 false (.mv (.tmp 0)),
 og 14 12 false (.bin .eql (.tmp 13) (.cst (.str [46]))),
 ob 15 (.pick (.tmp 12) (.cst (.bool true)) (.tmp 14)),
 ob 16 (.mv (.tmp 15)),
 og 17 16 false (.mv (.tmp 0)),
 og 18 16 false (.bin .eql (.tmp 17) (.cst (.str [46, 46]))),
 ob 19 (.pick (.tmp 16) (.cst (.bool true)) (.tmp 18))] false [0, 19]) (.cond (.tmp 19) q102_0 (.skip))) q102_6)
def E102 := And.intro (exK_head q102_0.eq_1) (And.intro (exK_head q102_1.eq_1) (And.intro (exK_head q102_2.eq_1) (And.intro (exK_head q102_3.eq_1) (And.intro (exK_head q102_4.eq_1) (And.intro (exK_head lb102_0.eq_1) (And.intro (exK_head q102_5.eq_1) (And.intro (exK_head q102_6.eq_1) (exK_head q102_7.eq_1))))))))
def ann102 : Ann := { n := 31, own := [], lv := [(0, [0]), (1, [0, 19]), (2, [2]), (3, [21]), (4, [21, 22, 23]), (5, [4, 21]), (6, [21, 30]), (7, [2]), (8, [2])], lp := [(4, [21])] }
def fn102 : AFn := AFn.mk 1 [.tmp 2]
  (.seq (.region [
  ob 2 (.mv (.cst (.bool false)))] false [0]) q102_7)
theorem ok102 : compFn Tryz.prog ann102 Tryz.f102 = some fn102 := by kernel_rfl
def q103_0 : ACode :=
 (.seq (.region [
 ob 18 (.build [(.int .i64 0), (.int .i64 0), (.int .i64 0), (.slice .c0 []), (.slice .c0 []), (.int .i64 0)] []),
 ox (.store 6 (.tmp 4) (.tmp 18)),
 ob 5 (.mv (.cst (.int .i64 70)))] false [4, 5]) (.ret))
def q103_1 : ACode :=
 (.seq (.region [
 ob 23 (.build [(.int .i64 0), (.int .i64 0), (.int .i64 0), (.slice .c0 []), (.slice .c0 []), (.int .i64 0)] []),
 ox (.store 6 (.tmp 4) (.tmp 23)),
 ob 5 (.mv (.cst (.int .i64 73)))] false [4, 5]) (.ret))
def q103_2 : ACode :=
 (.seq (.region [
 ob 14 (.loadA 6 (.tmp 6)),
 ox (.store 6 (.tmp 4) (.tmp 14)),
 ob 5 (.mv (.cst (.int .i64 0)))] false [4, 5]) (.ret))
def q103_3 : ACode :=
 (.seq (.region [
 ob 20 (.faddr 1 (.tmp 6)),
 ob 21 (.load1 (.tmp 20)),
 ob 22 (.bin .neq (.tmp 21) (.cst (.int .i64 2))),
 ob 19 (.mv (.tmp 22))] false [4, 6, 19]) (.cond (.tmp 19) q103_1 q103_2))
def q103_4 : ACode :=
 (.block 0 (.seq (.region [
 ob 16 (.mv (.tmp 7)),
 ob 17 (.not (.tmp 16)),
 ob 15 (.mv (.tmp 17))] false [4, 6, 15]) (.cond (.tmp 15) q103_0 q103_3)))
def q103_5 : ACode :=
 (.seq (.region [
 ob 9 (.mv (.tmp 0)),
 ob 10 (.mv (.tmp 1)),
 ob 11 (.call 75 [(.tmp 9), (.tmp 10)]),
 ob 8 (.mv (.tmp 11)),
 ob 12 (.extract (.tmp 8) 0),
 ob 13 (.extract (.tmp 8) 1),
 ob 6 (.box0 [(.int .i64 0), (.int .i64 0), (.int .i64 0), (.slice .c0 []), (.slice .c0 []), (.int .i64 0)]),
 ox (.store 6 (.tmp 6) (.tmp 12)),
 ob 7 (.mv (.tmp 13))] false [4, 6, 7]) q103_4)
def E103 := And.intro (exK_head q103_0.eq_1) (And.intro (exK_head q103_1.eq_1) (And.intro (exK_head q103_2.eq_1) (And.intro (exK_head q103_3.eq_1) (And.intro (exK_head q103_4.eq_1) (exK_head q103_5.eq_1)))))
def ann103 : Ann := { n := 24, own := [], lv := [(0, [0, 1, 4]), (1, [4, 6, 7]), (2, [4, 5]), (3, [4, 6, 15]), (4, [4, 5]), (5, [4, 6, 19]), (6, [4, 5])], lp := [] }
def fn103 : AFn := AFn.mk 2 [.cellA 4 6, .tmp 5]
  (.seq (.region [
  ob 4 (.box0 [(.int .i64 0), (.int .i64 0), (.int .i64 0), (.slice .c0 []), (.slice .c0 []), (.int .i64 0)]),
  ob 5 (.mv (.cst (.int .i64 0)))] false [0, 1, 4]) q103_5)
theorem ok103 : compFn Tryz.prog ann103 Tryz.f103 = some fn103 := by kernel_rfl
def q104_0 : ACode :=
 (.seq (.region [
 ob 6 (.faddr 4 (.tmp 2)),
 ob 7 (.load1 (.tmp 6)),
 ob 8 (.mv (.tmp 1)),
 ob 9 (.call 144 [(.tmp 7), (.tmp 8), (.cst (.func 145 []))]),
 ob 10 (.extract (.tmp 9) 0),
 ob 11 (.extract (.tmp 9) 1),
 ob 4 (.mv (.tmp 10)),
 ob 5 (.mv (.tmp 11))] false [4, 5]) (.ret))
def E104 := exK_head q104_0.eq_1
def ann104 : Ann := { n := 12, own := [], lv := [(0, [1, 2]), (1, [4, 5])], lp := [] }
def fn104 : AFn := AFn.mk 2 [.tmp 4, .tmp 5]
  (.seq (.region [
  ob 2 (.box (.tmp 0)),
  ob 4 (.mv (.cst (.int .i64 0))),
  ob 5 (.mv (.cst (.bool false)))] false [1, 2]) q104_0)
theorem ok104 : compFn Tryz.prog ann104 Tryz.f104 = some fn104 := by kernel_rfl
def q105_0 : ACode :=
 (.seq (.region [
 ob 6 (.mv (.tmp 0)),
 ob 7 (.chk (.tmp 6)),
 ob 8 (.faddr 0 (.tmp 7)),
 ob 9 (.faddr 0 (.tmp 8)),
 ob 10 (.load1 (.tmp 9)),
 ob 11 (.mv (.tmp 1)),
 ob 12 (.call 147 [(.tmp 10), (.tmp 11), (.cst (.func 148 []))]),
 ob 13 (.extract (.tmp 12) 0),
 ob 14 (.extract (.tmp 12) 1),
 ob 4 (.mv (.tmp 13)),
 ob 5 (.mv (.tmp 14))] false [4, 5]) (.ret))
def E105 := exK_head q105_0.eq_1
def ann105 : Ann := { n := 15, own := [], lv := [(0, [0, 1]), (1, [4, 5])], lp := [] }
def fn105 : AFn := AFn.mk 2 [.tmp 4, .tmp 5]
  (.seq (.region [
  ob 4 (.mv (.cst (.int .i64 0))),
  ob 5 (.mv (.cst (.bool false)))] false [0, 1]) q105_0)
theorem ok105 : compFn Tryz.prog ann105 Tryz.f105 = some fn105 := by kernel_rfl
def q106_0 : ACode :=
 (.seq (.region [
 ob 5 (.mv (.tmp 0)),
 ob 6 (.mv (.tmp 1)),
 ob 7 (.call 150 [(.tmp 5), (.tmp 6)]),
 ob 8 (.lenV (.tmp 7)),
 ob 9 (.bin .sub (.tmp 8) (.cst (.int .i64 1))),
 ob 4 (.mv (.tmp 9))] false [4]) (.ret))
def E106 := exK_head q106_0.eq_1
def ann106 : Ann := { n := 10, own := [], lv := [(0, [0, 1]), (1, [4])], lp := [] }
def fn106 : AFn := AFn.mk 2 [.tmp 4]
  (.seq (.region [
  ob 4 (.mv (.cst (.int .i64 0)))] false [0, 1]) q106_0)
theorem ok106 : compFn Tryz.prog ann106 Tryz.f106 = some fn106 := by kernel_rfl
def q143_0 : ACode :=
 (.seq (.region [
 ob 6 (.mv (.tmp 0)),
 ob 7 (.mv (.tmp 1)),
 ob 8 (.call 170 [(.tmp 6), (.tmp 7)]),
 ob 9 (.extract (.tmp 8) 0),
 ob 10 (.extract (.tmp 8) 1),
 ob 4 (.mv (.tmp 9)),
 ob 5 (.mv (.tmp 10))] false [4, 5]) (.ret))
def E143 := exK_head q143_0.eq_1
def ann143 : Ann := { n := 11, own := [], lv := [(0, [0, 1]), (1, [4, 5])], lp := [] }
def fn143 : AFn := AFn.mk 2 [.tmp 4, .tmp 5]
  (.seq (.region [
  ob 4 (.mv (.cst (.str []))),
  ob 5 (.mv (.cst (.bool false)))] false [0, 1]) q143_0)
theorem ok143 : compFn Tryz.prog ann143 Tryz.f143 = some fn143 := by kernel_rfl
def q144_0 : ACode :=
 (.region [
 ob 32 (.mv (.tmp 11)),
 ob 33 (.bin .add (.tmp 32) (.cst (.int .i64 1))),
 ob 9 (.mv (.tmp 33))] false [0, 1, 2, 8, 9, 10])
def q144_1 : ACode :=
 (.region [
 ob 34 (.mv (.tmp 11)),
 ob 10 (.mv (.tmp 34))] false [0, 1, 2, 8, 9, 10])
def q144_2 : ACode :=
 (.seq (.region [
 ob 24 (.mv (.tmp 2)),
 ob 25 (.mv (.tmp 0)),
 ob 26 (.mv (.tmp 11)),
 ob 27 (.iaddr 3 (.tmp 25) (.tmp 26)),
 ob 28 (.loadA 3 (.tmp 27)),
 ob 29 (.mv (.tmp 1)),
 ob 30 (.callV (.tmp 24) [(.tmp 28), (.tmp 29)]),
 ob 31 (.bin .lss (.tmp 30) (.cst (.int .i64 0)))] false [0, 1, 2, 8, 9, 10, 11, 31]) (.cond (.tmp 31) q144_0 q144_1))
def q144_3 : ACode :=
 (.block 1 (.seq (.region [
 ob 18 (.mv (.tmp 9)),
 ob 19 (.mv (.tmp 10)),
 ob 20 (.bin .add (.tmp 18) (.tmp 19)),
 ob 21 (.conv .u64 (.tmp 20)),
 ob 22 (.bin .shr (.tmp 21) (.cst (.int .u64 1))),
 ob 23 (.conv .i64 (.tmp 22)),
 ob 11 (.mv (.tmp 23))] false [0, 1, 2, 8, 9, 10, 11]) q144_2))
def lb144_0 : ACode :=
 (.seq (.seq (.region [
 ob 15 (.mv (.tmp 9)),
 ob 16 (.mv (.tmp 10)),
 ob 17 (.bin .lss (.tmp 15) (.tmp 16))] false [0, 1, 2, 8, 9, 10, 17]) (.cond (.tmp 17) (.skip) (.exit 0))) q144_3)
def q144_4 : ACode :=
 (.seq (.region [
 ob 35 (.mv (.tmp 9)),
 ob 36 (.mv (.tmp 9)),
 ob 37 (.mv (.tmp 8)),
 ob 38 (.bin .lss (.tmp 36) (.tmp 37)),
 ob 39 (.mv (.tmp 38)),
 og 40 39 true (.mv (.tmp 2)),
 og 41 39 true (.mv (.tmp 0)),
 og 42 39 true (.mv (.tmp 9)),
 og 43 39 true (.iaddr 3 (.tmp 41) (.tmp 42)),
 og 44 39 true (.loadA 3 (.tmp 43)),
 og 45 39 true (.mv (.tmp 1)),
 og 46 39 true (.callV (.tmp 40) [(.tmp 44), (.tmp 45)]),
 og 47 39 true (.bin .eql (.tmp 46) (.cst (.int .i64 0))),
 ob 48 (.pick (.tmp 39) (.tmp 47) (.cst (.bool false))),
 ob 6 (.mv (.tmp 35)),
 ob 7 (.mv (.tmp 48))] false [6, 7]) (.ret))
def q144_5 : ACode :=
 (.seq (.block 0 (.loop [0, 1, 2, 8, 9, 10] lb144_0)) q144_4)
def q144_6 : ACode :=
 (.seq (.region [
 ob 14 (.mv (.tmp 8)),
 ob 9 (.mv (.cst (.int .i64 0))),
 ob 10 (.mv (.tmp 14))] false [0, 1, 2, 8, 9, 10]) q144_5)
def q144_7 : ACode :=
 (.seq (.region [
 ob 12 (.mv (.tmp 0)),
 ob 13 (.lenV (.tmp 12)),
 ob 8 (.mv (.tmp 13))] false [0, 1, 2, 8]) q144_6)
def E144 := And.intro (exK_head q144_0.eq_1) (And.intro (exK_head q144_1.eq_1) (And.intro (exK_head q144_2.eq_1) (And.intro (exK_head q144_3.eq_1) (And.intro (exK_head lb144_0.eq_1) (And.intro (exK_head q144_4.eq_1) (And.intro (exK_head q144_5.eq_1) (And.intro (exK_head q144_6.eq_1) (exK_head q144_7.eq_1))))))))
def ann144 : Ann := { n := 49, own := [], lv := [(0, [0, 1, 2]), (1, [0, 1, 2, 8]), (2, [0, 1, 2, 8, 9, 10]), (3, [0, 1, 2, 8, 9, 10, 17]), (4, [0, 1, 2, 8, 9, 10, 11]), (5, [0, 1, 2, 8, 9, 10, 11, 31]), (6, [0, 1, 2, 8, 9, 10]), (7, [0, 1, 2, 8, 9, 10]), (8, [6, 7])], lp := [(3, [0, 1, 2, 8, 9, 10])] }
def fn144 : AFn := AFn.mk 3 [.tmp 6, .tmp 7]
  (.seq (.region [
  ob 6 (.mv (.cst (.int .i64 0))),
  ob 7 (.mv (.cst (.bool false)))] false [0, 1, 2]) q144_7)
theorem ok144 : compFn Tryz.prog ann144 Tryz.f144 = some fn144 := by kernel_rfl
def q145_0 : ACode :=
 (.seq (.region [
 ob 5 (.faddr 0 (.tmp 2)),
 ob 6 (.load1 (.tmp 5)),
 ob 7 (.mv (.tmp 1)),
 ob 8 (.call 146 [(.tmp 6), (.tmp 7)]),
 ob 4 (.mv (.tmp 8))] false [4]) (.ret))
def E145 := exK_head q145_0.eq_1
def ann145 : Ann := { n := 9, own := [], lv := [(0, [1, 2]), (1, [4])], lp := [] }
def fn145 : AFn := AFn.mk 2 [.tmp 4]
  (.seq (.region [
  ob 2 (.box (.tmp 0)),
  ob 4 (.mv (.cst (.int .i64 0)))] false [1, 2]) q145_0)
theorem ok145 : compFn Tryz.prog ann145 Tryz.f145 = some fn145 := by kernel_rfl
def q146_0 : ACode :=
 (.seq (.region [
 ob 5 (.mv (.tmp 0)),
 ob 6 (.mv (.tmp 1)),
 ob 7 (.call 171 [(.tmp 5), (.tmp 6)]),
 ob 4 (.mv (.tmp 7))] false [4]) (.ret))
def E146 := exK_head q146_0.eq_1
def ann146 : Ann := { n := 8, own := [], lv := [(0, [0, 1]), (1, [4])], lp := [] }
def fn146 : AFn := AFn.mk 2 [.tmp 4]
  (.seq (.region [
  ob 4 (.mv (.cst (.int .i64 0)))] false [0, 1]) q146_0)
theorem ok146 : compFn Tryz.prog ann146 Tryz.f146 = some fn146 := by kernel_rfl
def q147_0 : ACode :=
 (.region [
 ob 32 (.mv (.tmp 11)),
 ob 33 (.bin .add (.tmp 32) (.cst (.int .i64 1))),
 ob 9 (.mv (.tmp 33))] false [0, 1, 2, 8, 9, 10])
def q147_1 : ACode :=
 (.region [
 ob 34 (.mv (.tmp 11)),
 ob 10 (.mv (.tmp 34))] false [0, 1, 2, 8, 9, 10])
def q147_2 : ACode :=
 (.seq (.region [
 ob 24 (.mv (.tmp 2)),
 ob 25 (.mv (.tmp 0)),
 ob 26 (.mv (.tmp 11)),
 ob 27 (.iaddr 6 (.tmp 25) (.tmp 26)),
 ob 28 (.loadA 6 (.tmp 27)),
 ob 29 (.mv (.tmp 1)),
 ob 30 (.callV (.tmp 24) [(.tmp 28), (.tmp 29)]),
 ob 31 (.bin .lss (.tmp 30) (.cst (.int .i64 0)))] false [0, 1, 2, 8, 9, 10, 11, 31]) (.cond (.tmp 31) q147_0 q147_1))
def q147_3 : ACode :=
 (.block 1 (.seq (.region [
 ob 18 (.mv (.tmp 9)),
 ob 19 (.mv (.tmp 10)),
 ob 20 (.bin .add (.tmp 18) (.tmp 19)),
 ob 21 (.conv .u64 (.tmp 20)),
 ob 22 (.bin .shr (.tmp 21) (.cst (.int .u64 1))),
 ob 23 (.conv .i64 (.tmp 22)),
 ob 11 (.mv (.tmp 23))] false [0, 1, 2, 8, 9, 10, 11]) q147_2))
def lb147_0 : ACode :=
 (.seq (.seq (.region [
 ob 15 (.mv (.tmp 9)),
 ob 16 (.mv (.tmp 10)),
 ob 17 (.bin .lss (.tmp 15) (.tmp 16))] false [0, 1, 2, 8, 9, 10, 17]) (.cond (.tmp 17) (.skip) (.exit 0))) q147_3)
def q147_4 : ACode :=
 (.seq (.region [
 ob 35 (.mv (.tmp 9)),
 ob 36 (.mv (.tmp 9)),
 ob 37 (.mv (.tmp 8)),
 ob 38 (.bin .lss (.tmp 36) (.tmp 37)),
 ob 39 (.mv (.tmp 38)),
 og 40 39 true (.mv (.tmp 2)),
 og 41 39 true (.mv (.tmp 0)),
 og 42 39 true (.mv (.tmp 9)),
 og 43 39 true (.iaddr 6 (.tmp 41) (.tmp 42)),
 og 44 39 true (.loadA 6 (.tmp 43)),
 og 45 39 true (.mv (.tmp 1)),
 og 46 39 true (.callV (.tmp 40) [(.tmp 44), (.tmp 45)]),
 og 47 39 true (.bin .eql (.tmp 46) (.cst (.int .i64 0))),
 ob 48 (.pick (.tmp 39) (.tmp 47) (.cst (.bool false))),
 ob 6 (.mv (.tmp 35)),
 ob 7 (.mv (.tmp 48))] false [6, 7]) (.ret))
def q147_5 : ACode :=
 (.seq (.block 0 (.loop [0, 1, 2, 8, 9, 10] lb147_0)) q147_4)
def q147_6 : ACode :=
 (.seq (.region [
 ob 14 (.mv (.tmp 8)),
 ob 9 (.mv (.cst (.int .i64 0))),
 ob 10 (.mv (.tmp 14))] false [0, 1, 2, 8, 9, 10]) q147_5)
def q147_7 : ACode :=
 (.seq (.region [
 ob 12 (.mv (.tmp 0)),
 ob 13 (.lenV (.tmp 12)),
 ob 8 (.mv (.tmp 13))] false [0, 1, 2, 8]) q147_6)
def E147 := And.intro (exK_head q147_0.eq_1) (And.intro (exK_head q147_1.eq_1) (And.intro (exK_head q147_2.eq_1) (And.intro (exK_head q147_3.eq_1) (And.intro (exK_head lb147_0.eq_1) (And.intro (exK_head q147_4.eq_1) (And.intro (exK_head q147_5.eq_1) (And.intro (exK_head q147_6.eq_1) (exK_head q147_7.eq_1))))))))
def ann147 : Ann := { n := 49, own := [], lv := [(0, [0, 1, 2]), (1, [0, 1, 2, 8]), (2, [0, 1, 2, 8, 9, 10]), (3, [0, 1, 2, 8, 9, 10, 17]), (4, [0, 1, 2, 8, 9, 10, 11]), (5, [0, 1, 2, 8, 9, 10, 11, 31]), (6, [0, 1, 2, 8, 9, 10]), (7, [0, 1, 2, 8, 9, 10]), (8, [6, 7])], lp := [(3, [0, 1, 2, 8, 9, 10])] }
def fn147 : AFn := AFn.mk 3 [.tmp 6, .tmp 7]
  (.seq (.region [
  ob 6 (.mv (.cst (.int .i64 0))),
  ob 7 (.mv (.cst (.bool false)))] false [0, 1, 2]) q147_7)
theorem ok147 : compFn Tryz.prog ann147 Tryz.f147 = some fn147 := by kernel_rfl
def q148_0 : ACode :=
 (.seq (.region [
 ob 5 (.faddr 0 (.tmp 2)),
 ob 6 (.load1 (.tmp 5)),
 ob 7 (.mv (.tmp 1)),
 ob 8 (.call 149 [(.tmp 6), (.tmp 7)]),
 ob 4 (.mv (.tmp 8))] false [4]) (.ret))
def E148 := exK_head q148_0.eq_1
def ann148 : Ann := { n := 9, own := [], lv := [(0, [1, 2]), (1, [4])], lp := [] }
def fn148 : AFn := AFn.mk 2 [.tmp 4]
  (.seq (.region [
  ob 2 (.box (.tmp 0)),
  ob 4 (.mv (.cst (.int .i64 0)))] false [1, 2]) q148_0)
theorem ok148 : compFn Tryz.prog ann148 Tryz.f148 = some fn148 := by kernel_rfl
def q149_0 : ACode :=
 (.seq (.region [
 ob 4 (.mv (.cst (.int .i64 0)))] false [4]) (.ret))
def q149_1 : ACode :=
 (.seq (.region [
 ob 4 (.mv (.cst (.int .i64 (-1))))] false [4]) (.ret))
def q149_2 : ACode :=
 (.seq (.seq (.region [
 ob 12 (.mv (.tmp 6))] false [12]) (.cond (.tmp 12) q149_0 (.skip))) q149_1)
def q149_3 : ACode :=
 (.seq (.region [
 ob 4 (.mv (.cst (.int .i64 1)))] false [4]) (.ret))
def q149_4 : ACode :=
 (.seq (.region [
 ob 4 (.mv (.cst (.int .i64 (-1))))] false [4]) (.ret))
def q149_5 : ACode :=
 (.seq (.region [
 ob 4 (.mv (.cst (.int .i64 1)))] false [4]) (.ret))
def q149_6 : ACode :=
 (.seq (.region [
 ob 4 (.mv (.cst (.int .i64 0)))] false [4]) (.ret))
def q149_7 : ACode :=
 (.seq (.seq (.region [
 ob 17 (.mv (.tmp 0)),
 ob 18 (.mv (.tmp 1)),
 ob 19 (.bin .gtr (.tmp 17) (.tmp 18))] false [19]) (.cond (.tmp 19) q149_5 (.skip))) q149_6)
def q149_8 : ACode :=
 (.seq (.seq (.region [
 ob 14 (.mv (.tmp 0)),
 ob 15 (.mv (.tmp 1)),
 ob 16 (.bin .lss (.tmp 14) (.tmp 15))] false [0, 1, 16]) (.cond (.tmp 16) q149_4 (.skip))) q149_7)
def q149_9 : ACode :=
 (.seq (.seq (.region [
 ob 13 (.mv (.tmp 6))] false [0, 1, 13]) (.cond (.tmp 13) q149_3 (.skip))) q149_8)
def q149_10 : ACode :=
 (.seq (.seq (.region [
 ob 11 (.mv (.tmp 5))] false [0, 1, 6, 11]) (.cond (.tmp 11) q149_2 (.skip))) q149_9)
def q149_11 : ACode :=
 (.seq (.region [
 ob 9 (.mv (.tmp 1)),
 ob 10 (.call 172 [(.tmp 9)]),
 ob 6 (.mv (.tmp 10))] false [0, 1, 5, 6]) q149_10)
def q149_12 : ACode :=
 (.seq (.region [
 ob 7 (.mv (.tmp 0)),
 ob 8 (.call 172 [(.tmp 7)]),
 ob 5 (.mv (.tmp 8))] false [0, 1, 5]) q149_11)
def E149 := And.intro (exK_head q149_0.eq_1) (And.intro (exK_head q149_1.eq_1) (And.intro (exK_head q149_2.eq_1) (And.intro (exK_head q149_3.eq_1) (And.intro (exK_head q149_4.eq_1) (And.intro (exK_head q149_5.eq_1) (And.intro (exK_head q149_6.eq_1) (And.intro (exK_head q149_7.eq_1) (And.intro (exK_head q149_8.eq_1) (And.intro (exK_head q149_9.eq_1) (And.intro (exK_head q149_10.eq_1) (And.intro (exK_head q149_11.eq_1) (exK_head q149_12.eq_1))))))))))))
def ann149 : Ann := { n := 20, own := [], lv := [(0, [0, 1]), (1, [0, 1, 5]), (2, [0, 1, 5, 6]), (3, [0, 1, 6, 11]), (4, [12]), (5, [4]), (6, [4]), (7, [0, 1, 13]), (8, [4]), (9, [0, 1, 16]), (10, [4]), (11, [19]), (12, [4]), (13, [4])], lp := [] }
def fn149 : AFn := AFn.mk 2 [.tmp 4]
  (.seq (.region [
  ob 4 (.mv (.cst (.int .i64 0)))] false [0, 1]) q149_12)
theorem ok149 : compFn Tryz.prog ann149 Tryz.f149 = some fn149 := by kernel_rfl
def q150_0 : ACode :=
 (.seq (.region [
 ob 36 (.mv (.tmp 5)),
 ob 4 (.mv (.tmp 36))] false [4]) (.ret))
def q150_1 : ACode :=
 (.region [
 ob 39 (.mv (.tmp 5)),
 ob 40 (.mv (.tmp 1)),
 ob 41 (.lits 1 [(.tmp 40)]),
 ob 42 (.append 1 8 (.tmp 39) (.tmp 41)),
 ob 5 (.mv (.tmp 42))] false [0, 1, 5])
def q150_2 : ACode :=
 (.seq (.region [
 ob 37 (.faddr 5 (.tmp 6)),
 ob 38 (.load1 (.tmp 37)),
 ob 1 (.mv (.tmp 38))] false [0, 1, 5]) q150_1)
def q150_3 : ACode :=
 (.seq (.seq (.region [
 ob 29 (.mv (.tmp 7)),
 ob 30 (.not (.tmp 29)),
 ob 31 (.mv (.tmp 30)),
 og 32 31 false (.faddr 1 (.tmp 6)),
 og 33 31 false (.load1 (.tmp 32)),
 og 34 31 false (.bin .neq (.tmp 33) (.cst (.int .i64 2))),
 ob 35 (.pick (.tmp 31) (.cst (.bool true)) (.tmp 34))] false [0, 5, 6, 35]) (.cond (.tmp 35) q150_0 (.skip))) q150_2)
def q150_4 : ACode :=
 (.block 1 (.seq (.region [
 ob 24 (.mv (.tmp 0)),
 ob 25 (.mv (.tmp 1)),
 ob 26 (.call 75 [(.tmp 24), (.tmp 25)]),
 ob 23 (.mv (.tmp 26)),
 ob 27 (.extract (.tmp 23) 0),
 ob 28 (.extract (.tmp 23) 1),
 ob 6 (.box0 [(.int .i64 0), (.int .i64 0), (.int .i64 0), (.slice .c0 []), (.slice .c0 []), (.int .i64 0)]),
 ox (.store 6 (.tmp 6) (.tmp 27)),
 ob 7 (.mv (.tmp 28))] false [0, 5, 6, 7]) q150_3))
def lb150_0 : ACode :=
 (.seq (.seq (.region [
 ob 10 (.mv (.tmp 1)),
 ob 11 (.bin .neq (.tmp 10) (.cst (.int .i64 1))),
 ob 12 (.mv (.tmp 11)),
 og 13 12 true (.mv (.tmp 5)),
 og 14 12 true (.lenV (.tmp 13)),
 og 15 12 true (.mv (.tmp 0)),
 og 16 12 true (.chk (.tmp 15)),
 og 17 12 true (.faddr 0 (.tmp 16)),
 og 18 12 true (.faddr 0 (.tmp 17)),
 og 19 12 true (.load1 (.tmp 18)),
 og 20 12 true (.lenV (.tmp 19)),
 og 21 12 true (.bin .leq (.tmp 14) (.tmp 20)),
 ob 22 (.pick (.tmp 12) (.tmp 21) (.cst (.bool false)))] false [0, 1, 5, 22]) (.cond (.tmp 22) (.skip) (.exit 0))) q150_4)
def q150_5 : ACode :=
 (.seq (.region [
 ob 43 (.mv (.tmp 5)),
 ob 4 (.mv (.tmp 43))] false [4]) (.ret))
def q150_6 : ACode :=
 (.seq (.block 0 (.loop [0, 1, 5] lb150_0)) q150_5)
def q150_7 : ACode :=
 (.seq (.region [
 ob 8 (.mv (.tmp 1)),
 ob 9 (.litsO 1 [(.tmp 8)]),
 ob 5 (.mv (.tmp 9))] false [0, 1, 5]) q150_6)
def E150 := And.intro (exK_head q150_0.eq_1) (And.intro (exK_head q150_1.eq_1) (And.intro (exK_head q150_2.eq_1) (And.intro (exK_head q150_3.eq_1) (And.intro (exK_head q150_4.eq_1) (And.intro (exK_head lb150_0.eq_1) (And.intro (exK_head q150_5.eq_1) (And.intro (exK_head q150_6.eq_1) (exK_head q150_7.eq_1))))))))
def ann150 : Ann := { n := 44, own := [9], lv := [(0, [0, 1]), (1, [0, 1, 5]), (2, [0, 1, 5, 22]), (3, [0, 5, 6, 7]), (4, [0, 5, 6, 35]), (5, [4]), (6, [0, 1, 5]), (7, [0, 1, 5]), (8, [4])], lp := [(2, [0, 1, 5])] }
def fn150 : AFn := AFn.mk 2 [.tmp 4]
  (.seq (.region [
  ob 4 (.mv (.cst (.slice .c0 [])))] false [0, 1]) q150_7)
theorem ok150 : compFn Tryz.prog ann150 Tryz.f150 = some fn150 := by kernel_rfl
def q170_0 : ACode :=
 (.seq (.region [
 ob 10 (.mv (.tmp 0)),
 ob 4 (.mv (.tmp 10)),
 ob 5 (.mv (.cst (.bool false)))] false [4, 5]) (.ret))
def q170_1 : ACode :=
 (.seq (.region [
 ob 11 (.mv (.tmp 0)),
 ob 12 (.mv (.tmp 1)),
 ob 13 (.lenS (.tmp 12)),
 ob 14 (.sliceS (.tmp 11) (some (.tmp 13)) none),
 ob 4 (.mv (.tmp 14)),
 ob 5 (.mv (.cst (.bool true)))] false [4, 5]) (.ret))
def q170_2 : ACode :=
 (.seq (.seq (.region [
 ob 6 (.mv (.tmp 0)),
 ob 7 (.mv (.tmp 1)),
 ob 8 (.call 135 [(.tmp 6), (.tmp 7)]),
 ob 9 (.not (.tmp 8))] false [0, 1, 9]) (.cond (.tmp 9) q170_0 (.skip))) q170_1)
def E170 := And.intro (exK_head q170_0.eq_1) (And.intro (exK_head q170_1.eq_1) (exK_head q170_2.eq_1))
def ann170 : Ann := { n := 15, own := [], lv := [(0, [0, 1]), (1, [0, 1, 9]), (2, [4, 5]), (3, [4, 5])], lp := [] }
def fn170 : AFn := AFn.mk 2 [.tmp 4, .tmp 5]
  (.seq (.region [
  ob 4 (.mv (.cst (.str []))),
  ob 5 (.mv (.cst (.bool false)))] false [0, 1]) q170_2)
theorem ok170 : compFn Tryz.prog ann170 Tryz.f170 = some fn170 := by kernel_rfl
def q172_0 : ACode :=
 (.seq (.region [
 ob 3 (.mv (.tmp 0)),
 ob 4 (.mv (.tmp 0)),
 ob 5 (.bin .neq (.tmp 3) (.tmp 4)),
 ob 2 (.mv (.tmp 5))] false [2]) (.ret))
def E172 := exK_head q172_0.eq_1
def ann172 : Ann := { n := 6, own := [], lv := [(0, [0]), (1, [2])], lp := [] }
def fn172 : AFn := AFn.mk 1 [.tmp 2]
  (.seq (.region [
  ob 2 (.mv (.cst (.bool false)))] false [0]) q172_0)
theorem ok172 : compFn Tryz.prog ann172 Tryz.f172 = some fn172 := by kernel_rfl
end Go.Proofs.YtannopdcbocngaaGreatDoor
namespace Go.Proofs.YtannopdcbocngaaGreatDoor
open Go Go.RowKit Go.Lib
theorem run_clear_cells {P : Program} (w : World) (t e ty : TypeId) (ht : P.underlying t = some (.slice e)) {i : TypeInfo} (hi : P.info? e = some i) {z : Value} (hz : i.zero = some z) (b o n c : Nat) (hn : 0 < n)
    (zs : List Value) (hzs : zs = (Builtin.zeroCells z.cells n).toList) (hc : ∀ j, j < zs.length → (w.cell? ⟨b, o + j, none⟩).isSome = true) (hf : ∀ j, j < zs.length → w.frozen? ⟨b, o + j, none⟩ = false) (h1 : ∀ v ∈ zs, v.oneCell' = true) :
    (Builtin.clear_ #[t] ty #[.slice (some ⟨b, o, none⟩) n c]).run P w = .ok (.tuple #[]) (w.setCells b o zs) := by
  have hst := run_storeCells_cells (P := P) b o zs 0 w (by simpa using hc) (by simpa using hf) h1
  simp only [Nat.add_zero] at hst
  rw [hzs] at hst
  obtain ⟨m, rfl⟩ : ∃ m, n = m + 1 := ⟨n - 1, by omega⟩
  rw [hzs]
  simp [Builtin.clear_, run_underlying ht, zeroValue, typeInfo, hi, hz, hst]
theorem cell_setCells_some (b : Nat) (vs : List Value) (o : Nat) (w : World) (h : ∀ j, j < vs.length → (w.cell? ⟨b, o + j, none⟩).isSome = true) (k : Nat) (hk : (w.cell? ⟨b, k, none⟩).isSome = true) : ((w.setCells b o vs).cell? ⟨b, k, none⟩).isSome = true := by
  by_cases hin : o ≤ k ∧ k < o + vs.length
  · have := World.cell?_setCells_in b vs o w h (k - o) (by omega)
    rw [show o + (k - o) = k by omega] at this
    rw [this]
    simp
  · rw [World.cell?_setCells_out b vs o w ⟨b, k, none⟩ (fun _ _ => by show k < o ∨ o + vs.length ≤ k; omega)]
    exact hk
end Go.Proofs.YtannopdcbocngaaGreatDoor
namespace Go.Proofs.YtannopdcbocngaaGreatDoor
open Go Go.RowKit Go.Lib
theorem wp_copy_q {P : Program} (w : World) {o : Oper} {a : Act} {K : Act → World → Prop} {Q : Exit → Act → World → Prop} (d s : Operand) (t t' : TypeId)
    (ho : o.op = .call { callee := .builtin .copy, args := #[d, s], argTypes := #[t, t'] }) (v u : Value) (hd : a.eval d = v) (hs : a.eval s = u) {v' : Value} {w' : World}
    (hr : (Builtin.copy_ #[t, t'] o.type #[v, u]).run P w = .ok v' w') (h : K (a.put o.dst v') w') : o.wp P a w K Q := by
  unfold Oper.wp execOp
  simp only [ho, resolve, invoke, builtin, Sem.run_bind, Sem.run_pure, Result.andThen_ok, List.map_toArray, List.map_cons, List.map_nil, hd, hs, hr]
  exact h
theorem wpList_copy_q {P : Program} (w : World) {ops : Array Oper} {rest : List Oper} {o : Oper} {a : Act} {Q : Exit → Act → World → Prop} (hgd : o.guard = none) (d s : Operand) (t t' : TypeId)
    (ho : o.op = .call { callee := .builtin .copy, args := #[d, s], argTypes := #[t, t'] }) (v u : Value) (hd : a.eval d = v) (hs : a.eval s = u) {v' : Value} {w' : World}
    (hr : (Builtin.copy_ #[t, t'] o.type #[v, u]).run P w = .ok v' w') (h : wpList P ops Q rest (a.put o.dst v') w') : wpList P ops Q (o :: rest) a w :=
  wpList_plain hgd fun _ hK => wp_copy_q w d s t t' ho v u hd hs hr (hK _ _ h)
theorem step_copy_q {P : Program} {ops : Array Oper} {o : Oper} {a : Act} {w : World} {K : Act → World → Prop} {Q : Exit → Act → World → Prop} {E : Prop}
    (hg : o.guard = none) (d x : Operand) (dT sT : TypeId) (hop : o.op = Op.call { callee := Callee.builtin Builtin.copy, args := #[d, x], argTypes := #[dT, sT] })
    (v u : Value) (hd : a.eval d = v) (hx : a.eval x = u) {v' : Value} {w' : World} (hr : (Builtin.copy_ #[dT, sT] o.type #[v, u]).run P w = .ok v' w') (hK : K (a.put o.dst v') w') :
    if Region.wanted o (yielded ops a.tmps) = true then Oper.wp P o a w K Q else E := by
  have hw : Region.wanted o (yielded ops a.tmps) = true := by simp [Region.wanted, hg]
  rw [if_pos hw]
  exact wp_copy_q w d x dT sT hop v u hd hx hr hK
theorem run_copyK {P : Program} (w : World) (dT sT ty elem : TypeId) (k b o dLen dCap : Nat) (a : Addr) (sLen sCap : Nat) (cs : List Value) (m : Nat)
    (hu : P.underlying dT = some (.slice elem)) (hs : (P.info? elem).map (·.size) = some k) (hm : m = Nat.min sLen dLen) (hn : cs.length = m * k)
    (hsrc : ∀ j v, cs[j]? = some v → w.cell? (a.add j) = some v) (hc : ∀ j, j < cs.length → (w.cell? ⟨b, o + j, none⟩).isSome = true) (hf : ∀ j, j < cs.length → w.frozen? ⟨b, o + j, none⟩ = false) (h1 : ∀ v ∈ cs, v.oneCell' = true) :
    (Builtin.copy_ #[dT, sT] ty #[.slice (some ⟨b, o, none⟩) dLen dCap, .slice (some a) sLen sCap]).run P w = .ok (goInt m) (w.setCells b o cs) := by
  have hl := run_loadCells_list (P := P) w a cs hsrc
  have hst := run_storeCells_cells (P := P) b o cs 0 w (by simpa using hc) (by simpa using hf) h1
  cases hq : P.info? elem with
  | none => simp [hq] at hs
  | some i =>
    have hi : i.size = k := by simpa [hq] using hs
    simp only [Nat.add_zero] at hst
    rw [hn] at hl
    subst hm
    simp [Builtin.copy_, run_underlying hu, Builtin.lenOf, Builtin.firstCells, sizeOf, typeInfo, hq, hi, hl, hst]
theorem run_overlaps_q {P : Program} (w : World) (tS tR e : TypeId) (ht : P.underlying tS = some (.slice e)) (size : Nat) (hz : ∀ w, (Go.sizeOf e).run P w = .ok size w)
    (a b : Addr) (la ca lb cb : Nat) (hne : a.block ≠ b.block) (tA tB : TypeId) (kA : Nat) (vs : Array Value) (hsa : w.shape? a.block = some (tA, kA + 1)) (hb : w.heap[b.block]? = some (.cells vs tB (0, 0))) :
    (Extern.SlicesOverlaps.overlaps #[tS, tS] #[tR] #[.slice (some a) la ca, .slice (some b) lb cb]).run P w = .ok (.bool false) w := by
  have hnb : (a.block != b.block) = true := by simpa using hne
  have hnb' : (a.block == b.block) = false := by simpa using hne
  have hsb : w.shape? b.block = some (tB, vs.size) := by simp [World.shape?, hb]
  have hfb : ∀ o s, w.frozen? ⟨b.block, o, s⟩ = false := fun o s => by simp [World.frozen?, hb]
  have hfb' : w.frozen? b = false := by simp [World.frozen?, hb]
  rw [show Extern.SlicesOverlaps.overlaps #[tS, tS] #[tR] #[.slice (some a) la ca, .slice (some b) lb cb] = (underlying tS >>= _) from rfl]
  by_cases h0 : la = 0 ∨ lb = 0 ∨ size = 0
  · simp [run_underlying ht, hz, h0]
  · cases hfa : w.frozen? a with
    | true => simp [run_underlying ht, hz, h0, hnb, hnb', frozen, noView, viewAt, mayBeOne, stringish, shape, Sem.run, hsa, hsb, hfa, hfb, hfb']
    | false =>
      cases hfe : w.frozen? { block := a.block, off := kA + 1 } <;>
      simp [run_underlying ht, hz, h0, hnb, hnb', frozen, noView, viewAt, mayBeOne, stringish, shape, Sem.run, hsa, hsb, hfa, hfb, hfb', hfe]
set_option maxHeartbeats 4000000 in
set_option maxRecDepth 100000 in
theorem ins108_shift (b n c i vb voff vc : Nat) (cs vs : List Value) (w : World) (hi : i < n) (hroom : n + 1 ≤ c) (hc63 : n + 1 ≤ 9223372036854775807) (hvb : vb ≠ b)
    (hcl : cs.length = n * 6) (hvl : vs.length = 6) (row : Array Value) (tB : TypeId) (hw : w.heap[b]? = some (.cells row tB (0, 0))) (hrow : c * 6 ≤ row.size)
    (hcs : ∀ j v, cs[j]? = some v → w.cell? ⟨b, j, none⟩ = some v)
    (hvs : ∀ j v, vs[j]? = some v → w.cell? ⟨vb, voff + j, none⟩ = some v) (h1c : ∀ v ∈ cs, v.oneCell' = true) (h1v : ∀ v ∈ vs, v.oneCell' = true) :
    Calls Tryz.prog 108 #[.slice (some ⟨b, 0, none⟩) n c, .int .i64 i, .slice (some ⟨vb, voff, none⟩) 1 vc] w fun e w' =>
      e = .returned (.slice (some ⟨b, 0, none⟩) (n + 1) c) ∧ w' = (w.drew.setCells b ((i + 1) * 6) (cs.drop (i * 6))).setCells b (i * 6) vs := by
  have mixed : Tryz.prog.follows .mixedOrders = true := by kernel_rfl
  have t25 := Tryz.underlying35
  have hz2 : ¬ ((i : Int) = (n : Int)) := by omega
  have hsz : (Tryz.prog.info? 64).map (·.size) = some 6 := by kernel_rfl
  have hsp : ∀ j, j < (n + 1) * 6 → (w.cell? ⟨b, j, none⟩).isSome = true := fun j hj => by
    have : (n + 1) * 6 ≤ row.size := Nat.le_trans (Nat.mul_le_mul_right _ hroom) hrow
    simp [World.cell?, hw, Array.getElem?_eq_getElem (show j < row.size by omega)]
  have hfz : ∀ j, w.frozen? ⟨b, j, none⟩ = false := fun j => by simp [World.frozen?, hw]
  obtain ⟨tA, kA, hsa⟩ : ∃ tA kA, w.shape? vb = some (tA, kA + 1) := by
    have h0 := hvs 0 _ (List.getElem?_eq_getElem (by omega))
    unfold World.cell? at h0
    unfold World.shape?
    split at h0
    · rename_i cc ee ff hb
      simp only [hb]
      simp at h0
      have := (Array.getElem?_eq_some_iff.1 h0).1
      exact ⟨ee, cc.size - 1, by simp; omega⟩
    · cases h0
  have hov : ∀ lb cb, (callFunc 151 #[.slice (some ⟨vb, voff, none⟩) 1 vc, .slice (some ⟨b, (i + 1) * 6, none⟩) lb cb]).run Tryz.prog w = .ok (.value (.bool false)) w := fun lb cb => by
    rw [run_callFunc_extern Tryz.func151 (by kernel_rfl) (by kernel_rfl) (by kernel_rfl) (e := Extern.SlicesOverlaps.overlaps #[35, 35] #[4]) (by kernel_rfl),
      run_overlaps_q w 35 4 64 t25 6 Tryz.sizeOf64 ⟨vb, voff, none⟩ ⟨b, (i + 1) * 6, none⟩ 1 vc lb cb hvb tA tB kA row hsa hw]
    rfl
  have hdl : (cs.drop (i * 6)).length = (n - i) * 6 := by rw [List.length_drop, hcl]; omega
  have hw1 : IntKind.i64.wrap ((i : Int) + 1) = (i : Int) + 1 := by rw [IntKind.wrap_i64]; omega
  have hb1 : (0 : Int) ≤ (i : Int) + 1 := by omega
  have hin : i ≤ n := by omega
  have htn : ((i : Int) + 1).toNat = i + 1 := by omega
  have hb2 : ¬ (c = i + 1) := by omega
  have hb3 : (i : Int) ≤ (n : Int) + 1 := by omega
  have hb4 : ¬ (c = i) := by omega
  have hcp1 : ∀ ty dc sc, (Builtin.copy_ #[35, 35] ty #[.slice (some ⟨b, (i + 1) * 6, none⟩) (n - i) dc, .slice (some ⟨b, i * 6, none⟩) (n + 1 - i) sc]).run Tryz.prog w.drew = .ok (goInt ((n - i : Nat) : Int)) (w.drew.setCells b ((i + 1) * 6) (cs.drop (i * 6))) := fun ty dc sc =>
    run_copyK w.drew _ _ ty 64 6 b ((i + 1) * 6) (n - i) dc ⟨b, i * 6, none⟩ (n + 1 - i) sc (cs.drop (i * 6)) (n - i) t25 hsz (by simp only [Nat.min_def]; split <;> omega) hdl
      (fun j v hj => by rw [Addr.add_lit]; exact hcs (i * 6 + j) v (by rwa [List.getElem?_drop] at hj))
      (fun j hj => hsp ((i + 1) * 6 + j) (by omega)) (fun j hj => hfz _) (fun v hv => h1c v (List.mem_of_mem_drop hv))
  obtain ⟨W1, hW1⟩ : ∃ W1, W1 = w.drew.setCells b ((i + 1) * 6) (cs.drop (i * 6)) := ⟨_, rfl⟩
  have hsp1 : ∀ q, q < (n + 1) * 6 → (W1.cell? ⟨b, q, none⟩).isSome = true := fun q hq => by
    rw [hW1]
    exact cell_setCells_some b _ _ w.drew (fun j hj => hsp ((i + 1) * 6 + j) (by omega)) _ (hsp q hq)
  have hcp2 : ∀ (W : World), (∀ x, W.cell? x = W1.cell? x) → (∀ x, W.frozen? x = W1.frozen? x) → ∀ ty dc, (Builtin.copy_ #[35, 35] ty #[.slice (some ⟨b, i * 6, none⟩) (n + 1 - i) dc, .slice (some ⟨vb, voff, none⟩) 1 vc]).run Tryz.prog W = .ok (goInt 1) (W.setCells b (i * 6) vs) := fun W hWc hWf ty dc =>
    run_copyK W _ _ ty 64 6 b (i * 6) (n + 1 - i) dc ⟨vb, voff, none⟩ 1 vc vs 1 t25 hsz (by simp only [Nat.min_def]; split <;> omega) (by omega)
      (fun j v hj => by
        rw [Addr.add_lit, hWc, hW1, World.cell?_setCells_out b _ _ _ _ (fun h _ => absurd h hvb)]
        exact hvs j v hj)
      (fun j hj => by rw [hWc]; exact hsp1 (i * 6 + j) (by omega)) (fun j hj => by rw [hWf, hW1, World.frozen?_setCells]; exact hfz _) h1v
  rw [← hW1] at hcp1
  have hWq : Hid (W1 = w.drew.setCells b ((i + 1) * 6) (cs.drop (i * 6))) := hW1
  clear hW1 hw hrow hsa hsp hfz hcs hvs hdl hcl hvl
  go_enter Tryz.func108, Tryz.ntmps108
  go_wp2_with (simp only [hov])
  go_region_law_o (refine step_copy_q rfl _ _ 35 35 rfl _ _ (by simp [Act.eval, Act.put]) (by simp [Act.eval, Act.put]) (hcp1 _ _ _) ?_)
  go_wp2_with (at_builtin; refine wpList_copy_q _ rfl _ _ 35 35 rfl _ _ rfl rfl (hcp2 _ (fun _ => rfl) (fun _ => rfl) _ _) ?_)
  go_ret
  exact ⟨rfl, by rw [← hWq.out]⟩
set_option maxHeartbeats 4000000 in
set_option maxRecDepth 100000 in
theorem ins108_end_room (b n c vb voff vc : Nat) (vs : List Value) (w : World) (hroom : n + 1 ≤ c) (hc63 : n + 1 ≤ 9223372036854775807)
    (hvl : vs.length = 6) (row : Array Value) (tB : TypeId) (hw : w.heap[b]? = some (.cells row tB (0, 0))) (hrow : c * 6 ≤ row.size)
    (hvs : ∀ j v, vs[j]? = some v → w.cell? ⟨vb, voff + j, none⟩ = some v) (h1v : ∀ v ∈ vs, v.oneCell' = true) :
    Calls Tryz.prog 108 #[.slice (some ⟨b, 0, none⟩) n c, .int .i64 n, .slice (some ⟨vb, voff, none⟩) 1 vc] w fun e w' =>
      e = .returned (.slice (some ⟨b, 0, none⟩) (n + 1) c) ∧ w' = w.setCells b (n * 6) vs := by
  have t25 := Tryz.underlying35
  obtain ⟨i0, hi0, hz1⟩ : ∃ i0, Tryz.prog.info? 64 = some i0 ∧ i0.size = 6 := by
    have h0 : (Tryz.prog.info? 64).map (fun i => i.size) = some 6 := by kernel_rfl
    obtain ⟨i0, h1, h2⟩ := Option.map_eq_some_iff.1 h0
    exact ⟨i0, h1, h2⟩
  have hfz : ∀ j, w.frozen? ⟨b, j, none⟩ = false := fun j => by simp [World.frozen?, hw]
  have hrun : ∀ ty, (Builtin.append_ #[35, 35] ty #[.slice (some ⟨b, 0, none⟩) n c, .slice (some ⟨vb, voff, none⟩) 1 vc]).run Tryz.prog w = .ok (.slice (some ⟨b, 0, none⟩) (n + 1) c) (w.setCells b (n * 6) vs) := fun ty => by
    have h := run_append_room_cells (P := Tryz.prog) w 35 ty 64 i0 t25 hi0 b 0 n c ⟨vb, voff, none⟩ 1 vc vs (by rw [hz1, hvl]) (fun j u hj => by rw [Addr.add_lit]; exact hvs j u hj) h1v hroom
      (fun j hj => by
        have : (n + 1) * 6 ≤ row.size := Nat.le_trans (Nat.mul_le_mul_right _ hroom) hrow
        rw [hz1]
        simp [World.cell?, hw, Array.getElem?_eq_getElem (show n * 6 + j < row.size by omega)]) (fun j hj => hfz _)
    rw [hz1, Nat.zero_add] at h
    exact h
  clear hfz hw hrow hvs
  go_enter Tryz.func108, Tryz.ntmps108
  go_wp2_with (at_builtin; refine Lib.wpList_append_run _ rfl _ _ _ _ rfl _ _ rfl rfl _ _ (hrun _) ?_)
  all_goals (go_ret; exact ⟨rfl, rfl⟩)
set_option maxHeartbeats 4000000 in
set_option maxRecDepth 100000 in
theorem ins108_end_grow (base : Option Addr) (n c vb voff vc : Nat) (cs vs : List Value) (w : World) (hnc : n ≤ c) (hroom : c < n + 1) (hbig : (n + 1) * 80 ≤ 140737488355328)
    (hcl : cs.length = n * 6) (hvl : vs.length = 6) (hnil : base = none → n = 0)
    (hcs : ∀ a, base = some a → ∀ j v, cs[j]? = some v → w.cell? (a.add j) = some v)
    (hvs : ∀ j v, vs[j]? = some v → w.cell? ⟨vb, voff + j, none⟩ = some v) (h1v : ∀ v ∈ vs, v.oneCell' = true) :
    Calls Tryz.prog 108 #[.slice base n c, .int .i64 n, .slice (some ⟨vb, voff, none⟩) 1 vc] w fun e w' =>
      e = .returned (.slice (some ⟨w.heap.size, 0, none⟩) (n + 1) (grownCap w (n + 1) c 64)) ∧
      w' = w.drew.alloc (.cells ((cs ++ vs).toArray ++ Builtin.zeroCells (Value.agg #[.int .i64 0, .int .i64 0, .int .i64 0, .slice none 0 0, .slice none 0 0, .int .i64 0]).cells (grownCap w (n + 1) c 64 - (n + 1))) 64) := by
  have t25 := Tryz.underlying35
  obtain ⟨i0, hi0, hzs, hz0, hzb⟩ : ∃ i0, Tryz.prog.info? 64 = some i0 ∧ i0.size = 6 ∧ i0.zero = some (.agg #[.int .i64 0, .int .i64 0, .int .i64 0, .slice none 0 0, .slice none 0 0, .int .i64 0]) ∧ i0.bytes = 80 := by
    have h0 : (Tryz.prog.info? 64).map (fun i => (i.size, i.zero, i.bytes)) = some (6, some (.agg #[.int .i64 0, .int .i64 0, .int .i64 0, .slice none 0 0, .slice none 0 0, .int .i64 0]), 80) := by kernel_rfl
    obtain ⟨i0, h1, h2⟩ := Option.map_eq_some_iff.1 h0
    injection h2 with h2 h3
    injection h3 with h3 h4
    exact ⟨i0, h1, h2, h3, h4⟩
  have hsrc : Src Tryz.prog i0.size 35 (.slice (some ⟨vb, voff, none⟩) 1 vc) 1 vs w := by
    rw [hzs]
    exact Src.ofSlice w t25 ⟨vb, voff, none⟩ 1 vc vs (by omega) (fun j u hj => by rw [Addr.add_lit]; exact hvs j u hj) h1v
  have hold : (Builtin.firstCells i0.size n (.slice base n c)).run Tryz.prog w.drew = .ok cs.toArray w.drew := by
    rw [hzs]
    cases base with
    | none =>
      have h0 := hnil rfl
      subst h0
      rw [List.length_eq_zero_iff.1 (by omega : cs.length = 0)]
      exact run_firstCells_none w.drew 6 0 0 c
    | some a => exact run_firstCells_some w.drew 6 n a n c cs (by omega) (fun j v hj => hcs a rfl j v hj)
  have hrun : ∀ ty, (Builtin.append_ #[35, 35] ty #[.slice base n c, .slice (some ⟨vb, voff, none⟩) 1 vc]).run Tryz.prog w = _ := fun ty =>
    run_append_grow_src w 35 35 ty 64 i0 _ t25 hi0 hz0 base n c cs hold _ 1 vs hsrc hroom (by omega) (by rw [hzb]; exact growslice_fits hroom hbig)
  clear hold hsrc hcs hvs
  go_enter Tryz.func108, Tryz.ntmps108
  cases base with
  | none =>
    have h0 := hnil rfl
    subst h0
    go_wp2_with (at_builtin; refine Lib.wpList_append_run _ rfl _ _ _ _ rfl _ _ rfl rfl _ _ (hrun _) ?_)
    go_ret
    exact ⟨rfl, rfl⟩
  | some a =>
    obtain ⟨ab, ao, asp⟩ := a
    go_wp2_with (at_builtin; refine Lib.wpList_append_run _ rfl _ _ _ _ rfl _ _ rfl rfl _ _ (hrun _) ?_)
    all_goals (go_ret; exact ⟨rfl, rfl⟩)
set_option maxHeartbeats 4000000 in
set_option maxRecDepth 100000 in
theorem ins108_grow (b n c i vb voff vc : Nat) (cs vs : List Value) (w : World) (hi : i < n) (hnc : n ≤ c) (hroom : c < n + 1) (hbig : (n + 1) * 80 ≤ 140737488355328)
    (hcl : cs.length = n * 6) (hvl : vs.length = 6)
    (hcs : ∀ j v, cs[j]? = some v → w.cell? ⟨b, j, none⟩ = some v)
    (hvs : ∀ j v, vs[j]? = some v → w.cell? ⟨vb, voff + j, none⟩ = some v) (h1c : ∀ v ∈ cs, v.oneCell' = true) (h1v : ∀ v ∈ vs, v.oneCell' = true) :
    Calls Tryz.prog 108 #[.slice (some ⟨b, 0, none⟩) n c, .int .i64 i, .slice (some ⟨vb, voff, none⟩) 1 vc] w fun e w' =>
      e = .returned (.slice (some ⟨w.heap.size, 0, none⟩) (n + 1) (grownCap w (n + 1) c 64)) ∧
      w' = (((w.alloc (.cells ((cs.take (i * 6)).toArray ++ Builtin.zeroCells (Value.agg #[.int .i64 0, .int .i64 0, .int .i64 0, .slice none 0 0, .slice none 0 0, .int .i64 0]).cells (n + 1 - i) ++ Builtin.zeroCells (Value.agg #[.int .i64 0, .int .i64 0, .int .i64 0, .slice none 0 0, .slice none 0 0, .int .i64 0]).cells (grownCap w (n + 1) c 64 - (n + 1))) 64)).drew.setCells w.heap.size (i * 6) vs).drew).setCells w.heap.size ((i + 1) * 6) (cs.drop (i * 6)) := by
  have mixed : Tryz.prog.follows .mixedOrders = true := by kernel_rfl
  have t25 := Tryz.underlying35
  obtain ⟨i0, hi0, hzs, hz0, hzb⟩ : ∃ i0, Tryz.prog.info? 64 = some i0 ∧ i0.size = 6 ∧ i0.zero = some (.agg #[.int .i64 0, .int .i64 0, .int .i64 0, .slice none 0 0, .slice none 0 0, .int .i64 0]) ∧ i0.bytes = 80 := by
    have h0 : (Tryz.prog.info? 64).map (fun i => (i.size, i.zero, i.bytes)) = some (6, some (.agg #[.int .i64 0, .int .i64 0, .int .i64 0, .slice none 0 0, .slice none 0 0, .int .i64 0]), 80) := by kernel_rfl
    obtain ⟨i0, h1, h2⟩ := Option.map_eq_some_iff.1 h0
    injection h2 with h2 h3
    injection h3 with h3 h4
    exact ⟨i0, h1, h2, h3, h4⟩
  have hz2 : ¬ ((i : Int) = (n : Int)) := by omega
  have hz3 : (c : Int) < (n : Int) + 1 := by omega
  have hsz : (Tryz.prog.info? 64).map (·.size) = some 6 := by rw [hi0]; simp [hzs]
  have hbw : b < w.heap.size := block_lt_of_cell (hcs 0 _ (List.getElem?_eq_getElem (by omega)))
  have hvw : vb < w.heap.size := block_lt_of_cell (hvs 0 _ (List.getElem?_eq_getElem (by omega)))
  have hkk : (n : Int) + 1 - (i : Int) = ((n + 1 - i : Nat) : Int) := by omega
  have hik : i + (n + 1 - i) = n + 1 := by omega
  have hold : (Builtin.firstCells i0.size i (.slice (some ⟨b, 0, none⟩) i c)).run Tryz.prog w.drew = .ok (cs.take (i * 6)).toArray w.drew := by
    rw [hzs]
    exact run_firstCells_some w.drew 6 i ⟨b, 0, none⟩ i c (cs.take (i * 6)) (by rw [List.length_take]; omega) (fun j v hj => by
      rw [Addr.add_lit, Nat.zero_add]
      rw [List.getElem?_take] at hj
      split at hj
      · exact hcs j v hj
      · cases hj)
  have hrz : ∀ ty, (Builtin.append_ #[35, 3] ty #[.slice (some ⟨b, 0, none⟩) i c, .int .i64 ((n : Int) + 1 - (i : Int))]).run Tryz.prog w =
      .ok (.slice (some ⟨w.heap.size, 0, none⟩) (n + 1) (grownCap w (n + 1) c 64)) (w.drew.alloc (.cells ((cs.take (i * 6)).toArray ++ Builtin.zeroCells (Value.agg #[.int .i64 0, .int .i64 0, .int .i64 0, .slice none 0 0, .slice none 0 0, .int .i64 0]).cells (n + 1 - i) ++ Builtin.zeroCells (Value.agg #[.int .i64 0, .int .i64 0, .int .i64 0, .slice none 0 0, .slice none 0 0, .int .i64 0]).cells (grownCap w (n + 1) c 64 - (n + 1))) 64)) := fun ty => by
    have h := Lib.run_append_grow_zeros w 35 3 ty 64 i0 _ .i64 .i64 t25 Tryz.underlying3 hi0 hz0 (some ⟨b, 0, none⟩) i c (cs.take (i * 6)) hold (n + 1 - i) (by omega) (by omega) (by omega) (by omega) (by rw [hzb]; omega) (by rw [hzb, hik]; exact growslice_fits hroom hbig)
    rw [hik] at h
    rw [hkk]
    exact h
  obtain ⟨G, hG⟩ : ∃ G, G = grownCap w (n + 1) c 64 := ⟨_, rfl⟩
  obtain ⟨ROW, hROW⟩ : ∃ ROW : Array Value, ROW = (cs.take (i * 6)).toArray ++ Builtin.zeroCells (Value.agg #[.int .i64 0, .int .i64 0, .int .i64 0, .slice none 0 0, .slice none 0 0, .int .i64 0]).cells (n + 1 - i) ++ Builtin.zeroCells (Value.agg #[.int .i64 0, .int .i64 0, .int .i64 0, .slice none 0 0, .slice none 0 0, .int .i64 0]).cells (G - (n + 1)) := ⟨_, rfl⟩
  rw [← hG] at hrz ⊢
  rw [← hROW] at hrz ⊢
  have hRl : (n + 1) * 6 ≤ ROW.size := by
    rw [hROW]
    simp [Builtin.zeroCells, Value.cells]
    omega
  obtain ⟨W1, hW1⟩ : ∃ W1, W1 = w.drew.alloc (.cells ROW 64) := ⟨_, rfl⟩
  rw [← hW1] at hrz
  have hN : ∀ j, j < (n + 1) * 6 → (W1.cell? ⟨w.heap.size, j, none⟩).isSome = true := fun j hj => by
    rw [hW1, World.cell?_alloc_at (w := w.drew) ROW _ w.heap.size j rfl, Array.getElem?_eq_getElem (by omega)]; rfl
  have hNf : ∀ j, W1.frozen? ⟨w.heap.size, j, none⟩ = false := fun j => by rw [hW1]; exact World.frozen?_alloc_at (w := w.drew) ROW _ w.heap.size j rfl
  have hOb : ∀ j v, w.cell? ⟨b, j, none⟩ = some v → W1.cell? ⟨b, j, none⟩ = some v := fun j v h => by rw [hW1, World.cell?_alloc_past (w := w.drew) _ b j hbw]; exact h
  have hOv : ∀ j v, w.cell? ⟨vb, j, none⟩ = some v → W1.cell? ⟨vb, j, none⟩ = some v := fun j v h => by rw [hW1, World.cell?_alloc_past (w := w.drew) _ vb j hvw]; exact h
  have hcpA : ∀ (W : World), (∀ x, W.cell? x = W1.cell? x) → (∀ x, W.frozen? x = W1.frozen? x) → ∀ ty dc, (Builtin.copy_ #[35, 35] ty #[.slice (some ⟨w.heap.size, i * 6, none⟩) (n + 1 - i) dc, .slice (some ⟨vb, voff, none⟩) 1 vc]).run Tryz.prog W = .ok (goInt 1) (W.setCells w.heap.size (i * 6) vs) := fun W hWc hWf ty dc =>
    run_copyK W _ _ ty 64 6 w.heap.size (i * 6) (n + 1 - i) dc ⟨vb, voff, none⟩ 1 vc vs 1 t25 hsz (by simp only [Nat.min_def]; split <;> omega) (by omega)
      (fun j v hj => by rw [Addr.add_lit, hWc]; exact hOv _ v (hvs j v hj))
      (fun j hj => by rw [hWc]; exact hN (i * 6 + j) (by omega)) (fun j hj => by rw [hWf]; exact hNf _) h1v
  have hGn : n + 1 ≤ G := by rw [hG]; exact grownCap_ge w _ _ _
  have hG63 : G ≤ 9223372036854775807 := by
    have := grownCap_le_maxLen w (n + 1) c 64 (by unfold maxLen; omega)
    rw [← hG] at this
    unfold maxLen at this
    omega
  have hGi : ¬ (G = i) := by omega
  have hGim : ¬ (G = i + 1) := by omega
  have hci : ¬ (c = i) := by omega
  have hbN : b ≠ w.heap.size := by omega
  have hdl : (cs.drop (i * 6)).length = (n - i) * 6 := by rw [List.length_drop, hcl]; omega
  have hcpB : ∀ (W : World), (∀ x, W.cell? x = (W1.setCells w.heap.size (i * 6) vs).cell? x) → (∀ x, W.frozen? x = (W1.setCells w.heap.size (i * 6) vs).frozen? x) → ∀ ty dc sc, (Builtin.copy_ #[35, 35] ty #[.slice (some ⟨w.heap.size, (i + 1) * 6, none⟩) (n + 1 - (i + 1)) dc, .slice (some ⟨b, i * 6, none⟩) (n - i) sc]).run Tryz.prog W = .ok (goInt ((n - i : Nat) : Int)) (W.setCells w.heap.size ((i + 1) * 6) (cs.drop (i * 6))) := fun W hWc hWf ty dc sc =>
    run_copyK W _ _ ty 64 6 w.heap.size ((i + 1) * 6) (n + 1 - (i + 1)) dc ⟨b, i * 6, none⟩ (n - i) sc (cs.drop (i * 6)) (n - i) t25 hsz (by simp only [Nat.min_def]; split <;> omega) hdl
      (fun j v hj => by
        rw [Addr.add_lit, hWc, World.cell?_setCells_out _ _ _ _ _ (fun h _ => absurd h hbN)]
        exact hOb _ v (hcs (i * 6 + j) v (by rwa [List.getElem?_drop] at hj)))
      (fun j hj => by rw [hWc]; exact cell_setCells_some _ _ _ W1 (fun t ht => hN (i * 6 + t) (by omega)) _ (hN ((i + 1) * 6 + j) (by omega)))
      (fun j hj => by rw [hWf, World.frozen?_setCells]; exact hNf _) (fun v hv => h1c v (List.mem_of_mem_drop hv))
  subst hW1
  have hE1 : ∀ x, ((w.alloc (.cells ROW 64)).drew).cell? x = (w.drew.alloc (.cells ROW 64)).cell? x := fun x => rfl
  have hE2 : ∀ x, ((w.alloc (.cells ROW 64)).drew).frozen? x = (w.drew.alloc (.cells ROW 64)).frozen? x := fun x => rfl
  have hF1 : ∀ x, (((w.alloc (.cells ROW 64)).drew.setCells w.heap.size (i * 6) vs).drew).cell? x = ((w.drew.alloc (.cells ROW 64)).setCells w.heap.size (i * 6) vs).cell? x := fun x => rfl
  have hF2 : ∀ x, (((w.alloc (.cells ROW 64)).drew.setCells w.heap.size (i * 6) vs).drew).frozen? x = ((w.drew.alloc (.cells ROW 64)).setCells w.heap.size (i * 6) vs).frozen? x := fun x => rfl
  have hw1 : IntKind.i64.wrap ((i : Int) + 1) = (i : Int) + 1 := by rw [IntKind.wrap_i64]; omega
  have hb1 : (0 : Int) ≤ (i : Int) + 1 := by omega
  have hin : i ≤ n := by omega
  have htn : ((i : Int) + 1).toNat = i + 1 := by omega
  have hb3 : (i : Int) ≤ (n : Int) := by omega
  clear hkk hik hold hROW hG hRl hN hNf hOb hOv hcs hvs hdl hcl hvl
  go_enter Tryz.func108, Tryz.ntmps108
  go_wp2_with (first
    | (at_builtin; refine Lib.wpList_append_run _ rfl _ _ _ _ rfl _ _ rfl rfl _ _ (hrz _) ?_)
    | (at_builtin; refine wpList_copy_q _ rfl _ _ 35 35 rfl _ _ rfl rfl (hcpA _ hE1 hE2 _ _) ?_)
    | (at_builtin; refine wpList_copy_q _ rfl _ _ 35 35 rfl _ _ rfl rfl (hcpB _ (fun _ => rfl) (fun _ => rfl) _ _ _) ?_))
  go_region_law_o (refine step_copy_q rfl _ _ 35 35 rfl (.slice (some ⟨w.heap.size, (i + 1) * 6, none⟩) (n + 1 - (i + 1)) (G - (i + 1))) (.slice (some ⟨b, i * 6, none⟩) (n - i) (c - i)) (by simp [Act.eval, Act.put]) (by simp [Act.eval, Act.put]) (hcpB _ hF1 hF2 3 (G - (i + 1)) (c - i)) ?_)
  go_wp2
  go_ret
  exact ⟨rfl, rfl⟩
set_option maxHeartbeats 4000000 in
set_option maxRecDepth 100000 in
theorem ins109_shift (b n c i vb voff vc : Nat) (cs vs : List Value) (w : World) (hi : i < n) (hroom : n + 1 ≤ c) (hc63 : n + 1 ≤ 9223372036854775807) (hvb : vb ≠ b)
    (hcl : cs.length = n * 3) (hvl : vs.length = 3) (row : Array Value) (tB : TypeId) (hw : w.heap[b]? = some (.cells row tB (0, 0))) (hrow : c * 3 ≤ row.size)
    (hcs : ∀ j v, cs[j]? = some v → w.cell? ⟨b, j, none⟩ = some v)
    (hvs : ∀ j v, vs[j]? = some v → w.cell? ⟨vb, voff + j, none⟩ = some v) (h1c : ∀ v ∈ cs, v.oneCell' = true) (h1v : ∀ v ∈ vs, v.oneCell' = true) :
    Calls Tryz.prog 109 #[.slice (some ⟨b, 0, none⟩) n c, .int .i64 i, .slice (some ⟨vb, voff, none⟩) 1 vc] w fun e w' =>
      e = .returned (.slice (some ⟨b, 0, none⟩) (n + 1) c) ∧ w' = (w.drew.setCells b ((i + 1) * 3) (cs.drop (i * 3))).setCells b (i * 3) vs := by
  have mixed : Tryz.prog.follows .mixedOrders = true := by kernel_rfl
  have t25 := Tryz.underlying62
  have hz2 : ¬ ((i : Int) = (n : Int)) := by omega
  have hsz : (Tryz.prog.info? 144).map (·.size) = some 3 := by kernel_rfl
  have hsp : ∀ j, j < (n + 1) * 3 → (w.cell? ⟨b, j, none⟩).isSome = true := fun j hj => by
    have : (n + 1) * 3 ≤ row.size := Nat.le_trans (Nat.mul_le_mul_right _ hroom) hrow
    simp [World.cell?, hw, Array.getElem?_eq_getElem (show j < row.size by omega)]
  have hfz : ∀ j, w.frozen? ⟨b, j, none⟩ = false := fun j => by simp [World.frozen?, hw]
  obtain ⟨tA, kA, hsa⟩ : ∃ tA kA, w.shape? vb = some (tA, kA + 1) := by
    have h0 := hvs 0 _ (List.getElem?_eq_getElem (by omega))
    unfold World.cell? at h0
    unfold World.shape?
    split at h0
    · rename_i cc ee ff hb
      simp only [hb]
      simp at h0
      have := (Array.getElem?_eq_some_iff.1 h0).1
      exact ⟨ee, cc.size - 1, by simp; omega⟩
    · cases h0
  have hov : ∀ lb cb, (callFunc 153 #[.slice (some ⟨vb, voff, none⟩) 1 vc, .slice (some ⟨b, (i + 1) * 3, none⟩) lb cb]).run Tryz.prog w = .ok (.value (.bool false)) w := fun lb cb => by
    rw [run_callFunc_extern Tryz.func153 (by kernel_rfl) (by kernel_rfl) (by kernel_rfl) (e := Extern.SlicesOverlaps.overlaps #[62, 62] #[4]) (by kernel_rfl),
      run_overlaps_q w 62 4 144 t25 3 Tryz.sizeOf144 ⟨vb, voff, none⟩ ⟨b, (i + 1) * 3, none⟩ 1 vc lb cb hvb tA tB kA row hsa hw]
    rfl
  have hdl : (cs.drop (i * 3)).length = (n - i) * 3 := by rw [List.length_drop, hcl]; omega
  have hw1 : IntKind.i64.wrap ((i : Int) + 1) = (i : Int) + 1 := by rw [IntKind.wrap_i64]; omega
  have hb1 : (0 : Int) ≤ (i : Int) + 1 := by omega
  have hin : i ≤ n := by omega
  have htn : ((i : Int) + 1).toNat = i + 1 := by omega
  have hb2 : ¬ (c = i + 1) := by omega
  have hb3 : (i : Int) ≤ (n : Int) + 1 := by omega
  have hb4 : ¬ (c = i) := by omega
  have hcp1 : ∀ ty dc sc, (Builtin.copy_ #[62, 62] ty #[.slice (some ⟨b, (i + 1) * 3, none⟩) (n - i) dc, .slice (some ⟨b, i * 3, none⟩) (n + 1 - i) sc]).run Tryz.prog w.drew = .ok (goInt ((n - i : Nat) : Int)) (w.drew.setCells b ((i + 1) * 3) (cs.drop (i * 3))) := fun ty dc sc =>
    run_copyK w.drew _ _ ty 144 3 b ((i + 1) * 3) (n - i) dc ⟨b, i * 3, none⟩ (n + 1 - i) sc (cs.drop (i * 3)) (n - i) t25 hsz (by simp only [Nat.min_def]; split <;> omega) hdl
      (fun j v hj => by rw [Addr.add_lit]; exact hcs (i * 3 + j) v (by rwa [List.getElem?_drop] at hj))
      (fun j hj => hsp ((i + 1) * 3 + j) (by omega)) (fun j hj => hfz _) (fun v hv => h1c v (List.mem_of_mem_drop hv))
  obtain ⟨W1, hW1⟩ : ∃ W1, W1 = w.drew.setCells b ((i + 1) * 3) (cs.drop (i * 3)) := ⟨_, rfl⟩
  have hsp1 : ∀ q, q < (n + 1) * 3 → (W1.cell? ⟨b, q, none⟩).isSome = true := fun q hq => by
    rw [hW1]
    exact cell_setCells_some b _ _ w.drew (fun j hj => hsp ((i + 1) * 3 + j) (by omega)) _ (hsp q hq)
  have hcp2 : ∀ (W : World), (∀ x, W.cell? x = W1.cell? x) → (∀ x, W.frozen? x = W1.frozen? x) → ∀ ty dc, (Builtin.copy_ #[62, 62] ty #[.slice (some ⟨b, i * 3, none⟩) (n + 1 - i) dc, .slice (some ⟨vb, voff, none⟩) 1 vc]).run Tryz.prog W = .ok (goInt 1) (W.setCells b (i * 3) vs) := fun W hWc hWf ty dc =>
    run_copyK W _ _ ty 144 3 b (i * 3) (n + 1 - i) dc ⟨vb, voff, none⟩ 1 vc vs 1 t25 hsz (by simp only [Nat.min_def]; split <;> omega) (by omega)
      (fun j v hj => by
        rw [Addr.add_lit, hWc, hW1, World.cell?_setCells_out b _ _ _ _ (fun h _ => absurd h hvb)]
        exact hvs j v hj)
      (fun j hj => by rw [hWc]; exact hsp1 (i * 3 + j) (by omega)) (fun j hj => by rw [hWf, hW1, World.frozen?_setCells]; exact hfz _) h1v
  rw [← hW1] at hcp1
  have hWq : Hid (W1 = w.drew.setCells b ((i + 1) * 3) (cs.drop (i * 3))) := hW1
  clear hW1 hw hrow hsa hsp hfz hcs hvs hdl hcl hvl
  go_enter Tryz.func109, Tryz.ntmps109
  go_wp2_with (simp only [hov])
  go_region_law_o (refine step_copy_q rfl _ _ 62 62 rfl _ _ (by simp [Act.eval, Act.put]) (by simp [Act.eval, Act.put]) (hcp1 _ _ _) ?_)
  go_wp2_with (at_builtin; refine wpList_copy_q _ rfl _ _ 62 62 rfl _ _ rfl rfl (hcp2 _ (fun _ => rfl) (fun _ => rfl) _ _) ?_)
  go_ret
  exact ⟨rfl, by rw [← hWq.out]⟩
set_option maxHeartbeats 4000000 in
set_option maxRecDepth 100000 in
theorem ins109_end_room (b n c vb voff vc : Nat) (vs : List Value) (w : World) (hroom : n + 1 ≤ c) (hc63 : n + 1 ≤ 9223372036854775807)
    (hvl : vs.length = 3) (row : Array Value) (tB : TypeId) (hw : w.heap[b]? = some (.cells row tB (0, 0))) (hrow : c * 3 ≤ row.size)
    (hvs : ∀ j v, vs[j]? = some v → w.cell? ⟨vb, voff + j, none⟩ = some v) (h1v : ∀ v ∈ vs, v.oneCell' = true) :
    Calls Tryz.prog 109 #[.slice (some ⟨b, 0, none⟩) n c, .int .i64 n, .slice (some ⟨vb, voff, none⟩) 1 vc] w fun e w' =>
      e = .returned (.slice (some ⟨b, 0, none⟩) (n + 1) c) ∧ w' = w.setCells b (n * 3) vs := by
  have t25 := Tryz.underlying62
  obtain ⟨i0, hi0, hz1⟩ : ∃ i0, Tryz.prog.info? 144 = some i0 ∧ i0.size = 3 := by
    have h0 : (Tryz.prog.info? 144).map (fun i => i.size) = some 3 := by kernel_rfl
    obtain ⟨i0, h1, h2⟩ := Option.map_eq_some_iff.1 h0
    exact ⟨i0, h1, h2⟩
  have hfz : ∀ j, w.frozen? ⟨b, j, none⟩ = false := fun j => by simp [World.frozen?, hw]
  have hrun : ∀ ty, (Builtin.append_ #[62, 62] ty #[.slice (some ⟨b, 0, none⟩) n c, .slice (some ⟨vb, voff, none⟩) 1 vc]).run Tryz.prog w = .ok (.slice (some ⟨b, 0, none⟩) (n + 1) c) (w.setCells b (n * 3) vs) := fun ty => by
    have h := run_append_room_cells (P := Tryz.prog) w 62 ty 144 i0 t25 hi0 b 0 n c ⟨vb, voff, none⟩ 1 vc vs (by rw [hz1, hvl]) (fun j u hj => by rw [Addr.add_lit]; exact hvs j u hj) h1v hroom
      (fun j hj => by
        have : (n + 1) * 3 ≤ row.size := Nat.le_trans (Nat.mul_le_mul_right _ hroom) hrow
        rw [hz1]
        simp [World.cell?, hw, Array.getElem?_eq_getElem (show n * 3 + j < row.size by omega)]) (fun j hj => hfz _)
    rw [hz1, Nat.zero_add] at h
    exact h
  clear hfz hw hrow hvs
  go_enter Tryz.func109, Tryz.ntmps109
  go_wp2_with (at_builtin; refine Lib.wpList_append_run _ rfl _ _ _ _ rfl _ _ rfl rfl _ _ (hrun _) ?_)
  all_goals (go_ret; exact ⟨rfl, rfl⟩)
set_option maxHeartbeats 4000000 in
set_option maxRecDepth 100000 in
theorem ins109_end_grow (base : Option Addr) (n c vb voff vc : Nat) (cs vs : List Value) (w : World) (hnc : n ≤ c) (hroom : c < n + 1) (hbig : (n + 1) * 32 ≤ 140737488355328)
    (hcl : cs.length = n * 3) (hvl : vs.length = 3) (hnil : base = none → n = 0)
    (hcs : ∀ a, base = some a → ∀ j v, cs[j]? = some v → w.cell? (a.add j) = some v)
    (hvs : ∀ j v, vs[j]? = some v → w.cell? ⟨vb, voff + j, none⟩ = some v) (h1v : ∀ v ∈ vs, v.oneCell' = true) :
    Calls Tryz.prog 109 #[.slice base n c, .int .i64 n, .slice (some ⟨vb, voff, none⟩) 1 vc] w fun e w' =>
      e = .returned (.slice (some ⟨w.heap.size, 0, none⟩) (n + 1) (grownCap w (n + 1) c 144)) ∧
      w' = w.drew.alloc (.cells ((cs ++ vs).toArray ++ Builtin.zeroCells (Value.agg #[.string ⟨#[]⟩, .int .i64 0, .int .i64 0]).cells (grownCap w (n + 1) c 144 - (n + 1))) 144) := by
  have t25 := Tryz.underlying62
  obtain ⟨i0, hi0, hzs, hz0, hzb⟩ : ∃ i0, Tryz.prog.info? 144 = some i0 ∧ i0.size = 3 ∧ i0.zero = some (.agg #[.string ⟨#[]⟩, .int .i64 0, .int .i64 0]) ∧ i0.bytes = 32 := by
    have h0 : (Tryz.prog.info? 144).map (fun i => (i.size, i.zero, i.bytes)) = some (3, some (.agg #[.string ⟨#[]⟩, .int .i64 0, .int .i64 0]), 32) := by kernel_rfl
    obtain ⟨i0, h1, h2⟩ := Option.map_eq_some_iff.1 h0
    injection h2 with h2 h3
    injection h3 with h3 h4
    exact ⟨i0, h1, h2, h3, h4⟩
  have hsrc : Src Tryz.prog i0.size 62 (.slice (some ⟨vb, voff, none⟩) 1 vc) 1 vs w := by
    rw [hzs]
    exact Src.ofSlice w t25 ⟨vb, voff, none⟩ 1 vc vs (by omega) (fun j u hj => by rw [Addr.add_lit]; exact hvs j u hj) h1v
  have hold : (Builtin.firstCells i0.size n (.slice base n c)).run Tryz.prog w.drew = .ok cs.toArray w.drew := by
    rw [hzs]
    cases base with
    | none =>
      have h0 := hnil rfl
      subst h0
      rw [List.length_eq_zero_iff.1 (by omega : cs.length = 0)]
      exact run_firstCells_none w.drew 3 0 0 c
    | some a => exact run_firstCells_some w.drew 3 n a n c cs (by omega) (fun j v hj => hcs a rfl j v hj)
  have hrun : ∀ ty, (Builtin.append_ #[62, 62] ty #[.slice base n c, .slice (some ⟨vb, voff, none⟩) 1 vc]).run Tryz.prog w = _ := fun ty =>
    run_append_grow_src w 62 62 ty 144 i0 _ t25 hi0 hz0 base n c cs hold _ 1 vs hsrc hroom (by omega) (by rw [hzb]; exact growslice_fits hroom hbig)
  clear hold hsrc hcs hvs
  go_enter Tryz.func109, Tryz.ntmps109
  cases base with
  | none =>
    have h0 := hnil rfl
    subst h0
    go_wp2_with (at_builtin; refine Lib.wpList_append_run _ rfl _ _ _ _ rfl _ _ rfl rfl _ _ (hrun _) ?_)
    go_ret
    exact ⟨rfl, rfl⟩
  | some a =>
    obtain ⟨ab, ao, asp⟩ := a
    go_wp2_with (at_builtin; refine Lib.wpList_append_run _ rfl _ _ _ _ rfl _ _ rfl rfl _ _ (hrun _) ?_)
    all_goals (go_ret; exact ⟨rfl, rfl⟩)
set_option maxHeartbeats 4000000 in
set_option maxRecDepth 100000 in
theorem ins109_grow (b n c i vb voff vc : Nat) (cs vs : List Value) (w : World) (hi : i < n) (hnc : n ≤ c) (hroom : c < n + 1) (hbig : (n + 1) * 32 ≤ 140737488355328)
    (hcl : cs.length = n * 3) (hvl : vs.length = 3)
    (hcs : ∀ j v, cs[j]? = some v → w.cell? ⟨b, j, none⟩ = some v)
    (hvs : ∀ j v, vs[j]? = some v → w.cell? ⟨vb, voff + j, none⟩ = some v) (h1c : ∀ v ∈ cs, v.oneCell' = true) (h1v : ∀ v ∈ vs, v.oneCell' = true) :
    Calls Tryz.prog 109 #[.slice (some ⟨b, 0, none⟩) n c, .int .i64 i, .slice (some ⟨vb, voff, none⟩) 1 vc] w fun e w' =>
      e = .returned (.slice (some ⟨w.heap.size, 0, none⟩) (n + 1) (grownCap w (n + 1) c 144)) ∧
      w' = (((w.alloc (.cells ((cs.take (i * 3)).toArray ++ Builtin.zeroCells (Value.agg #[.string ⟨#[]⟩, .int .i64 0, .int .i64 0]).cells (n + 1 - i) ++ Builtin.zeroCells (Value.agg #[.string ⟨#[]⟩, .int .i64 0, .int .i64 0]).cells (grownCap w (n + 1) c 144 - (n + 1))) 144)).drew.setCells w.heap.size (i * 3) vs).drew).setCells w.heap.size ((i + 1) * 3) (cs.drop (i * 3)) := by
  have mixed : Tryz.prog.follows .mixedOrders = true := by kernel_rfl
  have t25 := Tryz.underlying62
  obtain ⟨i0, hi0, hzs, hz0, hzb⟩ : ∃ i0, Tryz.prog.info? 144 = some i0 ∧ i0.size = 3 ∧ i0.zero = some (.agg #[.string ⟨#[]⟩, .int .i64 0, .int .i64 0]) ∧ i0.bytes = 32 := by
    have h0 : (Tryz.prog.info? 144).map (fun i => (i.size, i.zero, i.bytes)) = some (3, some (.agg #[.string ⟨#[]⟩, .int .i64 0, .int .i64 0]), 32) := by kernel_rfl
    obtain ⟨i0, h1, h2⟩ := Option.map_eq_some_iff.1 h0
    injection h2 with h2 h3
    injection h3 with h3 h4
    exact ⟨i0, h1, h2, h3, h4⟩
  have hz2 : ¬ ((i : Int) = (n : Int)) := by omega
  have hz3 : (c : Int) < (n : Int) + 1 := by omega
  have hsz : (Tryz.prog.info? 144).map (·.size) = some 3 := by rw [hi0]; simp [hzs]
  have hbw : b < w.heap.size := block_lt_of_cell (hcs 0 _ (List.getElem?_eq_getElem (by omega)))
  have hvw : vb < w.heap.size := block_lt_of_cell (hvs 0 _ (List.getElem?_eq_getElem (by omega)))
  have hkk : (n : Int) + 1 - (i : Int) = ((n + 1 - i : Nat) : Int) := by omega
  have hik : i + (n + 1 - i) = n + 1 := by omega
  have hold : (Builtin.firstCells i0.size i (.slice (some ⟨b, 0, none⟩) i c)).run Tryz.prog w.drew = .ok (cs.take (i * 3)).toArray w.drew := by
    rw [hzs]
    exact run_firstCells_some w.drew 3 i ⟨b, 0, none⟩ i c (cs.take (i * 3)) (by rw [List.length_take]; omega) (fun j v hj => by
      rw [Addr.add_lit, Nat.zero_add]
      rw [List.getElem?_take] at hj
      split at hj
      · exact hcs j v hj
      · cases hj)
  have hrz : ∀ ty, (Builtin.append_ #[62, 3] ty #[.slice (some ⟨b, 0, none⟩) i c, .int .i64 ((n : Int) + 1 - (i : Int))]).run Tryz.prog w =
      .ok (.slice (some ⟨w.heap.size, 0, none⟩) (n + 1) (grownCap w (n + 1) c 144)) (w.drew.alloc (.cells ((cs.take (i * 3)).toArray ++ Builtin.zeroCells (Value.agg #[.string ⟨#[]⟩, .int .i64 0, .int .i64 0]).cells (n + 1 - i) ++ Builtin.zeroCells (Value.agg #[.string ⟨#[]⟩, .int .i64 0, .int .i64 0]).cells (grownCap w (n + 1) c 144 - (n + 1))) 144)) := fun ty => by
    have h := Lib.run_append_grow_zeros w 62 3 ty 144 i0 _ .i64 .i64 t25 Tryz.underlying3 hi0 hz0 (some ⟨b, 0, none⟩) i c (cs.take (i * 3)) hold (n + 1 - i) (by omega) (by omega) (by omega) (by omega) (by rw [hzb]; omega) (by rw [hzb, hik]; exact growslice_fits hroom hbig)
    rw [hik] at h
    rw [hkk]
    exact h
  obtain ⟨G, hG⟩ : ∃ G, G = grownCap w (n + 1) c 144 := ⟨_, rfl⟩
  obtain ⟨ROW, hROW⟩ : ∃ ROW : Array Value, ROW = (cs.take (i * 3)).toArray ++ Builtin.zeroCells (Value.agg #[.string ⟨#[]⟩, .int .i64 0, .int .i64 0]).cells (n + 1 - i) ++ Builtin.zeroCells (Value.agg #[.string ⟨#[]⟩, .int .i64 0, .int .i64 0]).cells (G - (n + 1)) := ⟨_, rfl⟩
  rw [← hG] at hrz ⊢
  rw [← hROW] at hrz ⊢
  have hRl : (n + 1) * 3 ≤ ROW.size := by
    rw [hROW]
    simp [Builtin.zeroCells, Value.cells]
    omega
  obtain ⟨W1, hW1⟩ : ∃ W1, W1 = w.drew.alloc (.cells ROW 144) := ⟨_, rfl⟩
  rw [← hW1] at hrz
  have hN : ∀ j, j < (n + 1) * 3 → (W1.cell? ⟨w.heap.size, j, none⟩).isSome = true := fun j hj => by
    rw [hW1, World.cell?_alloc_at (w := w.drew) ROW _ w.heap.size j rfl, Array.getElem?_eq_getElem (by omega)]; rfl
  have hNf : ∀ j, W1.frozen? ⟨w.heap.size, j, none⟩ = false := fun j => by rw [hW1]; exact World.frozen?_alloc_at (w := w.drew) ROW _ w.heap.size j rfl
  have hOb : ∀ j v, w.cell? ⟨b, j, none⟩ = some v → W1.cell? ⟨b, j, none⟩ = some v := fun j v h => by rw [hW1, World.cell?_alloc_past (w := w.drew) _ b j hbw]; exact h
  have hOv : ∀ j v, w.cell? ⟨vb, j, none⟩ = some v → W1.cell? ⟨vb, j, none⟩ = some v := fun j v h => by rw [hW1, World.cell?_alloc_past (w := w.drew) _ vb j hvw]; exact h
  have hcpA : ∀ (W : World), (∀ x, W.cell? x = W1.cell? x) → (∀ x, W.frozen? x = W1.frozen? x) → ∀ ty dc, (Builtin.copy_ #[62, 62] ty #[.slice (some ⟨w.heap.size, i * 3, none⟩) (n + 1 - i) dc, .slice (some ⟨vb, voff, none⟩) 1 vc]).run Tryz.prog W = .ok (goInt 1) (W.setCells w.heap.size (i * 3) vs) := fun W hWc hWf ty dc =>
    run_copyK W _ _ ty 144 3 w.heap.size (i * 3) (n + 1 - i) dc ⟨vb, voff, none⟩ 1 vc vs 1 t25 hsz (by simp only [Nat.min_def]; split <;> omega) (by omega)
      (fun j v hj => by rw [Addr.add_lit, hWc]; exact hOv _ v (hvs j v hj))
      (fun j hj => by rw [hWc]; exact hN (i * 3 + j) (by omega)) (fun j hj => by rw [hWf]; exact hNf _) h1v
  have hGn : n + 1 ≤ G := by rw [hG]; exact grownCap_ge w _ _ _
  have hG63 : G ≤ 9223372036854775807 := by
    have := grownCap_le_maxLen w (n + 1) c 144 (by unfold maxLen; omega)
    rw [← hG] at this
    unfold maxLen at this
    omega
  have hGi : ¬ (G = i) := by omega
  have hGim : ¬ (G = i + 1) := by omega
  have hci : ¬ (c = i) := by omega
  have hbN : b ≠ w.heap.size := by omega
  have hdl : (cs.drop (i * 3)).length = (n - i) * 3 := by rw [List.length_drop, hcl]; omega
  have hcpB : ∀ (W : World), (∀ x, W.cell? x = (W1.setCells w.heap.size (i * 3) vs).cell? x) → (∀ x, W.frozen? x = (W1.setCells w.heap.size (i * 3) vs).frozen? x) → ∀ ty dc sc, (Builtin.copy_ #[62, 62] ty #[.slice (some ⟨w.heap.size, (i + 1) * 3, none⟩) (n + 1 - (i + 1)) dc, .slice (some ⟨b, i * 3, none⟩) (n - i) sc]).run Tryz.prog W = .ok (goInt ((n - i : Nat) : Int)) (W.setCells w.heap.size ((i + 1) * 3) (cs.drop (i * 3))) := fun W hWc hWf ty dc sc =>
    run_copyK W _ _ ty 144 3 w.heap.size ((i + 1) * 3) (n + 1 - (i + 1)) dc ⟨b, i * 3, none⟩ (n - i) sc (cs.drop (i * 3)) (n - i) t25 hsz (by simp only [Nat.min_def]; split <;> omega) hdl
      (fun j v hj => by
        rw [Addr.add_lit, hWc, World.cell?_setCells_out _ _ _ _ _ (fun h _ => absurd h hbN)]
        exact hOb _ v (hcs (i * 3 + j) v (by rwa [List.getElem?_drop] at hj)))
      (fun j hj => by rw [hWc]; exact cell_setCells_some _ _ _ W1 (fun t ht => hN (i * 3 + t) (by omega)) _ (hN ((i + 1) * 3 + j) (by omega)))
      (fun j hj => by rw [hWf, World.frozen?_setCells]; exact hNf _) (fun v hv => h1c v (List.mem_of_mem_drop hv))
  subst hW1
  have hE1 : ∀ x, ((w.alloc (.cells ROW 144)).drew).cell? x = (w.drew.alloc (.cells ROW 144)).cell? x := fun x => rfl
  have hE2 : ∀ x, ((w.alloc (.cells ROW 144)).drew).frozen? x = (w.drew.alloc (.cells ROW 144)).frozen? x := fun x => rfl
  have hF1 : ∀ x, (((w.alloc (.cells ROW 144)).drew.setCells w.heap.size (i * 3) vs).drew).cell? x = ((w.drew.alloc (.cells ROW 144)).setCells w.heap.size (i * 3) vs).cell? x := fun x => rfl
  have hF2 : ∀ x, (((w.alloc (.cells ROW 144)).drew.setCells w.heap.size (i * 3) vs).drew).frozen? x = ((w.drew.alloc (.cells ROW 144)).setCells w.heap.size (i * 3) vs).frozen? x := fun x => rfl
  have hw1 : IntKind.i64.wrap ((i : Int) + 1) = (i : Int) + 1 := by rw [IntKind.wrap_i64]; omega
  have hb1 : (0 : Int) ≤ (i : Int) + 1 := by omega
  have hin : i ≤ n := by omega
  have htn : ((i : Int) + 1).toNat = i + 1 := by omega
  have hb3 : (i : Int) ≤ (n : Int) := by omega
  clear hkk hik hold hROW hG hRl hN hNf hOb hOv hcs hvs hdl hcl hvl
  go_enter Tryz.func109, Tryz.ntmps109
  go_wp2_with (first
    | (at_builtin; refine Lib.wpList_append_run _ rfl _ _ _ _ rfl _ _ rfl rfl _ _ (hrz _) ?_)
    | (at_builtin; refine wpList_copy_q _ rfl _ _ 62 62 rfl _ _ rfl rfl (hcpA _ hE1 hE2 _ _) ?_)
    | (at_builtin; refine wpList_copy_q _ rfl _ _ 62 62 rfl _ _ rfl rfl (hcpB _ (fun _ => rfl) (fun _ => rfl) _ _ _) ?_))
  go_region_law_o (refine step_copy_q rfl _ _ 62 62 rfl (.slice (some ⟨w.heap.size, (i + 1) * 3, none⟩) (n + 1 - (i + 1)) (G - (i + 1))) (.slice (some ⟨b, i * 3, none⟩) (n - i) (c - i)) (by simp [Act.eval, Act.put]) (by simp [Act.eval, Act.put]) (hcpB _ hF1 hF2 3 (G - (i + 1)) (c - i)) ?_)
  go_wp2
  go_ret
  exact ⟨rfl, rfl⟩
end Go.Proofs.YtannopdcbocngaaGreatDoor
namespace Go.Proofs.YtannopdcbocngaaGreatDoor
open Go Go.RowKit Go.Lib
set_option maxHeartbeats 2000000 in
set_option maxRecDepth 100000 in
theorem clone110 (b off n c : Nat) (news : List Value) (w : World) (hl : news.length = n * 3) (hn : n ≤ maxLen) (hbig : n * 32 ≤ 140737488355328)
    (hc : ∀ j u, news[j]? = some u → w.cell? ⟨b, off + j, none⟩ = some u) (h1 : ∀ u ∈ news, u.oneCell' = true) :
    Calls Tryz.prog 110 #[.slice (some ⟨b, off, none⟩) n c] w fun e w' => ∃ v', e = .returned v' ∧ w'.ownsRow w.heap.size 144 3 v' n news ∧ v' ≠ .slice none 0 0 ∧ Below w.heap.size w w' := by
  have mixed : Tryz.prog.follows .mixedOrders = true := by kernel_rfl
  have t22 := Tryz.underlying62
  obtain ⟨i0, hi, hz1, hz0, hz2⟩ : ∃ i0, Tryz.prog.info? 144 = some i0 ∧ i0.size = 3 ∧ i0.zero = some (.agg #[.string ⟨#[]⟩, .int .i64 0, .int .i64 0]) ∧ i0.bytes = 32 := by
    have h0 : (Tryz.prog.info? 144).map (fun i => (i.size, i.zero, i.bytes)) = some (3, some (.agg #[.string ⟨#[]⟩, .int .i64 0, .int .i64 0]), 32) := by kernel_rfl
    obtain ⟨i0, h1, h2⟩ := Option.map_eq_some_iff.1 h0
    injection h2 with h2 h3
    injection h3 with h3 h4
    exact ⟨i0, h1, h2, h3, h4⟩
  have q22 : ∀ (w : World) (a : Option Addr) (n c n' c' : Nat), (binOp .eql 62 (.slice a n c) (.slice none n' c')).run Tryz.prog w = .ok (.bool a.isNone) w := fun w a n c n' c' => Lib.run_eql_slice_nil w _ _ a n c n' c' t22
  have u22 : ∀ w, Sem.run Tryz.prog (underlying 62) w = .ok (TypeDesc.slice 144) w := run_underlying t22
  have A : Aside (∀ j u, news[j]? = some u → w.cell? ⟨b, off + j, none⟩ = some u) := hc
  clear hc
  go_enter Tryz.func110, Tryz.ntmps110
  go_wp2_with (at_builtin; refine wpList_append_own _ rfl _ _ 62 rfl w.heap.size 144 i0 (.agg #[.string ⟨#[]⟩, .int .i64 0, .int .i64 0]) 3 32 t22 hi hz0 hz1 hz2 rfl (by omega) _ _ _ rfl (World.ownsRow_made w #[] 0 (Nat.le_refl _) (Nat.zero_le _) (by simp)) ⟨b, off, none⟩ n c news rfl ?qc1 ?qc2 ?qc3 ?qc4 ?qc5 ?qc6 ?_)
  case qc1 => exact hl
  case qc2 =>
    intro j u hj
    rw [Addr.add_lit]
    exact Lib.cell?_alloc_some _ (A.out j u hj)
  case qc3 => exact h1
  case qc4 => rw [Nat.zero_add]; exact hn
  case qc5 => rw [Nat.zero_add]; exact hbig
  case qc6 => simp
  intro v' w1 hown hgrow hnil
  go_wp2
  go_ret
  refine ⟨v', rfl, by simpa using hown, ?_, ?_⟩
  · exact hnil
  · exact ((Below.refl _ w).alloc (Nat.le_refl _) _).grown hgrow (by simp) (by intro k hk; simp [Value.ownBlock] at hk; omega)
set_option maxHeartbeats 2000000 in
set_option maxRecDepth 100000 in
theorem clone110_none (A : Option Addr) (c : Nat) (w : World) :
    Calls Tryz.prog 110 #[.slice A 0 c] w fun e w' => (∃ B, e = .returned (.slice B 0 0)) ∧ Below w.heap.size w w' := by
  have mixed : Tryz.prog.follows .mixedOrders = true := by kernel_rfl
  have t22 := Tryz.underlying62
  have q22 : ∀ (w : World) (a : Option Addr) (n c n' c' : Nat), (binOp .eql 62 (.slice a n c) (.slice none n' c')).run Tryz.prog w = .ok (.bool a.isNone) w := fun w a n c n' c' => Lib.run_eql_slice_nil w _ _ a n c n' c' t22
  have u22 : ∀ w, Sem.run Tryz.prog (underlying 62) w = .ok (TypeDesc.slice 144) w := run_underlying t22
  cases A with
  | none =>
    go_enter Tryz.func110, Tryz.ntmps110
    go_wp2
    go_ret
    exact ⟨⟨_, rfl⟩, Below.refl _ _⟩
  | some a =>
    have hrun : ∀ ty, (Builtin.append_ #[62, 62] ty #[.slice (some ⟨w.heap.size, 0, none⟩) 0 0, .slice (some a) 0 c]).run Tryz.prog (w.alloc (.cells #[] 144)) = .ok (.slice (some ⟨w.heap.size, 0, none⟩) 0 0) (w.alloc (.cells #[] 144)) := fun ty => by
      have hs := Tryz.sizeOf144
      simp [Builtin.append_, run_underlying t22, hs, Builtin.lenOf, Builtin.firstCells, loadCells, loadCellsFrom, storeCells]
    go_enter Tryz.func110, Tryz.ntmps110
    go_wp2_with (at_builtin; refine Lib.wpList_append_run _ rfl _ _ _ _ rfl _ _ rfl rfl _ _ (hrun _) ?_)
    go_ret
    exact ⟨⟨_, rfl⟩, (Below.refl _ w).alloc (Nat.le_refl _) _⟩
set_option maxHeartbeats 2000000 in
set_option maxRecDepth 100000 in
theorem clone107 (b off n c : Nat) (news : List Value) (w : World) (hl : news.length = n * 6) (hn : n ≤ maxLen) (hbig : n * 80 ≤ 140737488355328)
    (hc : ∀ j u, news[j]? = some u → w.cell? ⟨b, off + j, none⟩ = some u) (h1 : ∀ u ∈ news, u.oneCell' = true) :
    Calls Tryz.prog 107 #[.slice (some ⟨b, off, none⟩) n c] w fun e w' => ∃ v', e = .returned v' ∧ w'.ownsRow w.heap.size 64 6 v' n news ∧ v' ≠ .slice none 0 0 ∧ Below w.heap.size w w' := by
  have mixed : Tryz.prog.follows .mixedOrders = true := by kernel_rfl
  have t22 := Tryz.underlying35
  obtain ⟨i0, hi, hz1, hz0, hz2⟩ : ∃ i0, Tryz.prog.info? 64 = some i0 ∧ i0.size = 6 ∧ i0.zero = some (.agg #[.int .i64 0, .int .i64 0, .int .i64 0, .slice none 0 0, .slice none 0 0, .int .i64 0]) ∧ i0.bytes = 80 := by
    have h0 : (Tryz.prog.info? 64).map (fun i => (i.size, i.zero, i.bytes)) = some (6, some (.agg #[.int .i64 0, .int .i64 0, .int .i64 0, .slice none 0 0, .slice none 0 0, .int .i64 0]), 80) := by kernel_rfl
    obtain ⟨i0, h1, h2⟩ := Option.map_eq_some_iff.1 h0
    injection h2 with h2 h3
    injection h3 with h3 h4
    exact ⟨i0, h1, h2, h3, h4⟩
  have q22 : ∀ (w : World) (a : Option Addr) (n c n' c' : Nat), (binOp .eql 35 (.slice a n c) (.slice none n' c')).run Tryz.prog w = .ok (.bool a.isNone) w := fun w a n c n' c' => Lib.run_eql_slice_nil w _ _ a n c n' c' t22
  have u22 : ∀ w, Sem.run Tryz.prog (underlying 35) w = .ok (TypeDesc.slice 64) w := run_underlying t22
  have A : Aside (∀ j u, news[j]? = some u → w.cell? ⟨b, off + j, none⟩ = some u) := hc
  clear hc
  go_enter Tryz.func107, Tryz.ntmps107
  go_wp2_with (at_builtin; refine wpList_append_own _ rfl _ _ 35 rfl w.heap.size 64 i0 (.agg #[.int .i64 0, .int .i64 0, .int .i64 0, .slice none 0 0, .slice none 0 0, .int .i64 0]) 6 80 t22 hi hz0 hz1 hz2 rfl (by omega) _ _ _ rfl (World.ownsRow_made w #[] 0 (Nat.le_refl _) (Nat.zero_le _) (by simp)) ⟨b, off, none⟩ n c news rfl ?qc1 ?qc2 ?qc3 ?qc4 ?qc5 ?qc6 ?_)
  case qc1 => exact hl
  case qc2 =>
    intro j u hj
    rw [Addr.add_lit]
    exact Lib.cell?_alloc_some _ (A.out j u hj)
  case qc3 => exact h1
  case qc4 => rw [Nat.zero_add]; exact hn
  case qc5 => rw [Nat.zero_add]; exact hbig
  case qc6 => simp
  intro v' w1 hown hgrow hnil
  go_wp2
  go_ret
  refine ⟨v', rfl, by simpa using hown, ?_, ?_⟩
  · exact hnil
  · exact ((Below.refl _ w).alloc (Nat.le_refl _) _).grown hgrow (by simp) (by intro k hk; simp [Value.ownBlock] at hk; omega)
set_option maxHeartbeats 2000000 in
set_option maxRecDepth 100000 in
theorem clone107_none (A : Option Addr) (c : Nat) (w : World) :
    Calls Tryz.prog 107 #[.slice A 0 c] w fun e w' => (∃ B, e = .returned (.slice B 0 0)) ∧ Below w.heap.size w w' := by
  have mixed : Tryz.prog.follows .mixedOrders = true := by kernel_rfl
  have t22 := Tryz.underlying35
  have q22 : ∀ (w : World) (a : Option Addr) (n c n' c' : Nat), (binOp .eql 35 (.slice a n c) (.slice none n' c')).run Tryz.prog w = .ok (.bool a.isNone) w := fun w a n c n' c' => Lib.run_eql_slice_nil w _ _ a n c n' c' t22
  have u22 : ∀ w, Sem.run Tryz.prog (underlying 35) w = .ok (TypeDesc.slice 64) w := run_underlying t22
  cases A with
  | none =>
    go_enter Tryz.func107, Tryz.ntmps107
    go_wp2
    go_ret
    exact ⟨⟨_, rfl⟩, Below.refl _ _⟩
  | some a =>
    have hrun : ∀ ty, (Builtin.append_ #[35, 35] ty #[.slice (some ⟨w.heap.size, 0, none⟩) 0 0, .slice (some a) 0 c]).run Tryz.prog (w.alloc (.cells #[] 64)) = .ok (.slice (some ⟨w.heap.size, 0, none⟩) 0 0) (w.alloc (.cells #[] 64)) := fun ty => by
      have hs := Tryz.sizeOf64
      simp [Builtin.append_, run_underlying t22, hs, Builtin.lenOf, Builtin.firstCells, loadCells, loadCellsFrom, storeCells]
    go_enter Tryz.func107, Tryz.ntmps107
    go_wp2_with (at_builtin; refine Lib.wpList_append_run _ rfl _ _ _ _ rfl _ _ rfl rfl _ _ (hrun _) ?_)
    go_ret
    exact ⟨⟨_, rfl⟩, (Below.refl _ w).alloc (Nat.le_refl _) _⟩
end Go.Proofs.YtannopdcbocngaaGreatDoor
namespace Go.Proofs.YtannopdcbocngaaGreatDoor
open Go Go.Abs Go.RowKit
theorem clones110 {args : List AVal} {M : AMem} {x : AVal × AMem} (h : pClone 3 32 args M = some x) : SoundCall Tryz.prog 110 args M x :=
  clone_sound (by omega) (by omega) (fun b off n c news w => clone110 b off n c news w) (fun A c w => clone110_none A c w) h
theorem clones107 {args : List AVal} {M : AMem} {x : AVal × AMem} (h : pClone 6 80 args M = some x) : SoundCall Tryz.prog 107 args M x :=
  clone_sound (by omega) (by omega) (fun b off n c news w => clone107 b off n c news w) (fun A c w => clone107_none A c w) h
theorem ins108_all (b n c i vb voff vc : Nat) (cs vs : List Value) (w : World) (row : Array Value) (t : TypeId) (hi : i ≤ n) (hnc : n ≤ c) (hbig : (n + 1) * 80 ≤ 140737488355328) (h63 : n + 1 ≤ 9223372036854775807) (hvb : vb ≠ b)
    (hcl : cs.length = n * 6) (hvl : vs.length = 6) (hw : w.heap[b]? = some (.cells row t (0, 0))) (hrow : c * 6 ≤ row.size) (hat : ∀ (p : Nat) (v : Value), cs[p]? = some v → row[p]? = some v)
    (hvs : ∀ (p : Nat) (v : Value), vs[p]? = some v → w.cell? ⟨vb, voff + p, none⟩ = some v) (h1c : ∀ v ∈ cs, v.oneCell' = true) (h1v : ∀ v ∈ vs, v.oneCell' = true) :
    Calls Tryz.prog 108 #[.slice (some ⟨b, 0, none⟩) n c, .int .i64 i, .slice (some ⟨vb, voff, none⟩) 1 vc] w (InsPost 6 w b row t n i cs vs) := by
  have hcs : ∀ (p : Nat) (v : Value), cs[p]? = some v → w.cell? ⟨b, p, none⟩ = some v := fun p v hp => by simp [World.cell?, hw, hat p v hp]
  by_cases hroom : n + 1 ≤ c
  · by_cases hin : i < n
    · refine (ins108_shift b n c i vb voff vc cs vs w hin hroom h63 hvb hcl hvl row t hw hrow hcs hvs h1c h1v).mono ?_
      rintro e w' ⟨he, hw'⟩
      exact ins_shift hin hroom hcl hvl hw hrow hat he hw'
    · obtain rfl : i = n := by omega
      refine (ins108_end_room b i c vb voff vc vs w hroom h63 hvl row t hw hrow hvs h1v).mono ?_
      rintro e w' ⟨he, hw'⟩
      exact ins_room hroom hcl hvl hw hrow hat he hw'
  · have hG := grownCap_ge w (n + 1) c 64
    by_cases hin : i < n
    · refine (ins108_grow b n c i vb voff vc cs vs w hin hnc (by omega) hbig hcl hvl hcs hvs h1c h1v).mono ?_
      rintro e w' ⟨he, hw'⟩
      exact ins_grow (z := .agg #[.int .i64 0, .int .i64 0, .int .i64 0, .slice none 0 0, .slice none 0 0, .int .i64 0]) (by omega) rfl hin hcl hvl hG he hw'
    · obtain rfl : i = n := by omega
      refine (ins108_end_grow (some ⟨b, 0, none⟩) i c vb voff vc cs vs w hnc (by omega) hbig hcl hvl (by simp) (fun a ha p v hp => by injection ha with ha; subst ha; rw [Addr.add_lit, Nat.zero_add]; exact hcs p v hp) hvs h1v).mono ?_
      rintro e w' ⟨he, hw'⟩
      exact ins_end_grow (z := .agg #[.int .i64 0, .int .i64 0, .int .i64 0, .slice none 0 0, .slice none 0 0, .int .i64 0]) (by omega) rfl hcl hvl hG he hw'
theorem ins108_nil (A : Option Addr) (vb voff vc : Nat) (vs : List Value) (w : World) (row : Array Value) (hvl : vs.length = 6)
    (hvs : ∀ (p : Nat) (v : Value), vs[p]? = some v → w.cell? ⟨vb, voff + p, none⟩ = some v) (h1v : ∀ v ∈ vs, v.oneCell' = true) :
    Calls Tryz.prog 108 #[.slice A 0 0, .int .i64 0, .slice (some ⟨vb, voff, none⟩) 1 vc] w (InsPost 6 w w.heap.size row 0 0 0 [] vs) := by
  refine (ins108_end_grow A 0 0 vb voff vc [] vs w (Nat.le_refl _) (by omega) (by omega) rfl hvl (fun _ => rfl) (fun a ha p v hp => by simp at hp) hvs h1v).mono ?_
  rintro e w' ⟨he, hw'⟩
  exact ins_end_grow (z := .agg #[.int .i64 0, .int .i64 0, .int .i64 0, .slice none 0 0, .slice none 0 0, .int .i64 0]) (by omega) rfl rfl hvl (grownCap_ge w 1 0 64) he hw'
theorem insert108 {args : List AVal} {M : AMem} {x : AVal × AMem} (h : pInsert 6 80 args M = some x) : SoundCall Tryz.prog 108 args M x :=
  insert_sound (by omega) (by omega) (fun b n c i vb voff vc cs vs w row t => ins108_all b n c i vb voff vc cs vs w row t) (fun A vb voff vc vs w row => ins108_nil A vb voff vc vs w row) h
theorem ins109_all (b n c i vb voff vc : Nat) (cs vs : List Value) (w : World) (row : Array Value) (t : TypeId) (hi : i ≤ n) (hnc : n ≤ c) (hbig : (n + 1) * 32 ≤ 140737488355328) (h63 : n + 1 ≤ 9223372036854775807) (hvb : vb ≠ b)
    (hcl : cs.length = n * 3) (hvl : vs.length = 3) (hw : w.heap[b]? = some (.cells row t (0, 0))) (hrow : c * 3 ≤ row.size) (hat : ∀ (p : Nat) (v : Value), cs[p]? = some v → row[p]? = some v)
    (hvs : ∀ (p : Nat) (v : Value), vs[p]? = some v → w.cell? ⟨vb, voff + p, none⟩ = some v) (h1c : ∀ v ∈ cs, v.oneCell' = true) (h1v : ∀ v ∈ vs, v.oneCell' = true) :
    Calls Tryz.prog 109 #[.slice (some ⟨b, 0, none⟩) n c, .int .i64 i, .slice (some ⟨vb, voff, none⟩) 1 vc] w (InsPost 3 w b row t n i cs vs) := by
  have hcs : ∀ (p : Nat) (v : Value), cs[p]? = some v → w.cell? ⟨b, p, none⟩ = some v := fun p v hp => by simp [World.cell?, hw, hat p v hp]
  by_cases hroom : n + 1 ≤ c
  · by_cases hin : i < n
    · refine (ins109_shift b n c i vb voff vc cs vs w hin hroom h63 hvb hcl hvl row t hw hrow hcs hvs h1c h1v).mono ?_
      rintro e w' ⟨he, hw'⟩
      exact ins_shift hin hroom hcl hvl hw hrow hat he hw'
    · obtain rfl : i = n := by omega
      refine (ins109_end_room b i c vb voff vc vs w hroom h63 hvl row t hw hrow hvs h1v).mono ?_
      rintro e w' ⟨he, hw'⟩
      exact ins_room hroom hcl hvl hw hrow hat he hw'
  · have hG := grownCap_ge w (n + 1) c 144
    by_cases hin : i < n
    · refine (ins109_grow b n c i vb voff vc cs vs w hin hnc (by omega) hbig hcl hvl hcs hvs h1c h1v).mono ?_
      rintro e w' ⟨he, hw'⟩
      exact ins_grow (z := .agg #[.string ⟨#[]⟩, .int .i64 0, .int .i64 0]) (by omega) rfl hin hcl hvl hG he hw'
    · obtain rfl : i = n := by omega
      refine (ins109_end_grow (some ⟨b, 0, none⟩) i c vb voff vc cs vs w hnc (by omega) hbig hcl hvl (by simp) (fun a ha p v hp => by injection ha with ha; subst ha; rw [Addr.add_lit, Nat.zero_add]; exact hcs p v hp) hvs h1v).mono ?_
      rintro e w' ⟨he, hw'⟩
      exact ins_end_grow (z := .agg #[.string ⟨#[]⟩, .int .i64 0, .int .i64 0]) (by omega) rfl hcl hvl hG he hw'
theorem ins109_nil (A : Option Addr) (vb voff vc : Nat) (vs : List Value) (w : World) (row : Array Value) (hvl : vs.length = 3)
    (hvs : ∀ (p : Nat) (v : Value), vs[p]? = some v → w.cell? ⟨vb, voff + p, none⟩ = some v) (h1v : ∀ v ∈ vs, v.oneCell' = true) :
    Calls Tryz.prog 109 #[.slice A 0 0, .int .i64 0, .slice (some ⟨vb, voff, none⟩) 1 vc] w (InsPost 3 w w.heap.size row 0 0 0 [] vs) := by
  refine (ins109_end_grow A 0 0 vb voff vc [] vs w (Nat.le_refl _) (by omega) (by omega) rfl hvl (fun _ => rfl) (fun a ha p v hp => by simp at hp) hvs h1v).mono ?_
  rintro e w' ⟨he, hw'⟩
  exact ins_end_grow (z := .agg #[.string ⟨#[]⟩, .int .i64 0, .int .i64 0]) (by omega) rfl rfl hvl (grownCap_ge w 1 0 144) he hw'
theorem insert109 {args : List AVal} {M : AMem} {x : AVal × AMem} (h : pInsert 3 32 args M = some x) : SoundCall Tryz.prog 109 args M x :=
  insert_sound (by omega) (by omega) (fun b n c i vb voff vc cs vs w row t => ins109_all b n c i vb voff vc cs vs w row t) (fun A vb voff vc vs w row => ins109_nil A vb voff vc vs w row) h
end Go.Proofs.YtannopdcbocngaaGreatDoor
namespace Go.Proofs.YtannopdcbocngaaGreatDoor
open Go Go.Abs Go.RowKit
set_option maxHeartbeats 1000000 in
set_option maxRecDepth 100000 in
theorem compare171 (a b : ByteArray) (w : World) :
    Calls Tryz.prog 171 #[.string a, .string b] w fun e w' => e = .returned (.int .i64 (Lib.compareBytes a.data.toList b.data.toList)) ∧ w' = w := by
  go_enter Tryz.func171, Tryz.ntmps171
  go_wp2
  rw [run_callFunc_extern Tryz.func185 (by kernel_rfl) (by kernel_rfl) (by kernel_rfl) (e := Extern.BytealgCompare.compare) (by kernel_rfl), Lib.run_compareString]
  simp only [Result.andThen]
  rw [Oper.upon_value]
  go_wp2
  go_ret
  exact ⟨rfl, rfl⟩
noncomputable def pCompare : List AVal → AMem → Option (AVal × AMem)
  | [.str a, .str b], M => some (.int .i64 (Lib.compareBytes a b), M)
  | _, _ => none
theorem compares171 {args : List AVal} {M : AMem} {x : AVal × AMem} (h : pCompare args M = some x) : SoundCall Tryz.prog 171 args M x := by
  unfold pCompare at h
  split at h
  · rename_i a b
    injection h with h; subst h
    intro j w vs hr hG hl hv
    obtain ⟨l⟩ := vs
    match l, hl with
    | [u1, u2], _ =>
      have h1 := (hv 0 _ u1 rfl rfl).str_inv
      have h2 := (hv 1 _ u2 rfl rfl).str_inv
      subst h1; subst h2
      refine (compare171 (bs a) (bs b) w).mono ?_
      rintro e w' ⟨rfl, rfl⟩
      exact ⟨_, j, rfl, hr, .refl _ _ _, .plain (.int _ _)⟩
  · cases h
end Go.Proofs.YtannopdcbocngaaGreatDoor
namespace Go.Proofs.YtannopdcbocngaaGreatDoor
open Go Go.Abs Go.RowKit
theorem infoB : ∃ jj, Tryz.prog.info? 87 = some jj ∧ jj.size ≠ 0 := by
  have h0 : (Tryz.prog.info? 87).map (fun i => i.size) = some 2 := by kernel_rfl
  obtain ⟨i0, h1, h2⟩ := Option.map_eq_some_iff.1 h0
  exact ⟨i0, h1, by omega⟩
set_option maxHeartbeats 1000000 in
set_option maxRecDepth 100000 in
theorem check_used (b : Nat) (w : World) (h0 : w.cell? ⟨b, 0, none⟩ = some (.pointer (some ⟨b, 0, none⟩))) :
    Calls Tryz.prog 91 #[.pointer (some ⟨b, 0, none⟩)] w fun e w' => e = .returned (.tuple #[]) ∧ w' = w := by
  obtain ⟨jj, hj, _⟩ := infoB
  go_enter Tryz.func91, Tryz.ntmps91
  go_wp2
  rw [Lib.run_neq_ptr_same w _ Tryz.underlying85 hj]
  go_wp2
  go_end0
  exact ⟨rfl, rfl⟩
set_option maxHeartbeats 1000000 in
set_option maxRecDepth 100000 in
theorem check_fresh (b t n : Nat) (w : World) (h0 : w.cell? ⟨b, 0, none⟩ = some (.pointer none)) (hsh : w.shape? b = some (t, n)) (hn : 0 < n) (hfz : w.frozen? ⟨b, 0, none⟩ = false)
    (hlies : liesAt Tryz.prog Tryz.prog.depth t (n / Tryz.prog.cellsOf t) 0 87 1 = true) :
    Calls Tryz.prog 91 #[.pointer (some ⟨b, 0, none⟩)] w fun e w' => e = .returned (.tuple #[]) ∧ w' = w.setCell ⟨b, 0, none⟩ (.pointer (some ⟨b, 0, none⟩)) := by
  obtain ⟨jj, hj, hjs⟩ := infoB
  go_enter Tryz.func91, Tryz.ntmps91
  go_wp2
  rw [Lib.run_to_unsafe w ⟨b, 0, none⟩ Tryz.underlying85 Tryz.underlying177 hj hjs hsh hn]
  simp only [Result.andThen]
  rw [Oper.upon_value]
  go_wp2
  rw [run_callFunc_extern Tryz.func128 (by kernel_rfl) (by kernel_rfl) (by kernel_rfl) (e := Extern.AbiNoEscape.same) (by kernel_rfl)]
  rw [Lib.run_noEscape]
  simp only [Result.andThen]
  rw [Oper.upon_value]
  go_wp2
  rw [Lib.run_from_unsafe w ⟨b, 0, none⟩ Tryz.underlying177 Tryz.underlying85 hj hsh hlies]
  simp only [Result.andThen]
  rw [Oper.upon_value]
  go_wp2
  go_end0
  exact ⟨rfl, rfl⟩
set_option maxHeartbeats 2000000 in
set_option maxRecDepth 100000 in
theorem string_some (b g cap : Nat) (cur : Array Value) (l : List UInt8) (w : World) (hb1 : w.cell? ⟨b, 1, none⟩ = some (.slice (some ⟨g, 0, none⟩) l.length cap)) (hg : w.heap[g]? = some (.cells cur 5 (0, 0)))
    (hnc : l.length ≤ cap) (hcs : cap ≤ cur.size) (h0 : l ≠ []) (h63 : l.length ≤ 9223372036854775807) (hcell : ∀ (j : Nat) (x : UInt8), l[j]? = some x → w.cell? ⟨g, j, none⟩ = some (.int .u8 x.toNat)) :
    Calls Tryz.prog 51 #[.pointer (some ⟨b, 0, none⟩)] w fun e w' => e = .returned (.string ⟨l.toArray⟩) ∧ w' = w.drew.freeze ⟨g, 0, none⟩ l.length := by
  have mixed : Tryz.prog.follows .mixedOrders = true := by kernel_rfl
  have hl0 : l.length ≠ 0 := by simpa using h0
  have c1 : w.drew.cell? ⟨b, 1, none⟩ = some (.slice (some ⟨g, 0, none⟩) l.length cap) := hb1
  have hSD : (Builtin.unsafeSliceData_ #[22] 142 #[.slice (some ⟨g, 0, none⟩) l.length cap]).run Tryz.prog w.drew = .ok (.pointer (some ⟨g, 0, none⟩)) w.drew :=
    Lib.run_unsafeSliceData_row _ _ _ _ _ _ (by omega)
  have hUS : (Builtin.unsafeString_ #[142, 3] 9 #[.pointer (some ⟨g, 0, none⟩), .int .i64 l.length]).run Tryz.prog w.drew = .ok (.string ⟨l.toArray⟩) (w.drew.freeze ⟨g, 0, none⟩ l.length) := by
    refine Lib.run_unsafeString_row w.drew 142 3 9 5 Tryz.underlying142 (by kernel_rfl) g cur.size (by have hg' : w.drew.heap[g]? = some (.cells cur 5 (0, 0)) := hg; simp [World.shape?, hg']) l h0 (by omega) h63 ?_
    intro j x hx
    rw [addr_add, Nat.zero_add]
    exact hcell j x hx
  clear hcell hb1 hg
  go_enter Tryz.func51, Tryz.ntmps51
  go_wp2
  go_region
  all_goals (go_wp2; go_ret; exact ⟨rfl, rfl⟩)
set_option maxHeartbeats 2000000 in
set_option maxRecDepth 100000 in
theorem string_none (b : Nat) (w : World) (hb1 : w.cell? ⟨b, 1, none⟩ = some (.slice none 0 0)) :
    Calls Tryz.prog 51 #[.pointer (some ⟨b, 0, none⟩)] w fun e w' => e = .returned (.string ⟨#[]⟩) ∧ w' = w.drew := by
  have mixed : Tryz.prog.follows .mixedOrders = true := by kernel_rfl
  have c1 : w.drew.cell? ⟨b, 1, none⟩ = some (.slice none 0 0) := hb1
  have hSD : (Builtin.unsafeSliceData_ #[22] 142 #[.slice none 0 0]).run Tryz.prog w.drew = .ok (.pointer none) w.drew := rfl
  have hUS : ∀ (W : World) (q : Option Addr), (Builtin.unsafeString_ #[142, 3] 9 #[.pointer q, .int .i64 0]).run Tryz.prog W = .ok (.string .empty) W := fun W q => Lib.run_unsafeString_none W _ _ _ q
  clear hb1
  go_enter Tryz.func51, Tryz.ntmps51
  go_wp2
  go_region
  all_goals (go_wp2; go_ret; exact ⟨rfl, rfl⟩)
def pCheck : List AVal → AMem → Option (AVal × AMem)
  | [.ptr id off], M => match nth M id with
    | some (.cells cs) => match cs with
      | .bself id' t :: r => if off = 0 ∧ id' = id ∧ ((t = 87 ∧ r.length = 1) ∨ (t = 96 ∧ r.length = 2)) then some (.tuple [], M) else none
      | _ => none
    | _ => none
  | _, _ => none
theorem checks {args : List AVal} {M : AMem} {x : AVal × AMem} (h : pCheck args M = some x) : SoundCall Tryz.prog 91 args M x := by
  unfold pCheck at h
  split at h
  · rename_i id off
    split at h
    · rename_i cs hM
      split at h
      · rename_i id' t r
        split at h
        · rename_i hc
          obtain ⟨rfl, rfl, hc⟩ := hc
          injection h with h; subst h
          intro j w vs hr hG hl hv
          obtain ⟨u, rfl⟩ := one_arg hl
          rw [nth_eq] at hM
          obtain ⟨b, _, _, hj, rfl⟩ := (hv 0 _ u rfl rfl).ptr_inv
          obtain ⟨us, t0, hw, hlen, hcs, hcell⟩ := box_cell hr hM hj
          have hlen' : us.size = r.length + 1 := by simpa using hlen.symm
          have h0 : us[0]? = some (us[0]'(by omega)) := Array.getElem?_eq_getElem (by omega)
          obtain ⟨b', _, hj', ⟨vs', fr, hk⟩, hv0⟩ := (hcs 0 _ _ rfl h0).bself_inv
          rw [hj] at hj'; injection hj' with hj'; subst hj'
          rw [hw] at hk; injection hk with hk; injection hk with _ ht _
          subst ht
          rcases hv0 with hv0 | hv0
          · have hc0 : w.cell? ⟨b, 0, none⟩ = some (.pointer none) := by rw [hcell, h0, hv0]
            refine (check_fresh b t0 us.size w hc0 (by simp [World.shape?, hw]) (by omega) (by simp [World.frozen?, hw]) ?_).mono ?_
            · rcases hc with ⟨rfl, hr1⟩ | ⟨rfl, hr1⟩
              · rw [show us.size = 2 by omega]; kernel_rfl
              · rw [show us.size = 3 by omega]; kernel_rfl
            · rintro e w' ⟨rfl, rfl⟩
              have hw' : (w.setCell ⟨b, 0, none⟩ (.pointer (some ⟨b, 0, none⟩))).heap[b]? = some (.cells (us.setIfInBounds 0 (.pointer (some ⟨b, 0, none⟩))) t0 (0, 0)) := by
                simp [World.setCell, Array.getElem?_modify, hw]
              have hb : ∀ b', b' ≠ b → b' < w.heap.size → (w.setCell ⟨b, 0, none⟩ (.pointer (some ⟨b, 0, none⟩))).heap[b']? = w.heap[b']? := fun b' hne _ => by
                simp [World.setCell, Array.getElem?_modify, Ne.symm hne]
              have q : Quiet w (w.setCell ⟨b, 0, none⟩ (.pointer (some ⟨b, 0, none⟩))) := ⟨by simp [World.setCell], rfl, rfl, rfl⟩
              have htg : ∀ (vs : Array Value) (t : TypeId) (fr : Nat × Nat), w.heap[b]? = some (.cells vs t fr) → ∃ vs' fr', (w.setCell ⟨b, 0, none⟩ (.pointer (some ⟨b, 0, none⟩))).heap[b]? = some (.cells vs' t fr') ∧ vs'.size = vs.size := fun vs t fr h => by
                rw [hw] at h; injection h with h; injection h with h1 h _; subst h1; subst h; exact ⟨_, _, hw', by simp⟩
              have hset : M.set id' (.cells (.bself id' t0 :: r)) = M := by
                apply List.ext_getElem?
                intro q
                by_cases hq : id' = q
                · subst hq; rw [set_same (lt_of_some hM), hM]
                · rw [set_other hq]
              have ext := Ext.store (bx' := .cells (.bself id' t0 :: r)) hM rfl rfl hj hr q hb htg
              have rel := Rel.store (bx' := .cells (.bself id' t0 :: r)) hM rfl rfl hj hr q hb htg fun j' M' hx => ⟨_, t0, hw', by simpa using hlen, fun i c v hc' hv' => by
                cases i with
                | zero =>
                  simp at hc'; subst hc'
                  have : v = .pointer (some ⟨b, 0, none⟩) := by
                    have hpos : 0 < us.size := by omega
                    simpa [hpos] using hv'.symm
                  subst this
                  obtain ⟨h1, bx, h2, h3⟩ := hx.fix _ _ hM rfl
                  obtain ⟨cs', rfl⟩ := tag_cells h3
                  exact .bself ⟨_, h2⟩ (h1.trans hj) ⟨_, _, hw'⟩ (.inr rfl)
                | succ i =>
                  rw [Array.getElem?_setIfInBounds_ne (by omega)] at hv'
                  exact (hcs (i + 1) c v hc' hv').mono hx⟩
              rw [hset] at ext rel
              exact ⟨_, j, rfl, rel, ext, .tuple rfl fun i c v h => by simp at h⟩
          · have hc0 : w.cell? ⟨b, 0, none⟩ = some (.pointer (some ⟨b, 0, none⟩)) := by rw [hcell, h0, hv0]
            refine (check_used b w hc0).mono ?_
            rintro e w' ⟨rfl, rfl⟩
            exact ⟨_, j, rfl, hr, .refl _ _ _, .tuple rfl fun i c v h => by simp at h⟩
        · cases h
      · cases h
    · cases h
  · cases h
def pString : List AVal → AMem → Option (AVal × AMem)
  | [.ptr id off], M => match nth M id with
    | some (.cells cs) => match cs with
      | .bself id' t :: .obuf k e x l :: r => match nth M k with
        | some (.tick sz n) => if off = 0 ∧ e = 5 ∧ n = l.length ∧ l.length ≤ 2 ^ 44 ∧ (l ≠ [] ∨ x = true) then some (.str l, setN (setN M id (.cells (.bself id' t :: .any :: r))) k (.tick sz (n + 1))) else none
        | _ => none
      | _ => none
    | _ => none
  | _, _ => none
theorem strings {args : List AVal} {M : AMem} {y : AVal × AMem} (h : pString args M = some y) : SoundCall Tryz.prog 51 args M y := by
  unfold pString at h
  split at h
  · rename_i id off
    split at h
    · rename_i cs hM
      split at h
      · rename_i id' t k e x l r
        split at h
        · rename_i sz n hk
          split at h
          · rename_i hc
            obtain ⟨rfl, rfl, rfl, hbig, hc⟩ := hc
            injection h with h; subst h
            intro j w vs hr hG hl hv
            obtain ⟨u, rfl⟩ := one_arg hl
            rw [nth_eq] at hM hk
            obtain ⟨b, _, _, hj, rfl⟩ := (hv 0 _ u rfl rfl).ptr_inv
            obtain ⟨us, t0, hw, hlen, hcs, hcell⟩ := box_cell hr hM hj
            have hlen' : us.size = r.length + 2 := by simpa using hlen.symm
            have h1 : us[1]? = some (us[1]'(by omega)) := Array.getElem?_eq_getElem (by omega)
            obtain ⟨n0, g1, g2, g3, g4⟩ := (hcs 1 _ _ rfl h1).obuf_inv
            rw [hk] at g1; injection g1 with g1; injection g1 with g1 g1'
            subst g1; subst g1'
            have hkid : id ≠ k := by rintro rfl; rw [hM] at hk; cases hk
            -- the memory behind it
            have q0 : Quiet w w := ⟨Nat.le_refl _, rfl, rfl, rfl⟩
            have ext1 := Ext.store (bx' := .cells (.bself id' t :: .any :: r)) hM rfl rfl hj hr q0 (fun _ _ _ => rfl) (fun vs t fr h => ⟨vs, fr, h, rfl⟩)
            have rel1 := Rel.store (bx' := .cells (.bself id' t :: .any :: r)) hM rfl rfl hj hr q0 (fun _ _ _ => rfl) (fun vs t fr h => ⟨vs, fr, h, rfl⟩) fun j' M' hx => ⟨us, t0, hw, by simpa using hlen, fun i c v hc' hv' => by
              match i, hc' with
              | 0, hc' => exact (hcs 0 c v hc' hv').mono hx
              | 1, hc' => injection hc' with hc'; subst hc'; exact .any _
              | i + 2, hc' => exact (hcs (i + 2) c v hc' hv').mono hx⟩
            have hk1 : (M.set id (.cells (.bself id' t :: .any :: r)))[k]? = some (.tick 1 l.length) := by rw [set_other hkid]; exact hk
            rw [setN_eq, setN_eq]
            rcases g4 rfl with ⟨p1, p2, A, p3, p4⟩ | ⟨g, cap, cur, p0, p1, p2, p3, p4, p5⟩
            · have hl0 : l = [] := List.eq_nil_of_length_eq_zero p2
              subst hl0
              have hx : x = true := by rcases hc with hc | hc; exact absurd rfl hc; exact hc
              obtain rfl := p4 hx
              have hc1 : w.cell? ⟨b, 1, none⟩ = some (.slice none 0 0) := by rw [hcell, h1, p3]
              refine (string_none b w hc1).mono ?_
              rintro e w' ⟨rfl, rfl⟩
              have q : Quiet w w.drew := ⟨Nat.le_refl _, rfl, rfl, rfl⟩
              exact ⟨_, upd j k none, rfl, Rel.tickDrop hk1 (Nat.lt_succ_self _) rel1 q (fun _ _ _ => rfl) (fun b vs t fr _ h => ⟨fr, h⟩), ext1.trans (Ext.tickDrop hk1 (Nat.lt_succ_self _) rel1 q (fun _ _ _ => rfl) (fun b vs t fr _ h => ⟨fr, h⟩)), .plain (.str _)⟩
            · have hl0 : l ≠ [] := by rintro rfl; simp at p0
              have hc1 : w.cell? ⟨b, 1, none⟩ = some (.slice (some ⟨g, 0, none⟩) l.length cap) := by rw [hcell, h1, p2]
              obtain ⟨A, cap', b1, off, sz1, vs1, e1, e2, e3, e4, e5, e6⟩ := g3.slice_inv
              rw [p2] at e1
              have hA := e3 (by simpa using hl0)
              rw [hA] at e1
              injection e1 with e1 e1' e1''
              injection e1 with e1; injection e1 with e1 e1a
              subst e1; subst e1a
              refine (string_some b g cap cur l w hc1 p3 p5 p4 hl0 (by omega) fun q c hq => ?_).mono ?_
              · have hq' : (l.map u8V)[q]? = some (u8V c) := by rw [List.getElem?_map, hq]; rfl
                have hsz : sz1 = 1 := (e4 (u8V c) (List.mem_of_getElem? hq')).symm
                subst hsz
                have k1 := e5 q _ 0 (u8V c) hq' rfl
                have k2 := (Rep.plain (j := j) (M := M) (e6 q _ 0 (u8V c) hq' rfl)).int_inv
                simp only [Nat.mul_one, Nat.add_zero, Nat.zero_add] at k1 k2
                rw [k1.1, k2]
              · rintro e w' ⟨rfl, rfl⟩
                have hne : l.length ≠ 0 := by simpa using hl0
                have hfr : ∀ b', b' ≠ g → (w.drew.freeze ⟨g, 0, none⟩ l.length).heap[b']? = w.heap[b']? := fun b' hb' => by
                  unfold World.freeze
                  rw [if_neg hne]
                  show (w.heap.modify g _)[b']? = _
                  rw [Array.getElem?_modify, if_neg (Ne.symm hb')]
                have hfg : ∀ vs t fr, w.heap[g]? = some (.cells vs t fr) → ∃ fr', (w.drew.freeze ⟨g, 0, none⟩ l.length).heap[g]? = some (.cells vs t fr') := fun vs t fr h => by
                  unfold World.freeze
                  rw [if_neg hne]
                  show ∃ fr', (w.heap.modify g _)[g]? = _
                  rw [Array.getElem?_modify, if_pos rfl, h]
                  exact ⟨_, rfl⟩
                have q : Quiet w (w.drew.freeze ⟨g, 0, none⟩ l.length) := by
                  unfold World.freeze
                  rw [if_neg hne]
                  refine ⟨?_, rfl, rfl, rfl⟩
                  show w.heap.size ≤ (w.heap.modify g _).size
                  simp
                have a1 : ∀ b', j k ≠ some b' → b' < w.heap.size → (w.drew.freeze ⟨g, 0, none⟩ l.length).heap[b']? = w.heap[b']? := fun b' hb' _ => hfr b' (by rintro rfl; exact hb' p1)
                have a2 : ∀ b' vs t fr, j k = some b' → w.heap[b']? = some (.cells vs t fr) → ∃ fr', (w.drew.freeze ⟨g, 0, none⟩ l.length).heap[b']? = some (.cells vs t fr') := fun b' vs t fr hb' h => by
                  rw [p1] at hb'; injection hb' with hb'; subst hb'
                  exact hfg vs t fr h
                exact ⟨_, upd j k none, rfl, Rel.tickDrop hk1 (Nat.lt_succ_self _) rel1 q a1 a2, ext1.trans (Ext.tickDrop hk1 (Nat.lt_succ_self _) rel1 q a1 a2), .plain (.str _)⟩
          · cases h
        · cases h
      · cases h
    · cases h
  · cases h
end Go.Proofs.YtannopdcbocngaaGreatDoor
namespace Go.Proofs
open Go.Shelf
def Tryz.powName : String := match Go.Proofs.YtannopdcbocngaaGreatDoor.Rows.reportOwnRow.laid with
  | _ :: _ :: x :: _ => x.1
  | _ => ""
def Tryz.lays156_ren : Go.Shelf.Ren := ⟨fun | 156 => 48 | 165 => 90 | 166 => 50 | 169 => 51 | 240 => 91 | 241 => 127 | 276 => 128 | 277 => 161 | n => n, fun | 31 => 26 | 9 => 9 | 3 => 3 | 4 => 4 | 0 => 0 | 20 => 20 | 72 => 87 | 76 => 90 | 70 => 85 | 37 => 22 | 75 => 89 | 127 => 142 | 164 => 177 | 5 => 5 | 80 => 92 | n => n, fun | n => n⟩
theorem Tryz.lays156 : Go.Proofs.Lays.n156 Tryz.prog Tryz.lays156_ren := {
  mixed := by kernel_rfl
  f156 := Tryz.func48.trans (congrArg some (by kernel_rfl))
  f165 := Tryz.func90.trans (congrArg some (by kernel_rfl))
  f166 := Tryz.func50.trans (congrArg some (by kernel_rfl))
  f169 := Tryz.func51.trans (congrArg some (by kernel_rfl))
  f240 := Tryz.func91.trans (congrArg some (by kernel_rfl))
  f241 := Tryz.func127.trans (congrArg some (by kernel_rfl))
  f276 := Tryz.func128.trans (congrArg some (by kernel_rfl))
  f277 := Tryz.func161.trans (congrArg some (by kernel_rfl))
  t0 := Tryz.underlying0
  a0 := Tryz.isAgg0
  z0 := Tryz.sizeOf0
  v0 := Tryz.zeroValue0
  t3 := Tryz.underlying3
  a3 := Tryz.isAgg3
  z3 := Tryz.sizeOf3
  v3 := Tryz.zeroValue3
  t4 := Tryz.underlying4
  a4 := Tryz.isAgg4
  z4 := Tryz.sizeOf4
  v4 := Tryz.zeroValue4
  t9 := Tryz.underlying9
  a9 := Tryz.isAgg9
  z9 := Tryz.sizeOf9
  v9 := Tryz.zeroValue9
  t20 := Tryz.underlying20
  a20 := Tryz.isAgg20
  z20 := Tryz.sizeOf20
  v20 := Tryz.zeroValue20
  t31 := Tryz.underlying26
  a31 := Tryz.isAgg26
  z31 := Tryz.sizeOf26
  v31 := Tryz.zeroValue26
  t37 := Tryz.underlying22
  a37 := Tryz.isAgg22
  z37 := Tryz.sizeOf22
  v37 := Tryz.zeroValue22
  t70 := Tryz.underlying85
  a70 := Tryz.isAgg85
  z70 := Tryz.sizeOf85
  v70 := Tryz.zeroValue85
  t72 := Tryz.underlying87
  a72 := Tryz.isAgg87
  z72 := Tryz.sizeOf87
  v72 := Tryz.zeroValue87
  t75 := Tryz.underlying89
  a75 := Tryz.isAgg89
  z75 := Tryz.sizeOf89
  v75 := Tryz.zeroValue89
  t76 := Tryz.underlying90
  a76 := Tryz.isAgg90
  z76 := Tryz.sizeOf90
  v76 := Tryz.zeroValue90
  t127 := Tryz.underlying142
  a127 := Tryz.isAgg142
  z127 := Tryz.sizeOf142
  v127 := Tryz.zeroValue142
  t164 := Tryz.underlying177
  a164 := Tryz.isAgg177
  z164 := Tryz.sizeOf177
  v164 := Tryz.zeroValue177 }
theorem Tryz.Builder_Extra_156 : Builder.Extra Tryz.prog Tryz.lays156_ren := {
  sizeBuilder := by kernel_rfl
  liesBuilder := by kernel_rfl
  t5 := Tryz.underlying5
  a5 := Tryz.isAgg5
  z5 := Tryz.sizeOf5
  v5 := Tryz.zeroValue5
  infoByte := by kernel_rfl
  cellsByte := by kernel_rfl
  sizeByte := by kernel_rfl
  neB5 := by decide }
open Go.RowKit in
theorem Tryz.strings_Join_none (a : Option Addr) (c : Nat) (sep : ByteArray) (w : World) :
    Calls Tryz.prog 48 #[.slice a 0 c, .string sep] w fun e w' => e = .returned (.string ⟨#[]⟩) ∧ w' = w := Any.strings_Join_none Tryz.lays156 Tryz.Builder_Extra_156 a c sep w
open Go.RowKit in
theorem Tryz.strings_Join (bk o c : Nat) (xs : List ByteArray) (sep : ByteArray) (w : World) (hcells : ∀ (j : Nat) x, xs[j]? = some x → w.cell? ⟨bk, o + j, none⟩ = some (.string x)) (hbk : bk < w.heap.size) (hN : xs.length ≤ 140737488355328) (hcap : xs.length ≤ c) (hlen : (Lib.join (xs.map (·.data.toList)) sep.data.toList).length ≤ 140737488355328) :
    Calls Tryz.prog 48 #[.slice (some ⟨bk, o, none⟩) xs.length c, .string sep] w fun e w' => e = .returned (.string ⟨(Lib.join (xs.map (·.data.toList)) sep.data.toList).toArray⟩) ∧ Below w.heap.size w w' := Any.strings_Join Tryz.lays156 Tryz.Builder_Extra_156 bk o c xs sep w hcells hbk hN hcap hlen
def Tryz.lays137_ren : Go.Shelf.Ren := ⟨fun | 137 => 98 | 217 => 139 | 266 => 168 | n => n, fun | 9 => 9 | 5 => 5 | 3 => 3 | n => n, fun | n => n⟩
theorem Tryz.lays137 : Go.Proofs.Lays.n137 Tryz.prog Tryz.lays137_ren := {
  mixed := by kernel_rfl
  f137 := Tryz.func98.trans (congrArg some (by kernel_rfl))
  f217 := Tryz.func139.trans (congrArg some (by kernel_rfl))
  f266 := Tryz.func168.trans (congrArg some (by kernel_rfl))
  t3 := Tryz.underlying3
  a3 := Tryz.isAgg3
  z3 := Tryz.sizeOf3
  v3 := Tryz.zeroValue3
  t5 := Tryz.underlying5
  a5 := Tryz.isAgg5
  z5 := Tryz.sizeOf5
  v5 := Tryz.zeroValue5
  t9 := Tryz.underlying9
  a9 := Tryz.isAgg9
  z9 := Tryz.sizeOf9
  v9 := Tryz.zeroValue9 }
open Go.RowKit in
theorem Tryz.strings_IndexByte (s : ByteArray) (c : Int) (w : World) :
    Calls Tryz.prog 98 #[.string s, .int .u8 c] w fun e w' => e = .returned (.int .i64 (Lib.indexByte s.data.toList c.toNat.toUInt8)) ∧ w' = w := Any.strings_IndexByte Tryz.lays137 s c w
def Tryz.laysM171_ren : Go.Shelf.Ren := ⟨fun | 171 => 42 | 243 => 87 | 246 => 126 | 283 => 157 | 284 => 158 | 285 => 159 | 286 => 160 | 129 => 176 | 317 => 175 | 318 => 177 | 319 => 178 | 320 => 179 | 337 => 188 | 338 => 189 | n => n, fun | 3 => 3 | 9 => 9 | 2 => 2 | 4 => 4 | 171 => 203 | 0 => 0 | 53 => 127 | 37 => 22 | 5 => 5 | 173 => 206 | 212 => 216 | 51 => 217 | 20 => 20 | 213 => 218 | 46 => 140 | 232 => 233 | 233 => 234 | n => n, fun | 17 => 3 | 18 => 7 | 19 => 8 | n => n⟩
theorem Tryz.laysM171 : Go.Proofs.LaysM.n171 Tryz.prog Tryz.laysM171_ren := {
  mixed := by kernel_rfl
  f129 := Tryz.func176.trans (congrArg some (by kernel_rfl))
  f171 := Tryz.func42.trans (congrArg some (by kernel_rfl))
  f243 := Tryz.func87.trans (congrArg some (by kernel_rfl))
  f246 := Tryz.func126.trans (congrArg some (by kernel_rfl))
  f283 := Tryz.func157.trans (congrArg some (by kernel_rfl))
  f284 := Tryz.func158.trans (congrArg some (by kernel_rfl))
  f285 := Tryz.func159.trans (congrArg some (by kernel_rfl))
  f286 := Tryz.func160.trans (congrArg some (by kernel_rfl))
  f317 := Tryz.func175.trans (congrArg some (by kernel_rfl))
  f318 := Tryz.func177.trans (congrArg some (by kernel_rfl))
  f319 := Tryz.func178.trans (congrArg some (by kernel_rfl))
  f320 := Tryz.func179.trans (congrArg some (by kernel_rfl))
  f337 := Tryz.func188.trans (congrArg some (by kernel_rfl))
  f338 := Tryz.func189.trans (congrArg some (by kernel_rfl))
  t0 := Tryz.underlying0
  a0 := Tryz.isAgg0
  z0 := Tryz.sizeOf0
  v0 := Tryz.zeroValue0
  t2 := Tryz.underlying2
  a2 := Tryz.isAgg2
  z2 := Tryz.sizeOf2
  v2 := Tryz.zeroValue2
  t3 := Tryz.underlying3
  a3 := Tryz.isAgg3
  z3 := Tryz.sizeOf3
  v3 := Tryz.zeroValue3
  t4 := Tryz.underlying4
  a4 := Tryz.isAgg4
  z4 := Tryz.sizeOf4
  v4 := Tryz.zeroValue4
  t5 := Tryz.underlying5
  a5 := Tryz.isAgg5
  z5 := Tryz.sizeOf5
  v5 := Tryz.zeroValue5
  t9 := Tryz.underlying9
  a9 := Tryz.isAgg9
  z9 := Tryz.sizeOf9
  v9 := Tryz.zeroValue9
  t20 := Tryz.underlying20
  a20 := Tryz.isAgg20
  z20 := Tryz.sizeOf20
  v20 := Tryz.zeroValue20
  t37 := Tryz.underlying22
  a37 := Tryz.isAgg22
  z37 := Tryz.sizeOf22
  v37 := Tryz.zeroValue22
  t46 := Tryz.underlying140
  a46 := Tryz.isAgg140
  z46 := Tryz.sizeOf140
  v46 := Tryz.zeroValue140
  t51 := Tryz.underlying217
  a51 := Tryz.isAgg217
  z51 := Tryz.sizeOf217
  v51 := Tryz.zeroValue217
  t53 := Tryz.underlying127
  a53 := Tryz.isAgg127
  z53 := Tryz.sizeOf127
  v53 := Tryz.zeroValue127
  t171 := Tryz.underlying203
  a171 := Tryz.isAgg203
  z171 := Tryz.sizeOf203
  v171 := Tryz.zeroValue203
  t173 := Tryz.underlying206
  a173 := Tryz.isAgg206
  z173 := Tryz.sizeOf206
  v173 := Tryz.zeroValue206
  t212 := Tryz.underlying216
  a212 := Tryz.isAgg216
  z212 := Tryz.sizeOf216
  v212 := Tryz.zeroValue216
  t213 := Tryz.underlying218
  a213 := Tryz.isAgg218
  z213 := Tryz.sizeOf218
  t232 := Tryz.underlying233
  a232 := Tryz.isAgg233
  z232 := Tryz.sizeOf233
  v232 := Tryz.zeroValue233
  t233 := Tryz.underlying234
  a233 := Tryz.isAgg234
  z233 := Tryz.sizeOf234
  v233 := Tryz.zeroValue234
  g17 := by kernel_rfl
  g18 := by kernel_rfl
  g19 := by kernel_rfl
  i0 := by kernel_rfl
  i2 := by kernel_rfl
  i3 := by kernel_rfl
  i4 := by kernel_rfl
  i5 := by kernel_rfl
  i9 := by kernel_rfl
  i20 := by kernel_rfl
  i37 := by kernel_rfl
  i46 := by kernel_rfl
  i51 := by kernel_rfl
  i53 := by kernel_rfl
  i171 := by kernel_rfl
  i173 := by kernel_rfl
  i212 := by kernel_rfl
  i232 := by kernel_rfl
  i233 := by kernel_rfl
  m17 := by kernel_rfl
  m18 := by kernel_rfl
  m19 := by kernel_rfl }
open Go.RowKit Go.Sort Go.Lib in
theorem Tryz.strconv_Itoa (n : Int) (h0 : -9223372036854775808 ≤ n) (h1 : n ≤ 9223372036854775807) (w : World) (htab : Lib.TabIs Tryz.prog w Tryz.powName .u64 Lib.pow10Tab) :
    Calls Tryz.prog 42 #[.int .i64 n] w fun e w' => e = .returned (.string ⟨(Lib.itoa n).toArray⟩) ∧ ∃ k os, w' = grow (w.drewN k) os := Any.strconv_Itoa Tryz.laysM171 n h0 h1 w htab
def Tryz.laysC172_ren : Go.Shelf.Ren := ⟨fun | 172 => 58 | 244 => 94 | 245 => 95 | 247 => 130 | 279 => 131 | 280 => 132 | 281 => 133 | 282 => 134 | 287 => 163 | 316 => 164 | 171 => 42 | 205 => 165 | 321 => 183 | 322 => 184 | 243 => 87 | 246 => 126 | 283 => 157 | 284 => 158 | 285 => 159 | 286 => 160 | 129 => 176 | 317 => 175 | 318 => 177 | 319 => 178 | 320 => 179 | 337 => 188 | 338 => 189 | n => n, fun | 9 => 9 | 3 => 3 | 75 => 89 | 76 => 90 | 4 => 4 | 5 => 5 | 167 => 179 | 37 => 22 | 0 => 0 | 85 => 180 | 2 => 2 | 168 => 182 | 53 => 127 | 175 => 209 | 46 => 140 | 210 => 212 | 127 => 142 | 145 => 223 | 143 => 221 | 21 => 21 | 171 => 203 | 173 => 206 | 212 => 216 | 51 => 217 | 20 => 20 | 213 => 218 | 232 => 233 | 233 => 234 | 80 => 92 | n => n, fun | 15 => 1 | 16 => 2 | 17 => 3 | 18 => 7 | 19 => 8 | n => n⟩
theorem Tryz.laysC172 : Go.Proofs.LaysC.n172 Tryz.prog Tryz.laysC172_ren := {
  mixed := by kernel_rfl
  f129 := Tryz.func176.trans (congrArg some (by kernel_rfl))
  f171 := Tryz.func42.trans (congrArg some (by kernel_rfl))
  f172 := Tryz.func58.trans (congrArg some (by kernel_rfl))
  f205 := Tryz.func165.trans (congrArg some (by kernel_rfl))
  f243 := Tryz.func87.trans (congrArg some (by kernel_rfl))
  f244 := Tryz.func94.trans (congrArg some (by kernel_rfl))
  f245 := Tryz.func95.trans (congrArg some (by kernel_rfl))
  f246 := Tryz.func126.trans (congrArg some (by kernel_rfl))
  f247 := Tryz.func130.trans (congrArg some (by kernel_rfl))
  f279 := Tryz.func131.trans (congrArg some (by kernel_rfl))
  f280 := Tryz.func132.trans (congrArg some (by kernel_rfl))
  f281 := Tryz.func133.trans (congrArg some (by kernel_rfl))
  f282 := Tryz.func134.trans (congrArg some (by kernel_rfl))
  f283 := Tryz.func157.trans (congrArg some (by kernel_rfl))
  f284 := Tryz.func158.trans (congrArg some (by kernel_rfl))
  f285 := Tryz.func159.trans (congrArg some (by kernel_rfl))
  f286 := Tryz.func160.trans (congrArg some (by kernel_rfl))
  f287 := Tryz.func163.trans (congrArg some (by kernel_rfl))
  f316 := Tryz.func164.trans (congrArg some (by kernel_rfl))
  f317 := Tryz.func175.trans (congrArg some (by kernel_rfl))
  f318 := Tryz.func177.trans (congrArg some (by kernel_rfl))
  f319 := Tryz.func178.trans (congrArg some (by kernel_rfl))
  f320 := Tryz.func179.trans (congrArg some (by kernel_rfl))
  f321 := Tryz.func183.trans (congrArg some (by kernel_rfl))
  f322 := Tryz.func184.trans (congrArg some (by kernel_rfl))
  f337 := Tryz.func188.trans (congrArg some (by kernel_rfl))
  f338 := Tryz.func189.trans (congrArg some (by kernel_rfl))
  t0 := Tryz.underlying0
  a0 := Tryz.isAgg0
  z0 := Tryz.sizeOf0
  v0 := Tryz.zeroValue0
  t2 := Tryz.underlying2
  a2 := Tryz.isAgg2
  z2 := Tryz.sizeOf2
  v2 := Tryz.zeroValue2
  t3 := Tryz.underlying3
  a3 := Tryz.isAgg3
  z3 := Tryz.sizeOf3
  v3 := Tryz.zeroValue3
  t4 := Tryz.underlying4
  a4 := Tryz.isAgg4
  z4 := Tryz.sizeOf4
  v4 := Tryz.zeroValue4
  t5 := Tryz.underlying5
  a5 := Tryz.isAgg5
  z5 := Tryz.sizeOf5
  v5 := Tryz.zeroValue5
  t9 := Tryz.underlying9
  a9 := Tryz.isAgg9
  z9 := Tryz.sizeOf9
  v9 := Tryz.zeroValue9
  t20 := Tryz.underlying20
  a20 := Tryz.isAgg20
  z20 := Tryz.sizeOf20
  v20 := Tryz.zeroValue20
  t21 := Tryz.underlying21
  a21 := Tryz.isAgg21
  z21 := Tryz.sizeOf21
  v21 := Tryz.zeroValue21
  t37 := Tryz.underlying22
  a37 := Tryz.isAgg22
  z37 := Tryz.sizeOf22
  v37 := Tryz.zeroValue22
  t46 := Tryz.underlying140
  a46 := Tryz.isAgg140
  z46 := Tryz.sizeOf140
  v46 := Tryz.zeroValue140
  t51 := Tryz.underlying217
  a51 := Tryz.isAgg217
  z51 := Tryz.sizeOf217
  v51 := Tryz.zeroValue217
  t53 := Tryz.underlying127
  a53 := Tryz.isAgg127
  z53 := Tryz.sizeOf127
  v53 := Tryz.zeroValue127
  t75 := Tryz.underlying89
  a75 := Tryz.isAgg89
  z75 := Tryz.sizeOf89
  v75 := Tryz.zeroValue89
  t76 := Tryz.underlying90
  a76 := Tryz.isAgg90
  z76 := Tryz.sizeOf90
  v76 := Tryz.zeroValue90
  t85 := Tryz.underlying180
  a85 := Tryz.isAgg180
  z85 := Tryz.sizeOf180
  v85 := Tryz.zeroValue180
  t127 := Tryz.underlying142
  a127 := Tryz.isAgg142
  z127 := Tryz.sizeOf142
  v127 := Tryz.zeroValue142
  t143 := Tryz.underlying221
  a143 := Tryz.isAgg221
  z143 := Tryz.sizeOf221
  v143 := Tryz.zeroValue221
  t145 := Tryz.underlying223
  a145 := Tryz.isAgg223
  z145 := Tryz.sizeOf223
  v145 := Tryz.zeroValue223
  t167 := Tryz.underlying179
  a167 := Tryz.isAgg179
  z167 := Tryz.sizeOf179
  v167 := Tryz.zeroValue179
  t168 := Tryz.underlying182
  a168 := Tryz.isAgg182
  z168 := Tryz.sizeOf182
  v168 := Tryz.zeroValue182
  t171 := Tryz.underlying203
  a171 := Tryz.isAgg203
  z171 := Tryz.sizeOf203
  v171 := Tryz.zeroValue203
  t173 := Tryz.underlying206
  a173 := Tryz.isAgg206
  z173 := Tryz.sizeOf206
  v173 := Tryz.zeroValue206
  t175 := Tryz.underlying209
  a175 := Tryz.isAgg209
  z175 := Tryz.sizeOf209
  v175 := Tryz.zeroValue209
  t210 := Tryz.underlying212
  a210 := Tryz.isAgg212
  z210 := Tryz.sizeOf212
  v210 := Tryz.zeroValue212
  t212 := Tryz.underlying216
  a212 := Tryz.isAgg216
  z212 := Tryz.sizeOf216
  v212 := Tryz.zeroValue216
  t213 := Tryz.underlying218
  a213 := Tryz.isAgg218
  z213 := Tryz.sizeOf218
  t232 := Tryz.underlying233
  a232 := Tryz.isAgg233
  z232 := Tryz.sizeOf233
  v232 := Tryz.zeroValue233
  t233 := Tryz.underlying234
  a233 := Tryz.isAgg234
  z233 := Tryz.sizeOf234
  v233 := Tryz.zeroValue234
  g15 := by kernel_rfl
  g16 := by kernel_rfl
  g17 := by kernel_rfl
  g18 := by kernel_rfl
  g19 := by kernel_rfl
  t80 := Tryz.underlying92
  a80 := Tryz.isAgg92
  z80 := Tryz.sizeOf92
  v80 := Tryz.zeroValue92
  i0 := by kernel_rfl
  i2 := by kernel_rfl
  i3 := by kernel_rfl
  i4 := by kernel_rfl
  i5 := by kernel_rfl
  i9 := by kernel_rfl
  i20 := by kernel_rfl
  i21 := by kernel_rfl
  i37 := by kernel_rfl
  i46 := by kernel_rfl
  i51 := by kernel_rfl
  i53 := by kernel_rfl
  i75 := by kernel_rfl
  i76 := by kernel_rfl
  i80 := by kernel_rfl
  i85 := by kernel_rfl
  i127 := by kernel_rfl
  i143 := by kernel_rfl
  i145 := by kernel_rfl
  i167 := by kernel_rfl
  i168 := by kernel_rfl
  i171 := by kernel_rfl
  i173 := by kernel_rfl
  i175 := by kernel_rfl
  i210 := by kernel_rfl
  i212 := by kernel_rfl
  i232 := by kernel_rfl
  i233 := by kernel_rfl
  m15 := by kernel_rfl
  m16 := by kernel_rfl
  m17 := by kernel_rfl
  m18 := by kernel_rfl
  m19 := by kernel_rfl
  c0 := by kernel_rfl
  c2 := by kernel_rfl
  c3 := by kernel_rfl
  c4 := by kernel_rfl
  c5 := by kernel_rfl
  c9 := by kernel_rfl
  c20 := by kernel_rfl
  c21 := by kernel_rfl
  c37 := by kernel_rfl
  c46 := by kernel_rfl
  c51 := by kernel_rfl
  c53 := by kernel_rfl
  c75 := by kernel_rfl
  c76 := by kernel_rfl
  c80 := by kernel_rfl
  c85 := by kernel_rfl
  c127 := by kernel_rfl
  c143 := by kernel_rfl
  c145 := by kernel_rfl
  c167 := by kernel_rfl
  c168 := by kernel_rfl
  c171 := by kernel_rfl
  c173 := by kernel_rfl
  c175 := by kernel_rfl
  c210 := by kernel_rfl
  c212 := by kernel_rfl
  c213 := by kernel_rfl
  c232 := by kernel_rfl
  c233 := by kernel_rfl }
open Go.RowKit in
theorem Tryz.strconv_Atoi_ok (s : ByteArray) (hmax : s.size ≤ 9223372036854775806) (v : Int) (h : Lib.atoiAll s.data.toList = .ok v) (w : World) :
    Calls Tryz.prog 58 #[.string s] w fun e w' => e = .returned (.tuple #[.int .i64 v, .nilIface]) ∧ (w' = w ∨ ∃ t, w' = Lib.bytesWorld w 5 t) := Any.strconv_Atoi_ok Tryz.laysC172 s hmax v h w
open Go.RowKit in
theorem Tryz.strconv_Atoi_syntax (s : ByteArray) (hlim : s.size ≤ 281474976710656) (h : Lib.atoiAll s.data.toList = (Lib.atoiAll [])) (ev : Value) (w : World) (hv : w.cell? ⟨1, 0, none⟩ = some ev) (hev : ev = .nilIface ∨ ∃ te pe, ev = .iface te pe) :
    Calls Tryz.prog 58 #[.string s] w fun e w' => ∃ N, e = .returned (.tuple #[.int .i64 (0), .iface 182 (.pointer (some ⟨N, 0, none⟩))]) ∧ w.heap.size ≤ N ∧ w'.heap[N]? = some (.cells #[.string ⟨#[65, 116, 111, 105]⟩, .string s, ev] 212 (0, 0)) ∧ Below w.heap.size w w' := Any.strconv_Atoi_syntax Tryz.laysC172 s hlim h ev w hv hev
open Go.RowKit in
theorem Tryz.strconv_Atoi_range (s : ByteArray) (hlim : s.size ≤ 281474976710656) (h : Lib.atoiAll s.data.toList = .range) (ev : Value) (w : World) (hv : w.cell? ⟨2, 0, none⟩ = some ev) (hev : ev = .nilIface ∨ ∃ te pe, ev = .iface te pe) :
    Calls Tryz.prog 58 #[.string s] w fun e w' => ∃ N, e = .returned (.tuple #[.int .i64 (Lib.atoiSat s.data.toList), .iface 182 (.pointer (some ⟨N, 0, none⟩))]) ∧ w.heap.size ≤ N ∧ w'.heap[N]? = some (.cells #[.string ⟨#[65, 116, 111, 105]⟩, .string s, ev] 212 (0, 0)) ∧ Below w.heap.size w w' := Any.strconv_Atoi_range Tryz.laysC172 s hlim h ev w hv hev
def Tryz.lays145_ren : Go.Shelf.Ren := ⟨fun | 145 => 93 | 220 => 129 | 219 => 162 | 217 => 139 | 225 => 180 | 224 => 181 | 267 => 182 | 266 => 168 | 314 => 190 | n => n, fun | 9 => 9 | 4 => 4 | 59 => 146 | 3 => 3 | 5 => 5 | 46 => 140 | 146 => 231 | 51 => 217 | n => n, fun | 1 => 4 | n => n⟩
theorem Tryz.lays145 : Go.Proofs.Lays.n145 Tryz.prog Tryz.lays145_ren := {
  mixed := by kernel_rfl
  f145 := Tryz.func93.trans (congrArg some (by kernel_rfl))
  f217 := Tryz.func139.trans (congrArg some (by kernel_rfl))
  f219 := Tryz.func162.trans (congrArg some (by kernel_rfl))
  f220 := Tryz.func129.trans (congrArg some (by kernel_rfl))
  f224 := Tryz.func181.trans (congrArg some (by kernel_rfl))
  f225 := Tryz.func180.trans (congrArg some (by kernel_rfl))
  f266 := Tryz.func168.trans (congrArg some (by kernel_rfl))
  f267 := Tryz.func182.trans (congrArg some (by kernel_rfl))
  f314 := Tryz.func190.trans (congrArg some (by kernel_rfl))
  t3 := Tryz.underlying3
  a3 := Tryz.isAgg3
  z3 := Tryz.sizeOf3
  v3 := Tryz.zeroValue3
  t4 := Tryz.underlying4
  a4 := Tryz.isAgg4
  z4 := Tryz.sizeOf4
  v4 := Tryz.zeroValue4
  t5 := Tryz.underlying5
  a5 := Tryz.isAgg5
  z5 := Tryz.sizeOf5
  v5 := Tryz.zeroValue5
  t9 := Tryz.underlying9
  a9 := Tryz.isAgg9
  z9 := Tryz.sizeOf9
  v9 := Tryz.zeroValue9
  t46 := Tryz.underlying140
  a46 := Tryz.isAgg140
  z46 := Tryz.sizeOf140
  v46 := Tryz.zeroValue140
  t51 := Tryz.underlying217
  a51 := Tryz.isAgg217
  z51 := Tryz.sizeOf217
  v51 := Tryz.zeroValue217
  t59 := Tryz.underlying146
  a59 := Tryz.isAgg146
  z59 := Tryz.sizeOf146
  v59 := Tryz.zeroValue146
  t146 := Tryz.underlying231
  a146 := Tryz.isAgg231
  z146 := Tryz.sizeOf231
  v146 := Tryz.zeroValue231
  g1 := by kernel_rfl }
open Go.RowKit Go.Lib in
theorem Tryz.strings_Cut (s sep : ByteArray) (m : Int) (w : World) (hs : s.size < 4294967281) (hm : w.cell? ⟨4, 0, none⟩ = some (.int .i64 m)) :
    Calls Tryz.prog 93 #[.string s, .string sep] w fun e w' => e = .returned (.tuple #[.string ⟨(Lib.cut s.data.toList sep.data.toList).1.toArray⟩, .string ⟨(Lib.cut s.data.toList sep.data.toList).2.1.toArray⟩, .bool (Lib.cut s.data.toList sep.data.toList).2.2]) ∧ ∃ n, w' = w.drewN n := Any.strings_Cut Tryz.lays145 s sep m w hs hm
def Tryz.lays146_ren : Go.Shelf.Ren := ⟨fun | 146 => 64 | 221 => 97 | 268 => 136 | 138 => 137 | 143 => 138 | 195 => 166 | 197 => 141 | 218 => 167 | 219 => 162 | 260 => 169 | 217 => 139 | 225 => 180 | 224 => 181 | 267 => 182 | 266 => 168 | 314 => 190 | n => n, fun | 9 => 9 | 31 => 26 | 3 => 3 | 4 => 4 | 0 => 0 | 105 => 188 | 21 => 21 | 5 => 5 | 46 => 140 | 119 => 224 | 139 => 227 | 138 => 226 | 146 => 231 | 51 => 217 | n => n, fun | 1 => 4 | 3 => 5 | 4 => 6 | n => n⟩
theorem Tryz.lays146 : Go.Proofs.Lays.n146 Tryz.prog Tryz.lays146_ren := {
  mixed := by kernel_rfl
  f138 := Tryz.func137.trans (congrArg some (by kernel_rfl))
  f143 := Tryz.func138.trans (congrArg some (by kernel_rfl))
  f146 := Tryz.func64.trans (congrArg some (by kernel_rfl))
  f195 := Tryz.func166.trans (congrArg some (by kernel_rfl))
  f197 := Tryz.func141.trans (congrArg some (by kernel_rfl))
  f217 := Tryz.func139.trans (congrArg some (by kernel_rfl))
  f218 := Tryz.func167.trans (congrArg some (by kernel_rfl))
  f219 := Tryz.func162.trans (congrArg some (by kernel_rfl))
  f221 := Tryz.func97.trans (congrArg some (by kernel_rfl))
  f224 := Tryz.func181.trans (congrArg some (by kernel_rfl))
  f225 := Tryz.func180.trans (congrArg some (by kernel_rfl))
  f260 := Tryz.func169.trans (congrArg some (by kernel_rfl))
  f266 := Tryz.func168.trans (congrArg some (by kernel_rfl))
  f267 := Tryz.func182.trans (congrArg some (by kernel_rfl))
  f268 := Tryz.func136.trans (congrArg some (by kernel_rfl))
  f314 := Tryz.func190.trans (congrArg some (by kernel_rfl))
  t0 := Tryz.underlying0
  a0 := Tryz.isAgg0
  z0 := Tryz.sizeOf0
  v0 := Tryz.zeroValue0
  t3 := Tryz.underlying3
  a3 := Tryz.isAgg3
  z3 := Tryz.sizeOf3
  v3 := Tryz.zeroValue3
  t4 := Tryz.underlying4
  a4 := Tryz.isAgg4
  z4 := Tryz.sizeOf4
  v4 := Tryz.zeroValue4
  t5 := Tryz.underlying5
  a5 := Tryz.isAgg5
  z5 := Tryz.sizeOf5
  v5 := Tryz.zeroValue5
  t9 := Tryz.underlying9
  a9 := Tryz.isAgg9
  z9 := Tryz.sizeOf9
  v9 := Tryz.zeroValue9
  t21 := Tryz.underlying21
  a21 := Tryz.isAgg21
  z21 := Tryz.sizeOf21
  v21 := Tryz.zeroValue21
  t31 := Tryz.underlying26
  a31 := Tryz.isAgg26
  z31 := Tryz.sizeOf26
  v31 := Tryz.zeroValue26
  t46 := Tryz.underlying140
  a46 := Tryz.isAgg140
  z46 := Tryz.sizeOf140
  v46 := Tryz.zeroValue140
  t51 := Tryz.underlying217
  a51 := Tryz.isAgg217
  z51 := Tryz.sizeOf217
  v51 := Tryz.zeroValue217
  t105 := Tryz.underlying188
  a105 := Tryz.isAgg188
  z105 := Tryz.sizeOf188
  v105 := Tryz.zeroValue188
  t119 := Tryz.underlying224
  a119 := Tryz.isAgg224
  z119 := Tryz.sizeOf224
  t138 := Tryz.underlying226
  a138 := Tryz.isAgg226
  z138 := Tryz.sizeOf226
  v138 := Tryz.zeroValue226
  t139 := Tryz.underlying227
  a139 := Tryz.isAgg227
  z139 := Tryz.sizeOf227
  v139 := Tryz.zeroValue227
  t146 := Tryz.underlying231
  a146 := Tryz.isAgg231
  z146 := Tryz.sizeOf231
  v146 := Tryz.zeroValue231
  g1 := by kernel_rfl
  g3 := by kernel_rfl
  g4 := by kernel_rfl }
open Go.RowKit Go.Lib in
theorem Tryz.strings_Split (s sep : ByteArray) (m : Int) (w : World) (hs : s.size < 4294967281) (hm : w.cell? ⟨4, 0, none⟩ = some (.int .i64 m)) (h1 : 1 ≤ sep.size) :
    Calls Tryz.prog 64 #[.string s, .string sep] w fun e w' =>
      e = .returned (.slice (some ⟨w.heap.size, 0, none⟩) (Lib.countB s sep + 1) (Lib.countB s sep + 1)) ∧ w' = w.alloc (.cells ((Lib.splitB sep 0 (Lib.countB s sep) s).map Value.string).toArray 9) := Any.strings_Split Tryz.lays146 (by kernel_rfl) s sep m w hs hm h1
end Go.Proofs
namespace Go.Proofs.YtannopdcbocngaaGreatDoor
open Go Go.Abs Go.RowKit
theorem sound_below {P : Program} {f : Nat} {args : List AVal} {M : AMem} {r : AVal}
    (h : ∀ (j : J) (w : World) (vs : Array Value), Rel j M w → Glob j M w → args.length = vs.size → (∀ (i : Nat) (c : AVal) (v : Value), args[i]? = some c → vs[i]? = some v → Rep j M w c v) →
      Calls P f vs w fun e w' => ∃ v, e = .returned v ∧ Below w.heap.size w w' ∧ Rep j M w' r v) : SoundCall P f args M (r, M) := by
  intro j w vs hr hG hl hv
  refine (h j w vs hr hG hl hv).mono ?_
  rintro e w' ⟨v, rfl, hb, hrep⟩
  exact ⟨v, j, rfl, hr.grow hb.size hb.os hb.tape hb.output hb.block, Ext.grow hb.size hb.os hb.tape hb.output hb.block, hrep⟩
theorem below_drewN (w : World) (n : Nat) : Below w.heap.size w (w.drewN n) := ⟨rfl, rfl, rfl, Nat.le_refl _, fun _ _ => rfl⟩
theorem maxLenG {j : J} {M : AMem} {w : World} (hG : Glob j M w) : ∃ m, w.cell? ⟨4, 0, none⟩ = some (.int .i64 m) := by
  obtain ⟨v, ⟨m, rfl⟩, _, h⟩ := hG.q 4 _ rfl
  exact ⟨m, h⟩
theorem errG {j : J} {M : AMem} {w : World} (hG : Glob j M w) (b : Nat) (hb : b = 1 ∨ b = 2) : ∃ v, w.cell? ⟨b, 0, none⟩ = some v ∧ (v = .nilIface ∨ ∃ te pe, v = .iface te pe) := by
  rcases hb with rfl | rfl
  · obtain ⟨v, ⟨t, p, rfl⟩, _, h⟩ := hG.q 1 _ rfl
    exact ⟨_, h, .inr ⟨t, p, rfl⟩⟩
  · obtain ⟨v, ⟨t, p, rfl⟩, _, h⟩ := hG.q 2 _ rfl
    exact ⟨_, h, .inr ⟨t, p, rfl⟩⟩
theorem tabG {j : J} {M : AMem} {w : World} (hG : Glob j M w) : Lib.TabIs Tryz.prog w Tryz.powName .u64 Lib.pow10Tab := by
  obtain ⟨us, t, fr, h1, h2⟩ := hG.n 3 _ rfl
  have hn : Tryz.prog.globalNamed Tryz.powName = some 3 := by kernel_rfl
  unfold Lib.TabIs World.var?
  rw [hn]
  simp only [Option.bind_some, h1]
  congr 1
  apply Array.ext
  · rw [h2]; rfl
  · intro i hi hi'
    have hi2 : i < (pow10L.map fun (n : Nat) => Value.int .u64 (n : Int)).length := by rw [← h2]; exact hi
    have hk := List.getElem?_eq_getElem hi2
    have := (hG.g 3 _ i _ rfl hk).2
    simp only [World.cell?, h1, Option.isSome_none, Bool.false_eq_true, if_false, Array.getElem?_eq_getElem hi, Option.some.injEq] at this
    rw [this]
    have e : (pow10L.map fun (n : Nat) => Value.int .u64 (n : Int)) = Lib.pow10Tab.map fun z => Value.int .u64 z := by
      have e0 : Lib.pow10Tab = pow10L.map fun (n : Nat) => (n : Int) := by decide +kernel
      rw [e0, List.map_map]; rfl
    simp only [e]
    simp
def pItoa : List AVal → AMem → Option (AVal × AMem)
  | [.int k n], M => if k = .i64 ∧ -9223372036854775808 ≤ n ∧ n ≤ 9223372036854775807 then some (.str (Lib.itoa n), M) else none
  | _, _ => none
theorem itoas {args : List AVal} {M : AMem} {x : AVal × AMem} (h : pItoa args M = some x) : SoundCall Tryz.prog 42 args M x := by
  unfold pItoa at h
  split at h
  · rename_i k n
    split at h
    · rename_i hc
      obtain ⟨rfl, h0, h1⟩ := hc
      injection h with h; subst h
      refine sound_below fun j w vs hr hG hl hv => ?_
      obtain ⟨u, rfl⟩ := one_arg hl
      obtain rfl := (hv 0 _ u rfl rfl).int_inv
      refine (Tryz.strconv_Itoa n h0 h1 w (tabG hG)).mono ?_
      rintro e w' ⟨rfl, k, os, rfl⟩
      exact ⟨_, rfl, Lib.below_grow _ _ (Nat.le_refl _) _ _, .plain (.str _)⟩
    · cases h
  · cases h
def atoiN (s : List UInt8) : Int := match Lib.atoiAll s with
  | .ok v => v
  | .range => Lib.atoiSat s
  | _ => 0
def pAtoi : List AVal → AMem → Option (AVal × AMem)
  | [.str s], M => if s.length ≤ 281474976710656 then some (.tuple [.int .i64 (atoiN s), .any], M) else none
  | _, _ => none
theorem atois {args : List AVal} {M : AMem} {x : AVal × AMem} (h : pAtoi args M = some x) : SoundCall Tryz.prog 58 args M x := by
  unfold pAtoi at h
  split at h
  · rename_i s
    split at h
    · rename_i hs
      injection h with h; subst h
      refine sound_below fun j w vs hr hG hl hv => ?_
      obtain ⟨u, rfl⟩ := one_arg hl
      obtain rfl := (hv 0 _ u rfl rfl).str_inv
      have hsz : (bs s).size = s.length := bs_size s
      have rep : ∀ (w' : World) (n : Int) (v : Value), n = atoiN s → Rep j M w' (.tuple [.int .i64 (atoiN s), .any]) (.tuple #[.int .i64 n, v]) := fun w' n v hn => by
        subst hn
        refine .tuple rfl fun i c u hc hu => ?_
        match i with
        | 0 => cases hc; cases hu; exact .plain (.int _ _)
        | 1 => cases hc; exact .any _
        | i + 2 => cases hc
      have hd : (bs s).data.toList = s := by simp [bs]
      rcases ha : Lib.atoiAll s with v | _ | _
      · skip
        refine (Tryz.strconv_Atoi_ok (bs s) (by omega) v (by rw [hd]; exact ha) w).mono ?_
        rintro e w' ⟨rfl, hw⟩
        refine ⟨_, rfl, ?_, rep w' v _ (by simp [atoiN, ha])⟩
        rcases hw with rfl | ⟨t, rfl⟩
        · exact Below.refl _ _
        · exact Lib.bytesWorld_below _ _ _
      · skip
        obtain ⟨ev, h1, h2⟩ := errG hG 1 (.inl rfl)
        refine (Tryz.strconv_Atoi_syntax (bs s) (by omega) (by rw [hd]; exact ha) ev w h1 h2).mono ?_
        rintro e w' ⟨N, rfl, _, _, hb⟩
        exact ⟨_, rfl, hb, rep w' 0 _ (by simp [atoiN, ha])⟩
      · skip
        obtain ⟨ev, h1, h2⟩ := errG hG 2 (.inr rfl)
        refine (Tryz.strconv_Atoi_range (bs s) (by omega) (by rw [hd]; exact ha) ev w h1 h2).mono ?_
        rintro e w' ⟨N, rfl, _, _, hb⟩
        exact ⟨_, rfl, hb, rep w' _ _ (by simp [atoiN, ha, hd])⟩
    · cases h
  · cases h
def pIndexByte : List AVal → AMem → Option (AVal × AMem)
  | [.str s, .int k c], M => if k = .u8 then some (.int .i64 (Lib.indexByte s c.toNat.toUInt8), M) else none
  | _, _ => none
theorem indexBytes {args : List AVal} {M : AMem} {x : AVal × AMem} (h : pIndexByte args M = some x) : SoundCall Tryz.prog 98 args M x := by
  unfold pIndexByte at h
  split at h
  · rename_i s k c
    split at h
    · rename_i hk
      subst hk
      injection h with h; subst h
      refine sound_below fun j w vs hr hG hl hv => ?_
      obtain ⟨l⟩ := vs
      match l, hl with
      | [u1, u2], _ =>
        obtain rfl := (hv 0 _ u1 rfl rfl).str_inv
        obtain rfl := (hv 1 _ u2 rfl rfl).int_inv
        refine (Tryz.strings_IndexByte (bs s) c w).mono ?_
        rintro e w' ⟨rfl, rfl⟩
        exact ⟨_, rfl, Below.refl _ _, by simp [bs]; exact .plain (.int _ _)⟩
    · cases h
  · cases h
def pCut : List AVal → AMem → Option (AVal × AMem)
  | [.str s, .str sep], M => if s.length < 4294967281 then some (.tuple [.str (Lib.cut s sep).1, .str (Lib.cut s sep).2.1, .bool (Lib.cut s sep).2.2], M) else none
  | _, _ => none
theorem cuts {args : List AVal} {M : AMem} {x : AVal × AMem} (h : pCut args M = some x) : SoundCall Tryz.prog 93 args M x := by
  unfold pCut at h
  split at h
  · rename_i s sep
    split at h
    · rename_i hs
      injection h with h; subst h
      refine sound_below fun j w vs hr hG hl hv => ?_
      obtain ⟨l⟩ := vs
      match l, hl with
      | [u1, u2], _ =>
        obtain rfl := (hv 0 _ u1 rfl rfl).str_inv
        obtain rfl := (hv 1 _ u2 rfl rfl).str_inv
        obtain ⟨m, hm⟩ := maxLenG hG
        refine (Tryz.strings_Cut (bs s) (bs sep) m w (by rw [bs_size]; exact hs) hm).mono ?_
        rintro e w' ⟨rfl, n, rfl⟩
        refine ⟨_, rfl, below_drewN _ _, .tuple rfl fun i c u hc hu => ?_⟩
        match i with
        | 0 => cases hc; cases hu; exact .plain (.str _)
        | 1 => cases hc; cases hu; exact .plain (.str _)
        | 2 => cases hc; cases hu; exact .plain (.bool _)
        | i + 3 => cases hc
    · cases h
  · cases h
theorem texts_rep {j : J} {M : AMem} {w : World} {g : Nat} {t : TypeId} (hlt : w.heap.size ≤ g) (hr : Rel j M w) {w' : World} (l : List ByteArray) (hg : w'.heap[g]? = some (.cells (l.map Value.string).toArray t (0, 0))) (n c : Nat) (hn : n = l.length) (hc : n ≤ c) :
    Rep j M w' (.slice .sh (l.map fun b => .str b.data.toList)) (.slice (some ⟨g, 0, none⟩) n c) := by
  have hb : ∀ b : ByteArray, bs b.data.toList = b := fun b => by simp [bs]
  refine .plain (.slice _ _ _ _ g 0 1 (fun k => .string ((l[k]?).getD ByteArray.empty)) (by simpa using hn) hc (fun _ => rfl) ?_ ?_ ?_)
  · intro x hx
    obtain ⟨b, _, rfl⟩ := List.mem_map.1 hx
    rfl
  · intro i x k c hx hc
    rw [List.getElem?_map] at hx
    obtain ⟨b, hb', rfl⟩ := Option.map_eq_some_iff.1 hx
    match k with
    | 0 =>
      simp only [Nat.mul_one, Nat.add_zero, Nat.zero_add, hb', Option.getD_some]
      refine ⟨by simp [World.cell?, hg, hb'], lt_of_block hg, fun id hid hji => ?_, fun hx => ?_⟩
      · have := hr.lt id g hid hji; omega
      · have := hr.xlt g _ hx; omega
    | k + 1 => cases hc
  · intro i x k c hx hc
    rw [List.getElem?_map] at hx
    obtain ⟨b, hb', rfl⟩ := Option.map_eq_some_iff.1 hx
    match k with
    | 0 =>
      cases hc
      simp only [Nat.mul_one, Nat.add_zero, hb', Option.getD_some]
      have := RepP.str (w := w') (saf := Saf j M w') b.data.toList
      rwa [hb] at this
    | k + 1 => cases hc
def splitS (s sep : List UInt8) : List (List UInt8) := (Lib.splitB (bs sep) 0 (Lib.countB (bs s) (bs sep)) (bs s)).map fun b => b.data.toList
def pSplitS : List AVal → AMem → Option (AVal × AMem)
  | [.str s, .str sep], M => if s.length < 4294967281 ∧ 1 ≤ sep.length then some (.slice .sh ((splitS s sep).map .str), M) else none
  | _, _ => none
theorem splits {args : List AVal} {M : AMem} {x : AVal × AMem} (h : pSplitS args M = some x) : SoundCall Tryz.prog 64 args M x := by
  unfold pSplitS at h
  split at h
  · rename_i s sep
    split at h
    · rename_i hs
      injection h with h; subst h
      refine sound_below fun j w vs hr hG hl hv => ?_
      obtain ⟨l⟩ := vs
      match l, hl with
      | [u1, u2], _ =>
        obtain rfl := (hv 0 _ u1 rfl rfl).str_inv
        obtain rfl := (hv 1 _ u2 rfl rfl).str_inv
        obtain ⟨m, hm⟩ := maxLenG hG
        have h1 : 1 ≤ (bs sep).size := by rw [bs_size]; exact hs.2
        have hlen := Lib.splitB_all (bs sep) h1 0 _ (bs s) rfl
        refine (Tryz.strings_Split (bs s) (bs sep) m w (by rw [bs_size]; exact hs.1) hm h1).mono ?_
        rintro e w' ⟨rfl, rfl⟩
        refine ⟨_, rfl, (Below.refl _ w).alloc (Nat.le_refl _) _, ?_⟩
        have := texts_rep (t := 9) (Nat.le_refl _) hr (w' := w.alloc (.cells ((Lib.splitB (bs sep) 0 (Lib.countB (bs s) (bs sep)) (bs s)).map Value.string).toArray 9)) (Lib.splitB (bs sep) 0 (Lib.countB (bs s) (bs sep)) (bs s)) (by show (w.heap.push _)[w.heap.size]? = _; simp) (Lib.countB (bs s) (bs sep) + 1) (Lib.countB (bs s) (bs sep) + 1) hlen.symm (Nat.le_refl _)
        simpa [splitS, List.map_map, Function.comp_def] using this
    · cases h
  · cases h
def strsOf : List AVal → Option (List (List UInt8))
  | [] => some []
  | .str s :: r => obind (strsOf r) fun l => some (s :: l)
  | _ => none
theorem strsOf_eq : ∀ {xs : List AVal} {l : List (List UInt8)}, strsOf xs = some l → xs = l.map .str
  | [], l, h => by cases h; rfl
  | x :: r, l, h => by
    unfold strsOf at h
    split at h
    · rename_i e; cases e
    · rename_i s r' e
      injection e with e1 e2; subst e1; subst e2
      obtain ⟨l', h1, h2⟩ := obind_inv h
      injection h2 with h2; subst h2
      rw [strsOf_eq h1]; rfl
    · cases h
def pJoin : List AVal → AMem → Option (AVal × AMem)
  | [.slice _ xs, .str sep], M => obind (strsOf xs) fun l => if l.length ≤ 140737488355328 ∧ (Lib.join l sep).length ≤ 140737488355328 then some (.str (Lib.join l sep), M) else none
  | _, _ => none
theorem joins {args : List AVal} {M : AMem} {x : AVal × AMem} (h : pJoin args M = some x) : SoundCall Tryz.prog 48 args M x := by
  unfold pJoin at h
  split at h
  · rename_i tk xs sep
    obtain ⟨l, hl0, h⟩ := obind_inv h
    have hxs := strsOf_eq hl0
    split at h
    · rename_i hs
      injection h with h; subst h
      refine sound_below fun j w vs hr hG hl hv => ?_
      obtain ⟨us⟩ := vs
      match us, hl with
      | [u1, u2], _ =>
        obtain ⟨A, cap, b, off, sz, vs, e1, e2, e3, e4, e5, e6⟩ := (hv 0 _ u1 rfl rfl).slice_inv.slice_inv
        obtain rfl := (hv 1 _ u2 rfl rfl).str_inv
        subst e1
        subst hxs
        cases l with
        | nil =>
          refine (Tryz.strings_Join_none A cap (bs sep) w).mono ?_
          rintro e w' ⟨rfl, rfl⟩
          exact ⟨_, rfl, Below.refl _ _, .plain (.str _)⟩
        | cons s0 l =>
          obtain rfl := e3 (by simp)
          have hsz : sz = 1 := (e4 (.str s0) (by simp)).symm
          subst hsz
          have cell : ∀ (q : Nat) (s : List UInt8), (s0 :: l)[q]? = some s → w.cell? ⟨b, off + q, none⟩ = some (.string (bs s)) := fun q s hq => by
            have hq' : ((s0 :: l).map AVal.str)[q]? = some (.str s) := by rw [List.getElem?_map, hq]; rfl
            have k1 := e5 q _ 0 (.str s) hq' rfl
            have k2 := (Rep.plain (j := j) (M := M) (e6 q _ 0 (.str s) hq' rfl)).str_inv
            simp only [Nat.mul_one, Nat.add_zero] at k1 k2
            rw [k1.1, k2]
          have hmap : ((s0 :: l).map bs).map (·.data.toList) = s0 :: l := by
            rw [List.map_map]; conv => rhs; rw [← List.map_id (s0 :: l)]
            exact List.map_congr_left fun s _ => by simp [bs]
          have hd : (bs sep).data.toList = sep := by simp [bs]
          have hb : b < w.heap.size := by
            have := cell 0 s0 rfl
            rcases Nat.lt_or_ge b w.heap.size with h | h
            · exact h
            · simp [World.cell?, Array.getElem?_eq_none h] at this
          have hJ := Tryz.strings_Join b off cap ((s0 :: l).map bs) (bs sep) w (fun q x hq => by
            rw [List.getElem?_map, Option.map_eq_some_iff] at hq
            obtain ⟨s, hs, rfl⟩ := hq
            exact cell q s hs) hb (by simpa using hs.1) (by simpa using e2) (by rw [hmap, hd]; exact hs.2)
          rw [hmap, hd] at hJ
          have : ((s0 :: l).map bs).length = ((s0 :: l).map AVal.str).length := by simp
          rw [this] at hJ
          refine hJ.mono ?_
          rintro e w' ⟨rfl, hb⟩
          exact ⟨_, rfl, hb, .plain (.str _)⟩
    · cases h
  · cases h
end Go.Proofs.YtannopdcbocngaaGreatDoor
namespace Go.Proofs.YtannopdcbocngaaGreatDoor
open Go Go.Abs
def code : Nat → Option AFn
  | 15 => some fn15
  | 17 => some fn17
  | 19 => some fn19
  | 24 => some fn24
  | 26 => some fn26
  | 43 => some fn43
  | 44 => some fn44
  | 50 => some fn50
  | 55 => some fn55
  | 56 => some fn56
  | 57 => some fn57
  | 59 => some fn59
  | 63 => some fn63
  | 65 => some fn65
  | 68 => some fn68
  | 88 => some fn88
  | 89 => some fn89
  | 96 => some fn96
  | 135 => some fn135
  | 12 => some fn12
  | 13 => some fn13
  | 16 => some fn16
  | 18 => some fn18
  | 21 => some fn21
  | 25 => some fn25
  | 27 => some fn27
  | 29 => some fn29
  | 30 => some fn30
  | 31 => some fn31
  | 32 => some fn32
  | 33 => some fn33
  | 34 => some fn34
  | 37 => some fn37
  | 45 => some fn45
  | 46 => some fn46
  | 47 => some fn47
  | 49 => some fn49
  | 60 => some fn60
  | 61 => some fn61
  | 62 => some fn62
  | 66 => some fn66
  | 69 => some fn69
  | 70 => some fn70
  | 71 => some fn71
  | 72 => some fn72
  | 100 => some fn100
  | 4 => some fn4
  | 5 => some fn5
  | 6 => some fn6
  | 7 => some fn7
  | 8 => some fn8
  | 10 => some fn10
  | 20 => some fn20
  | 22 => some fn22
  | 52 => some fn52
  | 53 => some fn53
  | 35 => some fn35
  | 36 => some fn36
  | 38 => some fn38
  | 39 => some fn39
  | 74 => some fn74
  | 75 => some fn75
  | 76 => some fn76
  | 77 => some fn77
  | 78 => some fn78
  | 102 => some fn102
  | 103 => some fn103
  | 104 => some fn104
  | 105 => some fn105
  | 106 => some fn106
  | 143 => some fn143
  | 144 => some fn144
  | 145 => some fn145
  | 146 => some fn146
  | 147 => some fn147
  | 148 => some fn148
  | 149 => some fn149
  | 150 => some fn150
  | 170 => some fn170
  | 172 => some fn172
  | _ => none
noncomputable def prim : Nat → Option (List AVal → AMem → Option (AVal × AMem))
  | 42 => some (pItoa)
  | 58 => some (pAtoi)
  | 98 => some (pIndexByte)
  | 93 => some (pCut)
  | 64 => some (pSplitS)
  | 48 => some (pJoin)
  | 91 => some (pCheck)
  | 51 => some (pString)
  | 110 => some (pClone 3 32)
  | 107 => some (pClone 6 80)
  | 108 => some (pInsert 6 80)
  | 109 => some (pInsert 3 32)
  | 171 => some (pCompare)
  | _ => none
noncomputable def tab : Tab := ⟨code, prim⟩
theorem code_ok (f : Nat) (fn : AFn) (h : code f = some fn) : ∃ A func, Tryz.prog.funcs[f]? = some func ∧ compFn Tryz.prog A func = some fn := by
  unfold code at h
  split at h
  · injection h with h; subst h; exact ⟨_, _, Tryz.func15, ok15⟩
  · injection h with h; subst h; exact ⟨_, _, Tryz.func17, ok17⟩
  · injection h with h; subst h; exact ⟨_, _, Tryz.func19, ok19⟩
  · injection h with h; subst h; exact ⟨_, _, Tryz.func24, ok24⟩
  · injection h with h; subst h; exact ⟨_, _, Tryz.func26, ok26⟩
  · injection h with h; subst h; exact ⟨_, _, Tryz.func43, ok43⟩
  · injection h with h; subst h; exact ⟨_, _, Tryz.func44, ok44⟩
  · injection h with h; subst h; exact ⟨_, _, Tryz.func50, ok50⟩
  · injection h with h; subst h; exact ⟨_, _, Tryz.func55, ok55⟩
  · injection h with h; subst h; exact ⟨_, _, Tryz.func56, ok56⟩
  · injection h with h; subst h; exact ⟨_, _, Tryz.func57, ok57⟩
  · injection h with h; subst h; exact ⟨_, _, Tryz.func59, ok59⟩
  · injection h with h; subst h; exact ⟨_, _, Tryz.func63, ok63⟩
  · injection h with h; subst h; exact ⟨_, _, Tryz.func65, ok65⟩
  · injection h with h; subst h; exact ⟨_, _, Tryz.func68, ok68⟩
  · injection h with h; subst h; exact ⟨_, _, Tryz.func88, ok88⟩
  · injection h with h; subst h; exact ⟨_, _, Tryz.func89, ok89⟩
  · injection h with h; subst h; exact ⟨_, _, Tryz.func96, ok96⟩
  · injection h with h; subst h; exact ⟨_, _, Tryz.func135, ok135⟩
  · injection h with h; subst h; exact ⟨_, _, Tryz.func12, ok12⟩
  · injection h with h; subst h; exact ⟨_, _, Tryz.func13, ok13⟩
  · injection h with h; subst h; exact ⟨_, _, Tryz.func16, ok16⟩
  · injection h with h; subst h; exact ⟨_, _, Tryz.func18, ok18⟩
  · injection h with h; subst h; exact ⟨_, _, Tryz.func21, ok21⟩
  · injection h with h; subst h; exact ⟨_, _, Tryz.func25, ok25⟩
  · injection h with h; subst h; exact ⟨_, _, Tryz.func27, ok27⟩
  · injection h with h; subst h; exact ⟨_, _, Tryz.func29, ok29⟩
  · injection h with h; subst h; exact ⟨_, _, Tryz.func30, ok30⟩
  · injection h with h; subst h; exact ⟨_, _, Tryz.func31, ok31⟩
  · injection h with h; subst h; exact ⟨_, _, Tryz.func32, ok32⟩
  · injection h with h; subst h; exact ⟨_, _, Tryz.func33, ok33⟩
  · injection h with h; subst h; exact ⟨_, _, Tryz.func34, ok34⟩
  · injection h with h; subst h; exact ⟨_, _, Tryz.func37, ok37⟩
  · injection h with h; subst h; exact ⟨_, _, Tryz.func45, ok45⟩
  · injection h with h; subst h; exact ⟨_, _, Tryz.func46, ok46⟩
  · injection h with h; subst h; exact ⟨_, _, Tryz.func47, ok47⟩
  · injection h with h; subst h; exact ⟨_, _, Tryz.func49, ok49⟩
  · injection h with h; subst h; exact ⟨_, _, Tryz.func60, ok60⟩
  · injection h with h; subst h; exact ⟨_, _, Tryz.func61, ok61⟩
  · injection h with h; subst h; exact ⟨_, _, Tryz.func62, ok62⟩
  · injection h with h; subst h; exact ⟨_, _, Tryz.func66, ok66⟩
  · injection h with h; subst h; exact ⟨_, _, Tryz.func69, ok69⟩
  · injection h with h; subst h; exact ⟨_, _, Tryz.func70, ok70⟩
  · injection h with h; subst h; exact ⟨_, _, Tryz.func71, ok71⟩
  · injection h with h; subst h; exact ⟨_, _, Tryz.func72, ok72⟩
  · injection h with h; subst h; exact ⟨_, _, Tryz.func100, ok100⟩
  · injection h with h; subst h; exact ⟨_, _, Tryz.func4, ok4⟩
  · injection h with h; subst h; exact ⟨_, _, Tryz.func5, ok5⟩
  · injection h with h; subst h; exact ⟨_, _, Tryz.func6, ok6⟩
  · injection h with h; subst h; exact ⟨_, _, Tryz.func7, ok7⟩
  · injection h with h; subst h; exact ⟨_, _, Tryz.func8, ok8⟩
  · injection h with h; subst h; exact ⟨_, _, Tryz.func10, ok10⟩
  · injection h with h; subst h; exact ⟨_, _, Tryz.func20, ok20⟩
  · injection h with h; subst h; exact ⟨_, _, Tryz.func22, ok22⟩
  · injection h with h; subst h; exact ⟨_, _, Tryz.func52, ok52⟩
  · injection h with h; subst h; exact ⟨_, _, Tryz.func53, ok53⟩
  · injection h with h; subst h; exact ⟨_, _, Tryz.func35, ok35⟩
  · injection h with h; subst h; exact ⟨_, _, Tryz.func36, ok36⟩
  · injection h with h; subst h; exact ⟨_, _, Tryz.func38, ok38⟩
  · injection h with h; subst h; exact ⟨_, _, Tryz.func39, ok39⟩
  · injection h with h; subst h; exact ⟨_, _, Tryz.func74, ok74⟩
  · injection h with h; subst h; exact ⟨_, _, Tryz.func75, ok75⟩
  · injection h with h; subst h; exact ⟨_, _, Tryz.func76, ok76⟩
  · injection h with h; subst h; exact ⟨_, _, Tryz.func77, ok77⟩
  · injection h with h; subst h; exact ⟨_, _, Tryz.func78, ok78⟩
  · injection h with h; subst h; exact ⟨_, _, Tryz.func102, ok102⟩
  · injection h with h; subst h; exact ⟨_, _, Tryz.func103, ok103⟩
  · injection h with h; subst h; exact ⟨_, _, Tryz.func104, ok104⟩
  · injection h with h; subst h; exact ⟨_, _, Tryz.func105, ok105⟩
  · injection h with h; subst h; exact ⟨_, _, Tryz.func106, ok106⟩
  · injection h with h; subst h; exact ⟨_, _, Tryz.func143, ok143⟩
  · injection h with h; subst h; exact ⟨_, _, Tryz.func144, ok144⟩
  · injection h with h; subst h; exact ⟨_, _, Tryz.func145, ok145⟩
  · injection h with h; subst h; exact ⟨_, _, Tryz.func146, ok146⟩
  · injection h with h; subst h; exact ⟨_, _, Tryz.func147, ok147⟩
  · injection h with h; subst h; exact ⟨_, _, Tryz.func148, ok148⟩
  · injection h with h; subst h; exact ⟨_, _, Tryz.func149, ok149⟩
  · injection h with h; subst h; exact ⟨_, _, Tryz.func150, ok150⟩
  · injection h with h; subst h; exact ⟨_, _, Tryz.func170, ok170⟩
  · injection h with h; subst h; exact ⟨_, _, Tryz.func172, ok172⟩
  · cases h
theorem prim_ok (f : Nat) (g : List AVal → AMem → Option (AVal × AMem)) (h : prim f = some g) (args : List AVal) (M : AMem) (x : AVal × AMem) (hx : g args M = some x) : enterable Tryz.prog f = true ∧ SoundCall Tryz.prog f args M x := by
  unfold prim at h
  split at h
  · injection h with h; subst h; exact ⟨by kernel_rfl, itoas hx⟩
  · injection h with h; subst h; exact ⟨by kernel_rfl, atois hx⟩
  · injection h with h; subst h; exact ⟨by kernel_rfl, indexBytes hx⟩
  · injection h with h; subst h; exact ⟨by kernel_rfl, cuts hx⟩
  · injection h with h; subst h; exact ⟨by kernel_rfl, splits hx⟩
  · injection h with h; subst h; exact ⟨by kernel_rfl, joins hx⟩
  · injection h with h; subst h; exact ⟨by kernel_rfl, checks hx⟩
  · injection h with h; subst h; exact ⟨by kernel_rfl, strings hx⟩
  · injection h with h; subst h; exact ⟨by kernel_rfl, clones110 hx⟩
  · injection h with h; subst h; exact ⟨by kernel_rfl, clones107 hx⟩
  · injection h with h; subst h; exact ⟨by kernel_rfl, insert108 hx⟩
  · injection h with h; subst h; exact ⟨by kernel_rfl, insert109 hx⟩
  · injection h with h; subst h; exact ⟨by kernel_rfl, compares171 hx⟩
  · cases h
theorem tab_ok : TabOk Tryz.prog tab := ⟨code_ok, prim_ok⟩
theorem sound : SoundC Tryz.prog (acall tab) := acall_sound (by kernel_rfl) tab_ok
end Go.Proofs.YtannopdcbocngaaGreatDoor
namespace Go.Proofs.YtannopdcbocngaaGreatDoor
open Go Go.Abs
attribute [local irreducible] exK opsK opK gK forkK kr acall callOp owhen obind
abbrev Bytes := List UInt8
abbrev eI (n : Int) : AVal := .int .i64 n
theorem acall_prim {T : Tab} {f : Nat} {g : List AVal → AMem → Option (AVal × AMem)} {args : List AVal} {M : AMem} {x : AVal × AMem} (hp : T.prim f = some g) (h : g args M = some x) : acall T f args M = some x := by
  unfold acall
  refine lim_some (fun n x h => acallN_up T n f args M x h) (n := 0) ?_
  unfold acallN
  rw [hp]
  exact h
theorem roomS {a : Nat} (h : a ≤ 1099511627776) : roomOk a 1 = True := by
  simp only [eq_iff_iff, iff_true]
  unfold roomOk
  omega
abbrev bld (p k : Nat) (l : Bytes) : ABox := .cells [.bself p 87, .obuf k 5 true l]
abbrev bldM (l : Bytes) : AMem := [bld 0 1 l, .tick 1 l.length]
theorem callOpB {C : CallF} {f p k : Nat} {vs : List AVal} {r : AVal} {M : AMem} {l : Bytes} {b' : AVal} {n' : Nat} (hp : nth M p = some (bld p k l)) (hk : nth M k = some (.tick 1 l.length)) (hpk : p ≠ k)
    (h : C f (.ptr 0 0 :: vs) (bldM l) = some (r, [.cells [.bself 0 87, b'], .tick 1 n'])) (h1 : vs.all AVal.flat = true) (h2 : vs.flatMap AVal.ids = [])
    (h4 : vs.map (AVal.ren (idxN [p, k])) = vs) (h5 : r.renR (atN [p, k]) = r) (h3 : r.flatR = true) (hb : b'.flat1 = true) :
    callOp C f (.ptr p 0 :: vs) M = some (r, setN (setN M p (.cells [.bself p 87, b'.ren1 (atN [p, k])])) k (.tick 1 n')) := by
  have hids : (AVal.ptr p 0 :: vs).flatMap AVal.ids = [p] := by simp [AVal.ids, AVal.ids1, AVal.ids0, h2]
  have hi : idsAt M [p] = [p, k] := by simp [idsAt, hp, ABox.ids, AVal.ids1, AVal.ids0]
  have hi2 : idsAt M [p, k] = [p, k] := by simp [idsAt, hp, hk, ABox.ids, AVal.ids1, AVal.ids0]
  have hc : ([p] : List Nat).contains k = false := by simpa using Ne.symm hpk
  have e0 : reach1 M [p] = [p, k] := by
    simp only [reach1, hi, addAll]
    have h1 : ([p] : List Nat).contains p = true := by simp
    rw [if_pos h1, if_neg (by simpa using Ne.symm hpk)]
    rfl
  have e2 : reach1 M [p, k] = [p, k] := by
    simp only [reach1, hi2, addAll]
    rw [if_pos (by simp), if_pos (by simp)]
  have e1 : reach M [p] = [p, k] := by
    have ea : addAll [] [p] = [p] := rfl
    simp only [reach, ea, e0, e2]
  have hfl : (AVal.ptr p 0 :: vs).all AVal.flat = true := by simp only [List.all_cons, h1, Bool.and_true]; rfl
  unfold callOp
  rw [if_pos hfl, hids, e1]
  have i0 : idxN [p, k] p = 0 := by simp [idxN]
  have i1 : idxN [p, k] k = 1 := by simp [idxN, hpk]
  have hpkm : pickM M (idxN [p, k]) [p, k] = some (bldM l) := by
    simp [pickM, hp, hk, ABox.flat, AVal.flat1, AVal.flat0, ABox.ren, AVal.ren1, AVal.ren0, i0, i1]
  rw [hpkm]
  simp only [obind_some]
  rw [if_pos e2]
  have hrn : (AVal.ptr p 0 :: vs).map (AVal.ren (idxN [p, k])) = .ptr 0 0 :: vs := by
    simp only [List.map_cons, h4]
    simp [AVal.ren, AVal.ren1, AVal.ren0, i0]
  rw [hrn, h]
  simp only [obind_some]
  rw [if_pos ⟨rfl, h3, by simp [ABox.flat, AVal.flat1, AVal.flat0] at hb ⊢; exact hb⟩, h5]
  simp [wback, ABox.ren, AVal.ren1, AVal.ren0, atN, nth]
theorem c91 (l : Bytes) : acall tab 91 [.ptr 0 0] (bldM l) = some (.tuple [], bldM l) := acall_prim (g := pCheck) rfl rfl
theorem k91 (l : Bytes) : callOp (acall tab) 91 [.ptr 0 0] (bldM l) = some (.tuple [], bldM l) :=
  callOpB (p := 0) (k := 1) rfl rfl (by decide) (c91 l) rfl rfl rfl rfl rfl rfl
theorem c50 (l s : Bytes) (h : l.length + s.length ≤ 1099511627776) : acall tab 50 [.ptr 0 0, .str s] (bldM l) = some (.tuple [eI s.length, .raw .nilIface], bldM (l ++ s)) := by
  refine acall_ex rfl rfl rfl ?_
  have hr := roomS h
  simp only [fn50, E50, k91, hr, EVT, EVD, ↓reduceIte, Nat.reduceEqDiff, reduceCtorEq, Nat.reduceAdd, Nat.reduceLeDiff, ne_eq, Nat.reduceLT, Int.reduceLT, Int.reduceLE, Int.reduceNeg]
  simp
theorem k50 {p k : Nat} {M : AMem} {l : Bytes} (s : Bytes) (hp : nth M p = some (bld p k l)) (hk : nth M k = some (.tick 1 l.length)) (hpk : p ≠ k) (h : l.length + s.length ≤ 1099511627776) :
    callOp (acall tab) 50 [.ptr p 0, .str s] M = some (.tuple [eI s.length, .raw .nilIface], setN (setN M p (bld p k (l ++ s))) k (.tick 1 (l ++ s).length)) := by
  have := callOpB (vs := [.str s]) hp hk hpk (c50 l s h) rfl rfl rfl rfl rfl rfl
  rw [this]
  simp [AVal.ren1, AVal.ren0, atN, nth]
theorem c89 (l : Bytes) (c : UInt8) (h : l.length + 1 ≤ 1099511627776) : acall tab 89 [.ptr 0 0, .int .u8 c.toNat] (bldM l) = some (.raw .nilIface, bldM (l ++ [c])) := by
  refine acall_ex rfl rfl rfl ?_
  have hr := roomS h
  have hc : bytesOf [.int .u8 (c.toNat : Int)] = some [c] := by simp [bytesOf]
  have hm : ([AVal.int .u8 (c.toNat : Int)] = [u8V c]) = True := by simp [u8V]
  simp only [fn89, E89, k91, hr, hc, hm, EVT, EVD, ↓reduceIte, Nat.reduceEqDiff, reduceCtorEq, Nat.reduceAdd, Nat.reduceLeDiff, ne_eq, Nat.reduceLT, Int.reduceLT, Int.reduceLE, Int.reduceNeg]
  simp
theorem k89 {p k : Nat} {M : AMem} {l : Bytes} (c : UInt8) (hp : nth M p = some (bld p k l)) (hk : nth M k = some (.tick 1 l.length)) (hpk : p ≠ k) (h : l.length + 1 ≤ 1099511627776) :
    callOp (acall tab) 89 [.ptr p 0, .int .u8 c.toNat] M = some (.raw .nilIface, setN (setN M p (bld p k (l ++ [c]))) k (.tick 1 (l ++ [c]).length)) := by
  have := callOpB (vs := [.int .u8 c.toNat]) hp hk hpk (c89 l c h) rfl rfl rfl rfl rfl rfl
  rw [this]
  simp [AVal.ren1, AVal.ren0, atN, nth]
theorem c51 (l : Bytes) (h : l.length ≤ 1099511627776) : acall tab 51 [.ptr 0 0] (bldM l) = some (.str l, [.cells [.bself 0 87, .any], .tick 1 (l.length + 1)]) := by
  refine acall_prim (g := pString) rfl ?_
  unfold pString
  simp only [nth]
  rw [if_pos ⟨trivial, trivial, trivial, by omega, .inr trivial⟩]
  rfl
theorem k51 {p k : Nat} {M : AMem} {l : Bytes} (hp : nth M p = some (bld p k l)) (hk : nth M k = some (.tick 1 l.length)) (hpk : p ≠ k) (h : l.length ≤ 1099511627776) :
    callOp (acall tab) 51 [.ptr p 0] M = some (.str l, setN (setN M p (.cells [.bself p 87, .any])) k (.tick 1 (l.length + 1))) :=
  callOpB (vs := []) hp hk hpk (c51 l h) rfl rfl rfl rfl rfl rfl
def plainE (c : UInt8) : Bool := (decide (97 ≤ ior .u8 c.toNat 32) && decide (ior .u8 c.toNat 32 ≤ 122)) || (decide ((48 : Int) ≤ c.toNat) && decide ((c.toNat : Int) ≤ 57)) || decide (0 ≤ Lib.indexByte [47, 46, 95, 45] c)
theorem c98 (s : Bytes) (c : UInt8) : acall tab 98 [.str s, .int .u8 c.toNat] [] = some (eI (Lib.indexByte s c), []) := by
  refine acall_prim (g := pIndexByte) rfl ?_
  simp [pIndexByte]
theorem k98 (s : Bytes) (c : UInt8) (M : AMem) : callOp (acall tab) 98 [.str s, .int .u8 c.toNat] M = some (eI (Lib.indexByte s c), M) := callOp0 (c98 s c) rfl rfl rfl rfl rfl M
theorem c88 (c : UInt8) : acall tab 88 [.int .u8 c.toNat] [] = some (.bool (plainE c), []) := by
  refine acall_ex rfl rfl rfl ?_
  simp only [fn88, E88, k98, EVT, EVD, ↓reduceIte, Nat.reduceEqDiff, reduceCtorEq, Nat.reduceAdd, Nat.reduceLeDiff, ne_eq, Nat.reduceLT, Int.reduceLT, Int.reduceLE, Int.reduceNeg]
  repeat' (first | (refine fork_split (fun hb => ?_) (fun hb => ?_) <;> simp only [hb, k98, EVT, EVD, ↓reduceIte, Nat.reduceEqDiff, reduceCtorEq, Nat.reduceAdd, Nat.reduceLeDiff, ne_eq, Nat.reduceLT, Int.reduceLT, Int.reduceLE, Int.reduceNeg]) | (refine guard_split (fun hb => ?_) (fun hb => ?_) <;> simp only [hb, k98, EVT, EVD, ↓reduceIte, Nat.reduceEqDiff, reduceCtorEq, Nat.reduceAdd, Nat.reduceLeDiff, ne_eq, Nat.reduceLT, Int.reduceLT, Int.reduceLE, Int.reduceNeg]) | (refine opK_pick (fun hb => ?_) (fun hb => ?_) <;> simp only [hb, k98, EVT, EVD, ↓reduceIte, Nat.reduceEqDiff, reduceCtorEq, Nat.reduceAdd, Nat.reduceLeDiff, ne_eq, Nat.reduceLT, Int.reduceLT, Int.reduceLE, Int.reduceNeg]))
  all_goals (simp_all [plainE] <;> omega)
end Go.Proofs.YtannopdcbocngaaGreatDoor
namespace Go.Proofs.YtannopdcbocngaaGreatDoor
open Go Go.Abs
attribute [local irreducible] exK opsK opK gK forkK kr acall callOp owhen obind
theorem k88 (c : UInt8) (M : AMem) : callOp (acall tab) 88 [.int .u8 c.toNat] M = some (.bool (plainE c), M) := callOp0 (c88 c) rfl rfl rfl rfl rfl M
def hexL : Bytes := [48, 49, 50, 51, 52, 53, 54, 55, 56, 57, 97, 98, 99, 100, 101, 102]
def hexD (n : Nat) : UInt8 := hexL.getD n 0
def escB (c : UInt8) : Bytes := if plainE c then [c] else [37, hexD (c.toNat / 16), hexD (c.toNat % 16)]
def escN (s : Bytes) : Bytes := s.flatMap escB
theorem escB_le (c : UInt8) : (escB c).length ≤ 3 := by unfold escB; split <;> simp
theorem escN_le (s : Bytes) : (escN s).length ≤ 3 * s.length := by
  induction s with
  | nil => simp [escN]
  | cons c r ih =>
    have := escB_le c
    simp only [escN, List.flatMap_cons, List.length_append, List.length_cons] at ih ⊢
    omega
theorem hex_facts : ∀ n : Nat, n < 256 → (n : Int).fdiv (2 ^ min (Int.toNat 4) IntKind.u8.bits) = ((n / 16 : Nat) : Int) ∧ IntKind.u8.wrap (((n / 16 : Nat) : Int) + 1) = ((n / 16 + 1 : Nat) : Int) ∧ iand .u8 n 15 = ((n % 16 : Nat) : Int) ∧ IntKind.u8.wrap (((n % 16 : Nat) : Int) + 1) = ((n % 16 + 1 : Nat) : Int) := by decide +kernel
theorem hex_cut : ∀ n : Nat, n < 16 → List.drop n (48 :: List.take n [49, 50, 51, 52, 53, 54, 55, 56, 57, 97, 98, 99, 100, 101, 102]) = [hexD n] := by decide +kernel
theorem hex_ok (n : Nat) (h : n < 16) : (((n + 1 : Nat) : Int) ≤ ((16 : Nat) : Int) ∧ ((n : Nat) : Int) ≤ ((n + 1 : Nat) : Int)) = True := by
  simp only [eq_iff_iff, iff_true]; omega
theorem escN_snoc (pre : Bytes) (c : UInt8) : escN (pre ++ [c]) = escN pre ++ escB c := by simp [escN]
theorem loop44 (s : Bytes) (hs : s.length ≤ 1000000) (C : CallF) (hC : C = acall tab) : ∀ (r pre : Bytes), s = pre ++ r → ∀ (fn : List ARes) (base : Nat) (k : List K),
    exK C fn base (.block 0 :: k) (.loop [0, 3, 7, 8] lb44_0) [(0, .str s), (3, .ptr 1 0), (7, eI s.length), (8, eI pre.length)] [.tick 1 (escN pre).length, bld 1 0 (escN pre)] =
    kr C fn base k ⟨.normal, [(0, .str s), (3, .ptr 1 0), (7, eI s.length), (8, eI s.length), (9, .bool false)], [.tick 1 (escN s).length, bld 1 0 (escN s)]⟩
  | [], pre, he, fn, base, k => by
    subst hC
    have : pre = s := by simpa using he.symm
    subst this
    rw [exK_loop]
    have hlt : decide ((pre.length : Int) < pre.length) = false := by simp
    simp only [E44, hlt, EVT, EVD, ↓reduceIte, Nat.reduceEqDiff, reduceCtorEq, Nat.reduceAdd, Nat.reduceLeDiff, ne_eq, Nat.reduceLT, Int.reduceLT, Int.reduceLE, Int.reduceNeg]
  | c :: r, pre, he, fn, base, k => by
    subst hC
    have hl : pre.length < s.length := by rw [he]; simp
    have hlt : decide ((pre.length : Int) < s.length) = true := by simpa using hl
    have hix : s[pre.length]? = some c := by rw [he]; simp
    have hn : (0 : Int) ≤ pre.length := by omega
    have hw : IntKind.i64.wrap ((pre.length : Int) + 1) = ((pre ++ [c]).length : Int) := by rw [List.length_append, wrapS (by omega) (by omega)]; simp
    have hle := escN_le pre
    have ih := loop44 s hs (acall tab) rfl r (pre ++ [c]) (by simpa using he) fn base k
    rw [exK_loop]
    simp only [E44, hlt, hix, k88, EVT, EVD, ↓reduceIte, Nat.reduceEqDiff, reduceCtorEq, Nat.reduceAdd, Nat.reduceLeDiff, ne_eq, Nat.reduceLT, Int.reduceLT, Int.reduceLE, Int.reduceNeg]
    refine fork_split (fun hb => ?_) (fun hb => ?_)
    · have hk := k89 (p := 1) (k := 0) (M := [.tick 1 (escN pre).length, bld 1 0 (escN pre)]) c rfl rfl (by decide) (by omega)
      have he2 : escN (pre ++ [c]) = escN pre ++ [c] := by rw [escN_snoc, escB, if_pos hb]
      rw [he2] at ih
      simp only [List.length_append, List.length_cons, List.length_nil, Nat.zero_add] at ih hw
      simp only [E44, hb, hk, hw, EVT, EVD, ↓reduceIte, Nat.reduceEqDiff, reduceCtorEq, Nat.reduceAdd, Nat.reduceLeDiff, ne_eq, Nat.reduceLT, Int.reduceLT, Int.reduceLE, Int.reduceNeg]
      exact ih
    · obtain ⟨h1, h2, h3, h4⟩ := hex_facts c.toNat c.toNat_lt
      have ha : c.toNat / 16 < 16 := by have := c.toNat_lt; omega
      have hb' : c.toNat % 16 < 16 := by omega
      have hk := k50 (p := 1) (k := 0) (M := [.tick 1 (escN pre).length, bld 1 0 (escN pre)]) [37, hexD (c.toNat / 16), hexD (c.toNat % 16)] rfl rfl (by decide) (by simp; omega)
      have he2 : escN (pre ++ [c]) = escN pre ++ [37, hexD (c.toNat / 16), hexD (c.toNat % 16)] := by rw [escN_snoc, escB, if_neg (by simp [hb])]
      rw [he2] at ih
      simp only [List.length_append, List.length_cons, List.length_nil, Nat.zero_add] at ih hw
      simp only [E44, hb, h1, h2, h3, h4, hex_ok _ ha, hex_ok _ hb', hex_cut _ ha, hex_cut _ hb', hk, hw, EVT, EVD, ↓reduceIte, Nat.reduceEqDiff, reduceCtorEq, Nat.reduceAdd, Nat.reduceLeDiff, ne_eq, Nat.reduceLT, Int.reduceLT, Int.reduceLE, Int.reduceNeg]
      exact ih
theorem c44 (s : Bytes) (hs : s.length ≤ 1000000) : acall tab 44 [.str s] [] = some (.str (escN s), []) := by
  refine acall_ex rfl rfl rfl ?_
  have h0 := fun fn base k => loop44 s hs (acall tab) rfl s [] rfl fn base k
  have hle := escN_le s
  have hk := k51 (p := 1) (k := 0) (M := [.tick 1 (escN s).length, bld 1 0 (escN s)]) rfl rfl (by decide) (by omega)
  simp only [fn44, E44, EVT, EVD, ↓reduceIte, Nat.reduceEqDiff, reduceCtorEq, Nat.reduceAdd, Nat.reduceLeDiff, ne_eq, Nat.reduceLT, Int.reduceLT, Int.reduceLE, Int.reduceNeg]
  refine (h0 _ _ _).trans ?_
  simp only [E44, hk, EVT, EVD, ↓reduceIte, Nat.reduceEqDiff, reduceCtorEq, Nat.reduceAdd, Nat.reduceLeDiff, ne_eq, Nat.reduceLT, Int.reduceLT, Int.reduceLE, Int.reduceNeg]
theorem k44 (s : Bytes) (hs : s.length ≤ 1000000) (M : AMem) : callOp (acall tab) 44 [.str s] M = some (.str (escN s), M) := callOp0 (c44 s hs) rfl rfl rfl rfl rfl M
end Go.Proofs.YtannopdcbocngaaGreatDoor
namespace Go.Proofs.YtannopdcbocngaaGreatDoor
open Go Go.Abs
attribute [local irreducible] exK opsK opK gK forkK kr acall callOp owhen obind
def okI (n : Int) : Prop := -9223372036854775808 ≤ n ∧ n ≤ 9223372036854775807
theorem c42 (n : Int) (h : okI n) : acall tab 42 [.int .i64 n] [] = some (.str (Lib.itoa n), []) := by
  refine acall_prim (g := pItoa) rfl ?_
  unfold pItoa
  simp only []
  rw [if_pos ⟨trivial, h.1, h.2⟩]
theorem k42 (n : Int) (h : okI n) (M : AMem) : callOp (acall tab) 42 [.int .i64 n] M = some (.str (Lib.itoa n), M) := callOp0 (c42 n h) rfl rfl rfl rfl rfl M
theorem itoa_le {n : Int} (h : okI n) : (Lib.itoa n).length ≤ 21 := Lib.itoa_length_le n h.1 h.2
structure Fld where
  word : Bytes
  n : Int
  s : Bytes
  deriving DecidableEq, Inhabited
def eFldC (f : Fld) : List AVal := [.str f.word, .int .i64 f.n, .str f.s]
abbrev eFld (f : Fld) : AVal := .agg (eFldC f)
structure FldOk (f : Fld) : Prop where
  word : f.word.length ≤ 100000000
  n : okI f.n
  s : f.s.length ≤ 100000000
def fldN (f : Fld) : Bytes := if f.n != 0 then 32 :: (f.word ++ [61] ++ Lib.itoa f.n) else if f.s != [] then 32 :: (f.word ++ [61] ++ f.s) else []
def fldsN (l : List Fld) : Bytes := l.flatMap fldN
def lineN (first : Bytes) (l : List Fld) : Bytes := first ++ fldsN l
theorem fldN_le {f : Fld} (h : FldOk f) : (fldN f).length ≤ 300000000 := by
  have := itoa_le h.n; have := h.word; have := h.s
  unfold fldN
  split
  · simp; omega
  · split
    · simp; omega
    · simp
theorem fldsN_le : ∀ {l : List Fld}, (∀ f, f ∈ l → FldOk f) → (fldsN l).length ≤ 300000000 * l.length
  | [], _ => by simp [fldsN]
  | f :: r, h => by
    have h1 := fldN_le (h f (by simp))
    have h2 := fldsN_le fun g hg => h g (List.mem_cons_of_mem _ hg)
    simp only [fldsN, List.flatMap_cons, List.length_append, List.length_cons] at h2 ⊢
    omega
theorem fldsN_snoc (l : List Fld) (f : Fld) : fldsN (l ++ [f]) = fldsN l ++ fldN f := by simp [fldsN]
theorem loop43 (l : List Fld) (hok : ∀ f, f ∈ l → FldOk f) (hl : l.length ≤ 100) (C : CallF) (hC : C = acall tab) : ∀ (r pre : List Fld), l = pre ++ r → ∀ (t : Bytes), t.length ≤ 100000000 + 300000000 * pre.length → ∀ (fn : List ARes) (base : Nat) (k : List K),
    exK C fn base (.block 0 :: k) (.loop [5, 10, 11, 12] lb43_0) [(5, .ptr 1 0), (10, .slice .sh (l.map eFld)), (11, eI l.length), (12, eI pre.length)] [.tick 1 t.length, bld 1 0 t] =
    kr C fn base k ⟨.normal, [(5, .ptr 1 0), (10, .slice .sh (l.map eFld)), (11, eI l.length), (12, eI l.length), (13, .bool false)], [.tick 1 (t ++ fldsN r).length, bld 1 0 (t ++ fldsN r)]⟩
  | [], pre, he, t, ht, fn, base, k => by
    subst hC
    have : pre = l := by simpa using he.symm
    subst this
    rw [exK_loop]
    have hlt : decide ((pre.length : Int) < pre.length) = false := by simp
    have h0 : t ++ fldsN [] = t := by simp [fldsN]
    rw [h0]
    simp only [E43, hlt, EVT, EVD, ↓reduceIte, Nat.reduceEqDiff, reduceCtorEq, Nat.reduceAdd, Nat.reduceLeDiff, ne_eq, Nat.reduceLT, Int.reduceLT, Int.reduceLE, Int.reduceNeg]
  | f :: r, pre, he, t, ht, fn, base, k => by
    subst hC
    have hl' : pre.length < l.length := by rw [he]; simp
    have hlt : decide ((pre.length : Int) < l.length) = true := by simpa using hl'
    have hix : l[pre.length]? = some f := by rw [he]; simp
    have hn : (0 : Int) ≤ pre.length := by omega
    have hw : IntKind.i64.wrap ((pre.length : Int) + 1) = ((pre ++ [f]).length : Int) := by rw [List.length_append, wrapS (by omega) (by omega)]; simp
    have hfo := hok f (by rw [he]; simp)
    have h1 := hfo.word; have h2 := hfo.s; have h3 := itoa_le hfo.n
    have h4 := fldN_le hfo
    have ih := loop43 l hok hl (acall tab) rfl r (pre ++ [f]) (by simpa using he) (t ++ fldN f) (by simp; omega) fn base k
    have hfr : t ++ fldN f ++ fldsN r = t ++ fldsN (f :: r) := by simp [fldsN]
    rw [hfr] at ih
    generalize t ++ fldsN (f :: r) = u at ih ⊢
    have hi := fun M => k42 f.n hfo.n M
    simp only [List.length_append, List.length_cons, List.length_nil, Nat.zero_add] at ih hw
    rw [exK_loop]
    simp (disch := omega) only [E43, hlt, hix, eFldC, hi, EVT, EVD, ↓reduceIte, Nat.reduceEqDiff, reduceCtorEq, Nat.reduceAdd, Nat.reduceLeDiff, ne_eq, Nat.reduceLT, Int.reduceLT, Int.reduceLE, Int.reduceNeg]
    refine fork_split (fun hb => ?_) (fun hb => ?_)
    · have he2 : fldN f = 32 :: (f.word ++ [61] ++ Lib.itoa f.n) := by rw [fldN, if_pos hb]
      rw [he2] at ih
      have hk := k50 (p := 1) (k := 0) (M := [.tick 1 t.length, bld 1 0 t, .cells (eFldC f)]) (32 :: (f.word ++ [61] ++ Lib.itoa f.n)) rfl rfl (by decide) (by simp; omega)
      simp only [eFldC, List.length_append, List.length_cons, List.length_nil, Nat.zero_add] at hk ih
      simp (config := {maxSteps := 1000000}) (disch := omega) only [E43, hb, hi, eFldC, EVT, EVD, ↓reduceIte, Nat.reduceEqDiff, reduceCtorEq, Nat.reduceAdd, Nat.reduceLeDiff, ne_eq, Nat.reduceLT, Int.reduceLT, Int.reduceLE, Int.reduceNeg]
      rw [hk]
      simp only [E43, hw, EVT, EVD, ↓reduceIte, Nat.reduceEqDiff, reduceCtorEq, Nat.reduceAdd, Nat.reduceLeDiff, ne_eq, Nat.reduceLT, Int.reduceLT, Int.reduceLE, Int.reduceNeg]
      exact ih
    · simp (disch := omega) only [E43, hb, eFldC, EVT, EVD, ↓reduceIte, Nat.reduceEqDiff, reduceCtorEq, Nat.reduceAdd, Nat.reduceLeDiff, ne_eq, Nat.reduceLT, Int.reduceLT, Int.reduceLE, Int.reduceNeg]
      refine fork_split (fun hc => ?_) (fun hc => ?_)
      · have he2 : fldN f = 32 :: (f.word ++ [61] ++ f.s) := by rw [fldN, if_neg (by simp [hb]), if_pos (by simpa using hc)]
        rw [he2] at ih
        have hk := k50 (p := 1) (k := 0) (M := [.tick 1 t.length, bld 1 0 t, .cells (eFldC f)]) (32 :: (f.word ++ [61] ++ f.s)) rfl rfl (by decide) (by simp; omega)
        simp only [eFldC, List.length_append, List.length_cons, List.length_nil, Nat.zero_add] at hk ih
        simp (config := {maxSteps := 1000000}) (disch := omega) only [E43, hb, hc, eFldC, EVT, EVD, ↓reduceIte, Nat.reduceEqDiff, reduceCtorEq, Nat.reduceAdd, Nat.reduceLeDiff, ne_eq, Nat.reduceLT, Int.reduceLT, Int.reduceLE, Int.reduceNeg]
        rw [hk]
        simp only [E43, hw, EVT, EVD, ↓reduceIte, Nat.reduceEqDiff, reduceCtorEq, Nat.reduceAdd, Nat.reduceLeDiff, ne_eq, Nat.reduceLT, Int.reduceLT, Int.reduceLE, Int.reduceNeg]
        exact ih
      · have he2 : fldN f = [] := by rw [fldN, if_neg (by simp [hb]), if_neg (by simpa using hc)]
        rw [he2] at ih
        simp only [eFldC, List.append_nil, List.length_nil, Nat.add_zero] at ih
        simp (config := {maxSteps := 1000000}) (disch := omega) only [E43, hb, hc, hw, eFldC, EVT, EVD, ↓reduceIte, Nat.reduceEqDiff, reduceCtorEq, Nat.reduceAdd, Nat.reduceLeDiff, ne_eq, Nat.reduceLT, Int.reduceLT, Int.reduceLE, Int.reduceNeg]
        exact ih
theorem lineN_le {first : Bytes} {l : List Fld} (hf : first.length ≤ 100000000) (hok : ∀ f, f ∈ l → FldOk f) (hl : l.length ≤ 100) : (lineN first l).length ≤ 40000000000 := by
  have := fldsN_le hok
  simp only [lineN, List.length_append]; omega
theorem c43 (first : Bytes) (hf : first.length ≤ 100000000) (l : List Fld) (hok : ∀ f, f ∈ l → FldOk f) (hl : l.length ≤ 100) : acall tab 43 [.str first, .slice .sh (l.map eFld)] [] = some (.str (lineN first l), []) := by
  refine acall_ex rfl rfl rfl ?_
  have hk := k50 (p := 1) (k := 0) (M := [.tick 1 0, bld 1 0 []]) first rfl rfl (by decide) (by simp; omega)
  have h0 := loop43 l hok hl (acall tab) rfl l [] rfl first (by simp; omega)
  have hle := lineN_le hf hok hl
  have hk2 := k51 (p := 1) (k := 0) (M := [.tick 1 (lineN first l).length, bld 1 0 (lineN first l)]) rfl rfl (by decide) (by omega)
  simp only [List.length_nil, Nat.zero_add, List.nil_append] at hk h0
  simp only [fn43, E43, hk, EVT, EVD, ↓reduceIte, Nat.reduceEqDiff, reduceCtorEq, Nat.reduceAdd, Nat.reduceLeDiff, ne_eq, Nat.reduceLT, Int.reduceLT, Int.reduceLE, Int.reduceNeg]
  refine (h0 _ _ _).trans ?_
  rw [show first ++ fldsN l = lineN first l from rfl]
  simp only [E43, hk2, EVT, EVD, ↓reduceIte, Nat.reduceEqDiff, reduceCtorEq, Nat.reduceAdd, Nat.reduceLeDiff, ne_eq, Nat.reduceLT, Int.reduceLT, Int.reduceLE, Int.reduceNeg]
theorem k43 (first : Bytes) (hf : first.length ≤ 100000000) (l : List Fld) (hok : ∀ f, f ∈ l → FldOk f) (hl : l.length ≤ 100) (M : AMem) : callOp (acall tab) 43 [.str first, .slice .sh (l.map eFld)] M = some (.str (lineN first l), M) :=
  callOp0 (c43 first hf l hok hl) rfl rfl rfl rfl rfl M
end Go.Proofs.YtannopdcbocngaaGreatDoor
namespace Go.Proofs.YtannopdcbocngaaGreatDoor
open Go Go.Abs
attribute [local irreducible] exK opsK opK gK forkK kr acall callOp owhen obind
structure Op where
  kind : Int
  client : Int
  path : Bytes
  dest : Bytes
  n : Int
  m : Int
  handle : Int
  data : Bytes
  deriving DecidableEq, Inhabited
def eOpC (t : Tk) (o : Op) : List AVal := [.int .i64 o.kind, .int .i64 o.client, .str o.path, .str o.dest, .int .i64 o.n, .int .i64 o.m, .int .i64 o.handle, .slice t (o.data.map u8V)]
abbrev eOp (t : Tk) (o : Op) : AVal := .agg (eOpC t o)
structure OpOk (o : Op) : Prop where
  kind : okI o.kind
  client : okI o.client
  path : o.path.length ≤ 1000000
  dest : o.dest.length ≤ 1000000
  n : okI o.n
  m : okI o.m
  handle : okI o.handle
  data : o.data.length ≤ 1000000
def wClient : Bytes := [99, 108, 105, 101, 110, 116]
def wPath : Bytes := [112, 97, 116, 104]
def wTo : Bytes := [116, 111]
def wN : Bytes := [110]
def wM : Bytes := [109]
def wHandle : Bytes := [104, 97, 110, 100, 108, 101]
def wData : Bytes := [100, 97, 116, 97]
def opFlds (o : Op) : List Fld := [⟨wClient, o.client, []⟩, ⟨wPath, 0, escN o.path⟩, ⟨wTo, 0, escN o.dest⟩, ⟨wN, o.n, []⟩, ⟨wM, o.m, []⟩, ⟨wHandle, o.handle, []⟩, ⟨wData, 0, escN o.data⟩]
def firstN (k : Int) : Bytes := if 0 < k ∧ k < 18 then wordsL.getD k.toNat [] else 111 :: 112 :: Lib.itoa k
def opN (o : Op) : Bytes := lineN (firstN o.kind) (opFlds o)
theorem okI_zero : okI 0 := by unfold okI; omega
theorem opFlds_ok {o : Op} (h : OpOk o) : ∀ f, f ∈ opFlds o → FldOk f := by
  intro f hf
  have h1 := escN_le o.path; have h2 := escN_le o.dest; have h3 := escN_le o.data
  have h4 := h.path; have h5 := h.dest; have h6 := h.data
  simp only [opFlds, List.mem_cons, List.not_mem_nil, or_false] at hf
  rcases hf with rfl | rfl | rfl | rfl | rfl | rfl | rfl
  · exact ⟨by simp [wClient], h.client, by simp⟩
  · exact ⟨by simp [wPath], okI_zero, by simp; omega⟩
  · exact ⟨by simp [wTo], okI_zero, by simp; omega⟩
  · exact ⟨by simp [wN], h.n, by simp⟩
  · exact ⟨by simp [wM], h.m, by simp⟩
  · exact ⟨by simp [wHandle], h.handle, by simp⟩
  · exact ⟨by simp [wData], okI_zero, by simp; omega⟩
theorem words_le : ∀ k, k < 18 → (wordsL.getD k []).length ≤ 6 := by decide
theorem firstN_le {k : Int} (h : okI k) : (firstN k).length ≤ 23 := by
  unfold firstN
  split
  · have := words_le k.toNat (by omega); omega
  · have := itoa_le h
    simp; omega
theorem words_at {k : Nat} (h : k < 18) : gv0[k]? = some (.str (wordsL.getD k [])) := by
  have : k < wordsL.length := h
  simp [gv0, this]
theorem bytes_u8 : ∀ l : Bytes, bytesOf (l.map u8V) = some l
  | [] => rfl
  | b :: l => by
    have := bytes_u8 l
    simp [bytesOf, u8V] at this ⊢
    simp [this]
theorem c15 (o : Op) (h : OpOk o) (t : Tk) : acall tab 15 [eOp t o] [] = some (.str (opN o), []) := by
  refine acall_ex rfl rfl rfl ?_
  have i1 := fun M => k42 o.kind h.kind M
  have s1 := fun M => k44 o.path (by have := h.path; omega) M
  have s2 := fun M => k44 o.dest (by have := h.dest; omega) M
  have s3 := fun M => k44 o.data (by have := h.data; omega) M
  have hb := bytes_u8 o.data
  have hl := fun M => k43 (firstN o.kind) (by have := firstN_le h.kind; omega) (opFlds o) (opFlds_ok h) (by simp [opFlds]) M
  have hi := itoa_le h.kind
  simp (disch := omega) only [fn15, E15, eOpC, i1, s1, s2, s3, hb, EVT, EVD, ↓reduceIte, Nat.reduceEqDiff, reduceCtorEq, Nat.reduceAdd, Nat.reduceLeDiff, ne_eq, Nat.reduceLT, Int.reduceLT, Int.reduceLE, Int.reduceNeg]
  have hx : opN o = lineN (firstN o.kind) (opFlds o) := rfl
  generalize opN o = u at hx ⊢
  rw [← hx] at hl
  simp only [opFlds, List.map_cons, List.map_nil, eFld, eFldC, wClient, wPath, wTo, wN, wM, wHandle, wData] at hl
  refine guard_split (fun hb => ?_) (fun hb => ?_)
  · simp only [hb, EVT, EVD, ↓reduceIte, Nat.reduceEqDiff, reduceCtorEq, Nat.reduceAdd, Nat.reduceLeDiff, ne_eq, Nat.reduceLT, Int.reduceLT, Int.reduceLE, Int.reduceNeg]
    refine fork_split (fun hc => ?_) (fun hc => ?_)
    · have e1 : firstN o.kind = wordsL.getD o.kind.toNat [] := by rw [firstN, if_pos ⟨by simpa using hb, by simpa using hc⟩]
      have hn : ((0 : Int) ≤ o.kind) = True := by simp at hb; simp; omega
      have hw := words_at (k := o.kind.toNat) (by simp at hb hc; omega)
      rw [← e1] at hw
      have hs : (o.kind < ((18 : Nat) : Int) ∧ 18 * 1 ≤ gv0.length) = True := by
        simp only [eq_iff_iff, iff_true]
        exact ⟨by simpa using hc, by decide⟩
      have hd : List.drop (o.kind.toNat * 1) gv0 = .str (firstN o.kind) :: List.drop (o.kind.toNat + 1) gv0 := by
        rw [Nat.mul_one, List.drop_eq_getElem?_toList_append, hw]; rfl
      simp (config := {maxSteps := 1000000}) (disch := omega) only [E15, hb, hc, hs, hn, hd, s1, s2, s3, bytes_u8, EVT, EVD, ↓reduceIte, Nat.reduceEqDiff, reduceCtorEq, Nat.reduceAdd, Nat.reduceLeDiff, ne_eq, Nat.reduceLT, Int.reduceLT, Int.reduceLE, Int.reduceNeg]
      rw [hl]
      simp only [EVT, EVD, ↓reduceIte, Nat.reduceEqDiff, reduceCtorEq, Nat.reduceAdd, Nat.reduceLeDiff, ne_eq, Nat.reduceLT, Int.reduceLT, Int.reduceLE, Int.reduceNeg]
    · have e1 : firstN o.kind = 111 :: 112 :: Lib.itoa o.kind := by rw [firstN, if_neg (by simp at hc; omega)]
      rw [e1] at hl
      simp (config := {maxSteps := 1000000}) (disch := omega) only [E15, hb, hc, s1, s2, s3, bytes_u8, EVT, EVD, ↓reduceIte, Nat.reduceEqDiff, reduceCtorEq, Nat.reduceAdd, Nat.reduceLeDiff, ne_eq, Nat.reduceLT, Int.reduceLT, Int.reduceLE, Int.reduceNeg]
      rw [hl]
      simp only [EVT, EVD, ↓reduceIte, Nat.reduceEqDiff, reduceCtorEq, Nat.reduceAdd, Nat.reduceLeDiff, ne_eq, Nat.reduceLT, Int.reduceLT, Int.reduceLE, Int.reduceNeg]
  · have e1 : firstN o.kind = 111 :: 112 :: Lib.itoa o.kind := by rw [firstN, if_neg (by simp at hb; omega)]
    rw [e1] at hl
    simp (config := {maxSteps := 1000000}) (disch := omega) only [E15, hb, s1, s2, s3, bytes_u8, EVT, EVD, ↓reduceIte, Nat.reduceEqDiff, reduceCtorEq, Nat.reduceAdd, Nat.reduceLeDiff, ne_eq, Nat.reduceLT, Int.reduceLT, Int.reduceLE, Int.reduceNeg]
    rw [hl]
    simp only [EVT, EVD, ↓reduceIte, Nat.reduceEqDiff, reduceCtorEq, Nat.reduceAdd, Nat.reduceLeDiff, ne_eq, Nat.reduceLT, Int.reduceLT, Int.reduceLE, Int.reduceNeg]
theorem k15 (o : Op) (h : OpOk o) (t : Tk) (ht : t = .sh ∨ t = .c0) (M : AMem) : callOp (acall tab) 15 [eOp t o] M = some (.str (opN o), M) := by
  rcases ht with rfl | rfl
  · exact callOp0 (c15 o h .sh) rfl rfl rfl rfl rfl M
  · exact callOp0 (c15 o h .c0) rfl rfl rfl rfl rfl M
end Go.Proofs.YtannopdcbocngaaGreatDoor
namespace Go.Proofs.YtannopdcbocngaaGreatDoor
open Go Go.Abs
attribute [local irreducible] exK opsK opK gK forkK kr acall callOp owhen obind
structure Ans where
  err : Int
  ino : Int
  kind : Int
  n : Int
  m : Int
  names : List Bytes
  data : Bytes
  deriving DecidableEq, Inhabited
def eAnsC (t t' : Tk) (a : Ans) : List AVal := [.int .i64 a.err, .int .i64 a.ino, .int .i64 a.kind, .int .i64 a.n, .int .i64 a.m, .slice t (a.names.map .str), .slice t' (a.data.map u8V)]
abbrev eAns (t t' : Tk) (a : Ans) : AVal := .agg (eAnsC t t' a)
def sumL (l : List Bytes) : Nat := (l.map List.length).sum
structure AnsOk (a : Ans) : Prop where
  err : okI a.err
  ino : okI a.ino
  kind : okI a.kind
  n : okI a.n
  m : okI a.m
  names : a.names.length ≤ 1000000
  sum : sumL a.names ≤ 1000000
  data : a.data.length ≤ 1000000
def wIno : Bytes := [105, 110, 111]
def wKind : Bytes := [107, 105, 110, 100]
def wNames : Bytes := [110, 97, 109, 101, 115]
def ansFlds (a : Ans) : List Fld := [⟨wIno, a.ino, []⟩, ⟨wKind, a.kind, []⟩, ⟨wN, a.n, []⟩, ⟨wM, a.m, []⟩]
def errN (e : Int) : Bytes := if e ≠ 0 then 101 :: 114 :: 114 :: 111 :: 114 :: Lib.itoa e else [111, 107]
def namesN (l : List Bytes) : Bytes := if l ≠ [] then 32 :: (wNames ++ 61 :: Lib.join (l.map escN) [44]) else []
def ansN (a : Ans) : Bytes := lineN (lineN (errN a.err) (ansFlds a) ++ namesN a.names) [⟨wData, 0, escN a.data⟩]
theorem errN_le {k : Int} (h : okI k) : (errN k).length ≤ 26 := by
  have := itoa_le h
  unfold errN
  split <;> simp
  omega
theorem ansFlds_ok {a : Ans} (h : AnsOk a) : ∀ f, f ∈ ansFlds a → FldOk f := by
  intro f hf
  simp only [ansFlds, List.mem_cons, List.not_mem_nil, or_false] at hf
  rcases hf with rfl | rfl | rfl | rfl
  · exact ⟨by simp [wIno], h.ino, by simp⟩
  · exact ⟨by simp [wKind], h.kind, by simp⟩
  · exact ⟨by simp [wN], h.n, by simp⟩
  · exact ⟨by simp [wM], h.m, by simp⟩
theorem fldN_le' {f : Fld} (h : okI f.n) : (fldN f).length ≤ f.word.length + f.s.length + 23 := by
  have := itoa_le h
  unfold fldN
  split
  · simp; omega
  · split
    · simp; omega
    · simp
theorem ansHead_le {a : Ans} (h : AnsOk a) : (lineN (errN a.err) (ansFlds a)).length ≤ 127 := by
  have h0 := errN_le h.err
  have h1 := fldN_le' (f := ⟨wIno, a.ino, []⟩) h.ino
  have h2 := fldN_le' (f := ⟨wKind, a.kind, []⟩) h.kind
  have h3 := fldN_le' (f := ⟨wN, a.n, []⟩) h.n
  have h4 := fldN_le' (f := ⟨wM, a.m, []⟩) h.m
  simp only [wIno, wKind, wN, wM, List.length_cons, List.length_nil] at h1 h2 h3 h4
  simp only [lineN, ansFlds, fldsN, List.flatMap_cons, List.flatMap_nil, List.length_append, List.length_nil, wIno, wKind, wN, wM]
  omega
theorem joinTail_le (sep : Bytes) (hs : sep.length = 1) : ∀ l : List Bytes, (Lib.joinTail sep l).length = sumL l + l.length
  | [] => rfl
  | x :: r => by
    have := joinTail_le sep hs r
    simp only [Lib.joinTail, List.map_cons, List.flatten_cons, List.length_append, sumL, List.sum_cons, List.length_cons] at this ⊢
    omega
theorem join_le (l : List Bytes) : (Lib.join l [44]).length ≤ sumL l + l.length := by
  cases l with
  | nil => simp [Lib.join_nil]
  | cons x r =>
    rw [Lib.join_cons, List.length_append, joinTail_le _ rfl]
    simp only [sumL, List.map_cons, List.sum_cons, List.length_cons]
    omega
theorem sumL_esc : ∀ l : List Bytes, sumL (l.map escN) ≤ 3 * sumL l
  | [] => by simp [sumL]
  | x :: r => by
    have := sumL_esc r
    have := escN_le x
    simp only [sumL, List.map_cons, List.sum_cons] at *
    omega
theorem sumL_mem : ∀ {l : List Bytes} {x : Bytes}, x ∈ l → x.length ≤ sumL l
  | y :: r, x, h => by
    simp only [sumL, List.map_cons, List.sum_cons]
    rcases List.mem_cons.1 h with rfl | h
    · omega
    · have := sumL_mem h
      simp only [sumL] at this
      omega
theorem namesN_le {a : Ans} (h : AnsOk a) : (namesN a.names).length ≤ 4000007 := by
  have := join_le (a.names.map escN)
  have := sumL_esc a.names
  have := h.names; have := h.sum
  unfold namesN
  split
  · simp only [List.length_cons, List.length_append, List.length_map, wNames, List.length_nil] at *
    omega
  · simp
theorem callOpO {C : CallF} {f k sz n : Nat} {xs : List AVal} {vs : List AVal} {r : AVal} {M : AMem} (hk : nth M k = some (.tick sz n)) (h : C f (.slice (.own 0) xs :: vs) [.tick sz n] = some (r, [.tick sz n])) (h1 : vs.all AVal.flat = true) (h2 : vs.flatMap AVal.ids = []) (h3 : r.flatR = true)
    (h4 : vs.map (AVal.ren (idxN [k])) = vs) (h5 : r.renR (atN [k]) = r) : callOp C f (.slice (.own k) xs :: vs) M = some (r, setN M k (.tick sz n)) := by
  have hids : (AVal.slice (.own k) xs :: vs).flatMap AVal.ids = [k] := by simp [AVal.ids, AVal.ids1, AVal.ids0, h2]
  have hi : idsAt M [k] = [] := by simp [idsAt, hk, ABox.ids]
  have e0 : reach1 M [k] = [k] := by simp [reach1, hi, addAll]
  have e1 : reach M [k] = [k] := by
    have ea : addAll [] [k] = [k] := rfl
    simp only [reach, ea, e0]
  have hfl : (AVal.slice (.own k) xs :: vs).all AVal.flat = true := by simp only [List.all_cons, h1, Bool.and_true]; rfl
  unfold callOp
  rw [if_pos hfl, hids, e1]
  have hpk : pickM M (idxN [k]) [k] = some [.tick sz n] := by simp [pickM, hk, ABox.flat, ABox.ren]
  rw [hpk]
  simp only [obind_some]
  rw [if_pos e0]
  have hrn : (AVal.slice (.own k) xs :: vs).map (AVal.ren (idxN [k])) = .slice (.own 0) xs :: vs := by
    simp only [List.map_cons, h4]
    simp [AVal.ren, AVal.ren1, AVal.ren0, idxN]
  rw [hrn, h]
  simp only [obind_some]
  rw [if_pos ⟨by first | rfl | trivial, h3, by simp [ABox.flat]⟩, h5]
  simp only [wback, ABox.ren]
theorem setN_same {M : AMem} {k : Nat} {b : ABox} (h : nth M k = some b) : setN M k b = M := by
  rw [setN_eq]
  rw [nth_eq] at h
  apply List.ext_getElem?
  intro i
  by_cases hi : i = k
  · subst hi; rw [h]; exact List.getElem?_set_self (lt_of_some h)
  · rw [List.getElem?_set_ne (Ne.symm hi)]
theorem strs_of : ∀ l : List Bytes, strsOf (l.map .str) = some l
  | [] => rfl
  | x :: r => by
    simp only [List.map_cons, strsOf, strs_of r, obind_some]
theorem c48 (t : Tk) (l : List Bytes) (sep : Bytes) (h1 : l.length ≤ 140737488355328) (h2 : (Lib.join l sep).length ≤ 140737488355328) (M : AMem) : acall tab 48 [.slice t (l.map .str), .str sep] M = some (.str (Lib.join l sep), M) := by
  refine acall_prim (g := pJoin) rfl ?_
  simp only [pJoin, strs_of, obind_some]
  rw [if_pos ⟨h1, h2⟩]
theorem k48 (l : List Bytes) (sep : Bytes) (h1 : l.length ≤ 140737488355328) (h2 : (Lib.join l sep).length ≤ 140737488355328) (M : AMem) :
    callOp (acall tab) 48 [.slice .sh (l.map .str), .str sep] M = some (.str (Lib.join l sep), M) := callOp0 (c48 .sh l sep h1 h2 []) rfl rfl rfl rfl rfl M
end Go.Proofs.YtannopdcbocngaaGreatDoor
namespace Go.Proofs.YtannopdcbocngaaGreatDoor
open Go Go.Abs
attribute [local irreducible] exK opsK opK gK forkK kr acall callOp owhen obind
theorem roomO {a b : Nat} (h : a ≤ 1000001) (hb : b ≤ 10000) : roomOk a b = True := by
  simp only [eq_iff_iff, iff_true]
  unfold roomOk
  have : a * b ≤ 1000001 * 10000 := Nat.mul_le_mul h hb
  omega
theorem widS : ∀ l : List Bytes, wid (l.map AVal.str) 1 = True := by
  intro l
  simp only [eq_iff_iff, iff_true]
  intro x hx
  obtain ⟨s, _, rfl⟩ := List.mem_map.1 hx
  rfl
theorem backV_t {t : Tk} (ht : t = .sh ∨ t = .c0) (B : Nat) (M : AMem) (xs : List AVal) : AVal.backV B M (.slice t xs) = .slice t xs := by rcases ht with rfl | rfl <;> rfl
theorem back1_t {t : Tk} (ht : t = .sh ∨ t = .c0) (B : Nat) (M : AMem) (xs : List AVal) : AVal.back1 B M (.slice t xs) = .slice t xs := by rcases ht with rfl | rfl <;> rfl
theorem loop17 (cs : List AVal) (hcs : ∀ B M, cs.map (AVal.back1 B M) = cs) (p : Bytes) (l : List Bytes) (hl : l.length ≤ 1000000) (hs : sumL l ≤ 1000000) (C : CallF) (hC : C = acall tab) (t : Tk) (ht : t = .sh ∨ t = .c0) : ∀ (r pre : List Bytes), l = pre ++ r → ∀ (fn : List ARes) (base : Nat) (k : List K),
    exK C fn base (.block 0 :: k) (.loop [1, 4, 5, 31, 32, 33] lb17_0) [(1, .ptr 0 0), (4, .str p), (5, .slice (.own 1) ((pre.map escN).map .str)), (31, .slice t (l.map .str)), (32, eI l.length), (33, eI pre.length)] [.cells cs, .tick 1 pre.length] =
    kr C fn base k ⟨.normal, [(1, .ptr 0 0), (4, .str p), (5, .slice (.own 1) ((l.map escN).map .str)), (31, .slice t (l.map .str)), (32, eI l.length), (33, eI l.length), (34, .bool false)], [.cells cs, .tick 1 l.length]⟩
  | [], pre, he, fn, base, k => by
    subst hC
    have : pre = l := by simpa using he.symm
    subst this
    rw [exK_loop]
    have hlt : decide ((pre.length : Int) < pre.length) = false := by simp
    simp only [E17, hlt, EVT, EVD, ↓reduceIte, Nat.reduceEqDiff, reduceCtorEq, Nat.reduceAdd, Nat.reduceLeDiff, ne_eq, Nat.reduceLT, Int.reduceLT, Int.reduceLE, Int.reduceNeg]
  | f :: r, pre, he, fn, base, k => by
    subst hC
    have hl' : pre.length < l.length := by rw [he]; simp
    have hlt : decide ((pre.length : Int) < l.length) = true := by simpa using hl'
    have hix : l[pre.length]? = some f := by rw [he]; simp
    have hn : (0 : Int) ≤ pre.length := by omega
    have hw : IntKind.i64.wrap ((pre.length : Int) + 1) = ((pre ++ [f]).length : Int) := by rw [List.length_append, wrapS (by omega) (by omega)]; simp
    have hm : f ∈ l := by rw [he]; simp
    have hfl := sumL_mem hm
    have hk := fun M => k44 f (by omega) M
    have hr := roomO (a := pre.length + 1) (b := 16) (by omega) (by omega)
    have ih := loop17 cs hcs p l hl hs (acall tab) rfl t ht r (pre ++ [f]) (by simpa using he) fn base k
    simp only [List.length_append, List.length_cons, List.length_nil, Nat.zero_add, List.map_append, List.map_cons, List.map_nil] at ih hw
    rw [exK_loop]
    simp (disch := omega) only [E17, hlt, hix, hk, hr, EVT, EVD, ↓reduceIte, Nat.reduceEqDiff, reduceCtorEq, Nat.reduceAdd, Nat.reduceLeDiff, ne_eq, Nat.reduceLT, Int.reduceLT, Int.reduceLE, Int.reduceNeg]
    simp only [E17, hw, widS, hcs, backV_t ht, EVT, EVD, ↓reduceIte, Nat.reduceEqDiff, reduceCtorEq, Nat.reduceAdd, Nat.reduceLeDiff, ne_eq, Nat.reduceLT, Int.reduceLT, Int.reduceLE, Int.reduceNeg]
    exact ih
set_option maxHeartbeats 1000000 in
theorem c17 (a : Ans) (h : AnsOk a) (t t' : Tk) (ht : t = .sh ∨ t = .c0) (ht' : t' = .sh ∨ t' = .c0) : acall tab 17 [eAns t t' a] [] = some (.str (ansN a), []) := by
  refine acall_ex rfl rfl rfl ?_
  have i1 := fun M => k42 a.err h.err M
  have s3 := fun M => k44 a.data (by have := h.data; omega) M
  have hb := bytes_u8 a.data
  have hi := itoa_le h.err
  have hl := fun M => k43 (errN a.err) (by have := errN_le h.err; omega) (ansFlds a) (ansFlds_ok h) (by simp [ansFlds]) M
  have hl' := fun M => k43 (lineN (errN a.err) (ansFlds a) ++ namesN a.names) (by have := ansHead_le h; have := namesN_le h; simp; omega) [⟨wData, 0, escN a.data⟩] (by
    intro f hf
    have := escN_le a.data; have := h.data
    simp only [List.mem_singleton] at hf; subst hf
    exact ⟨by simp [wData], okI_zero, by simp; omega⟩) (by simp) M
  have h0 := fun cs hcs p => loop17 cs hcs p a.names h.names h.sum (acall tab) rfl t ht a.names [] rfl
  have hj := k48 (a.names.map escN) [44] (by have := h.names; simp; omega) (by have := join_le (a.names.map escN); have := sumL_esc a.names; have := h.names; have := h.sum; simp at *; omega)
  have hx : ansN a = lineN (lineN (errN a.err) (ansFlds a) ++ namesN a.names) [⟨wData, 0, escN a.data⟩] := rfl
  have hle := ansHead_le h
  have hnm := namesN_le h
  generalize ansN a = u at hx ⊢
  rw [← hx] at hl'
  generalize hv : lineN (errN a.err) (ansFlds a) = v at hl hl' hle
  simp only [ansFlds, List.map_cons, List.map_nil, eFld, eFldC, wIno, wKind, wN, wM, wData] at hl hl'
  simp (disch := omega) only [fn17, E17, eAnsC, i1, s3, hb, EVT, EVD, ↓reduceIte, Nat.reduceEqDiff, reduceCtorEq, Nat.reduceAdd, Nat.reduceLeDiff, ne_eq, Nat.reduceLT, Int.reduceLT, Int.reduceLE, Int.reduceNeg]
  have e0 : errN a.err = if (a.err != 0) = true then 101 :: 114 :: 114 :: 111 :: 114 :: Lib.itoa a.err else [111, 107] := by
    unfold errN
    by_cases hc : a.err = 0 <;> simp [hc]
  have hcs : ∀ B M, (eAnsC t t' a).map (AVal.back1 B M) = eAnsC t t' a := by
    intro B M
    simp only [eAnsC, List.map_cons, List.map_nil, back1_t ht, back1_t ht', EVT, EVD, ↓reduceIte, Nat.reduceEqDiff, reduceCtorEq, Nat.reduceAdd, Nat.reduceLeDiff, ne_eq, Nat.reduceLT, Int.reduceLT, Int.reduceLE, Int.reduceNeg]
  unfold eAnsC at hcs
  refine fork_split (fun hc => ?_) (fun hc => ?_)
  all_goals
    rw [hc] at e0
    simp only [↓reduceIte, Bool.false_eq_true] at e0
    rw [e0] at hl
    simp (config := {maxSteps := 1000000}) (disch := omega) only [E17, hc, i1, EVT, EVD, ↓reduceIte, Nat.reduceEqDiff, reduceCtorEq, Nat.reduceAdd, Nat.reduceLeDiff, ne_eq, Nat.reduceLT, Int.reduceLT, Int.reduceLE, Int.reduceNeg]
    rw [hl]
    simp only [E17, EVT, EVD, ↓reduceIte, Nat.reduceEqDiff, reduceCtorEq, Nat.reduceAdd, Nat.reduceLeDiff, ne_eq, Nat.reduceLT, Int.reduceLT, Int.reduceLE, Int.reduceNeg]
    refine (h0 _ hcs _ _ _ _).trans ?_
    simp only [E17, List.length_map, EVT, EVD, ↓reduceIte, Nat.reduceEqDiff, reduceCtorEq, Nat.reduceAdd, Nat.reduceLeDiff, ne_eq, Nat.reduceLT, Int.reduceLT, Int.reduceLE, Int.reduceNeg]
    refine fork_split (fun hd => ?_) (fun hd => ?_)
    · have e2 : namesN a.names = 32 :: 110 :: 97 :: 109 :: 101 :: 115 :: 61 :: Lib.join (a.names.map escN) [44] := by
        rw [namesN, if_pos (by intro e; rw [e] at hd; simp at hd)]; rfl
      rw [e2] at hl' hnm
      simp only [List.length_cons] at hnm
      simp (disch := omega) only [E17, hd, hj, s3, bytes_u8, EVT, EVD, ↓reduceIte, Nat.reduceEqDiff, reduceCtorEq, Nat.reduceAdd, Nat.reduceLeDiff, ne_eq, Nat.reduceLT, Int.reduceLT, Int.reduceLE, Int.reduceNeg]
      rw [hl']
      simp only [E17, EVT, EVD, ↓reduceIte, Nat.reduceEqDiff, reduceCtorEq, Nat.reduceAdd, Nat.reduceLeDiff, ne_eq, Nat.reduceLT, Int.reduceLT, Int.reduceLE, Int.reduceNeg]
    · have e2 : namesN a.names = [] := by
        rw [namesN, if_neg]
        intro e
        have := List.length_pos_iff.2 e
        simp at hd e; contradiction
      rw [e2, List.append_nil] at hl'
      simp only [E17, hd, hj, s3, bytes_u8, EVT, EVD, ↓reduceIte, Nat.reduceEqDiff, reduceCtorEq, Nat.reduceAdd, Nat.reduceLeDiff, ne_eq, Nat.reduceLT, Int.reduceLT, Int.reduceLE, Int.reduceNeg]
      rw [hl']
      simp only [E17, EVT, EVD, ↓reduceIte, Nat.reduceEqDiff, reduceCtorEq, Nat.reduceAdd, Nat.reduceLeDiff, ne_eq, Nat.reduceLT, Int.reduceLT, Int.reduceLE, Int.reduceNeg]
theorem k17 (a : Ans) (h : AnsOk a) (t t' : Tk) (ht : t = .sh ∨ t = .c0) (ht' : t' = .sh ∨ t' = .c0) (M : AMem) : callOp (acall tab) 17 [eAns t t' a] M = some (.str (ansN a), M) := by
  have := c17 a h t t' ht ht'
  rcases ht with rfl | rfl <;> rcases ht' with rfl | rfl <;> exact callOp0 this rfl rfl rfl rfl rfl M
end Go.Proofs.YtannopdcbocngaaGreatDoor
namespace Go.Proofs.YtannopdcbocngaaGreatDoor
open Go Go.Abs
attribute [local irreducible] exK opsK opK gK forkK kr acall callOp owhen obind
def rawI (a b : UInt8) : Int := IntKind.u8.wrap (ior .i64 (IntKind.i64.wrap (Lib.indexByte [48, 49, 50, 51, 52, 53, 54, 55, 56, 57, 97, 98, 99, 100, 101, 102] a * 2 ^ min (Int.toNat 4) IntKind.i64.bits)) (iand .i64 (Lib.indexByte [48, 49, 50, 51, 52, 53, 54, 55, 56, 57, 97, 98, 99, 100, 101, 102] b) 15))
def rawC (a b : UInt8) : UInt8 := (rawI a b).toNat.toUInt8
theorem wrap_u8 (z : Int) : 0 ≤ IntKind.u8.wrap z ∧ IntKind.u8.wrap z < 256 := by
  unfold IntKind.wrap
  simp only [show IntKind.u8.bits = 8 from rfl, show IntKind.u8.signed = false from rfl, Bool.false_and, Bool.false_eq_true, if_false]
  have h1 := Int.emod_nonneg z (show (2 ^ 8 : Int) ≠ 0 by decide)
  have h2 := Int.emod_lt_of_pos z (show (0 : Int) < 2 ^ 8 by decide)
  exact ⟨h1, h2⟩
theorem raw_eq (a b : UInt8) : rawI a b = ((rawC a b).toNat : Int) := by
  have h := wrap_u8 (ior .i64 (IntKind.i64.wrap (Lib.indexByte [48, 49, 50, 51, 52, 53, 54, 55, 56, 57, 97, 98, 99, 100, 101, 102] a * 2 ^ min (Int.toNat 4) IntKind.i64.bits)) (iand .i64 (Lib.indexByte [48, 49, 50, 51, 52, 53, 54, 55, 56, 57, 97, 98, 99, 100, 101, 102] b) 15))
  unfold rawC
  change 0 ≤ rawI a b ∧ rawI a b < 256 at h
  generalize rawI a b = z at h
  rw [Nat.toUInt8_eq, UInt8.toNat_ofNat']
  omega
def rawN : Bytes → Bytes
  | c :: a :: b :: r => if c = 37 then rawC a b :: rawN r else c :: rawN (a :: b :: r)
  | c :: r => c :: rawN r
  | [] => []
theorem widU : ∀ l : Bytes, wid (l.map u8V) 1 = True := by
  intro l
  simp only [eq_iff_iff, iff_true]
  intro x hx
  obtain ⟨s, _, rfl⟩ := List.mem_map.1 hx
  rfl
theorem loop65 (s : Bytes) (hs : s.length ≤ 1000000) (C : CallF) (hC : C = acall tab) (fn : List ARes) (base : Nat) (k : List K) : ∀ (n : Nat) (r pre out : Bytes), r.length ≤ n → s = pre ++ r → out.length ≤ pre.length → ∀ u, out ++ rawN r = u →
    exK C fn base (.block 0 :: k) (.loop [0, 3, 4] lb65_0) [(0, .str s), (3, .slice (.own 0) (out.map u8V)), (4, eI pre.length)] [.tick 1 out.length] =
    kr C fn base k ⟨.normal, [(0, .str s), (3, .slice (.own 0) (u.map u8V)), (4, eI s.length), (9, .bool false)], [.tick 1 u.length]⟩
  | n, [], pre, out, hn, he, ho, u, hu => by
    subst hC
    have : pre = s := by simpa using he.symm
    subst this
    rw [exK_loop]
    have hlt : decide ((pre.length : Int) < pre.length) = false := by simp
    rw [rawN, List.append_nil] at hu; subst hu
    simp only [E65, hlt, EVT, EVD, ↓reduceIte, Nat.reduceEqDiff, reduceCtorEq, Nat.reduceAdd, Nat.reduceLeDiff, ne_eq, Nat.reduceLT, Int.reduceLT, Int.reduceLE, Int.reduceNeg]
  | 0, c :: r, pre, out, hn, he, ho, u, hu => by simp at hn
  | n + 1, c :: r, pre, out, hn, he, ho, u, hu => by
    subst hC
    have hl : pre.length < s.length := by rw [he]; simp
    have hlt : decide ((pre.length : Int) < s.length) = true := by simpa using hl
    have hix : s[pre.length]? = some c := by rw [he]; simp
    have hp : (0 : Int) ≤ pre.length := by omega
    have hw : IntKind.i64.wrap ((pre.length : Int) + 1) = ((pre.length + 1 : Nat) : Int) := by rw [wrapS (by omega) (by omega)]; simp
    have hw2 : IntKind.i64.wrap ((pre.length : Int) + 2) = ((pre.length + 2 : Nat) : Int) := by rw [wrapS (by omega) (by omega)]; simp
    have hw3 : IntKind.i64.wrap (((pre.length + 2 : Nat) : Int) + 1) = ((pre.length + 3 : Nat) : Int) := by rw [wrapS (by omega) (by omega)]; omega
    have hr := roomO (a := out.length + 1) (b := 1) (by omega) (by omega)
    rw [exK_loop]
    simp (disch := omega) only [E65, hlt, hix, hw, hw2, hr, EVT, EVD, ↓reduceIte, Nat.reduceEqDiff, reduceCtorEq, Nat.reduceAdd, Nat.reduceLeDiff, ne_eq, Nat.reduceLT, Int.reduceLT, Int.reduceLE, Int.reduceNeg]
    refine guard_split (fun hb => ?_) (fun hb => ?_)
    · have hc : c = 37 := by
        have : c.toNat = 37 := by simp at hb; omega
        exact UInt8.toNat_inj.1 this
      simp only [E65, hb, hw, hw2, EVT, EVD, ↓reduceIte, Nat.reduceEqDiff, reduceCtorEq, Nat.reduceAdd, Nat.reduceLeDiff, ne_eq, Nat.reduceLT, Int.reduceLT, Int.reduceLE, Int.reduceNeg]
      refine fork_split (fun hd => ?_) (fun hd => ?_)
      · have hd' : pre.length + 2 < s.length := by simp at hd; omega
        match r, he, hn with
        | x :: y :: r', he, hn =>
          have hi1 : s[pre.length + 1]? = some x := by rw [he]; simp
          have hi2 : s[pre.length + 2]? = some y := by rw [he]; simp
          have hr2 : rawN (c :: x :: y :: r') = rawC x y :: rawN r' := by rw [rawN, if_pos hc]
          have ih := loop65 s hs (acall tab) rfl fn base k n r' (pre ++ [c, x, y]) (out ++ [rawC x y]) (by simp at hn ⊢; omega) (by simpa using he) (by simp; omega) u (by rw [← hu]; simp [hr2])
          simp only [List.length_append, List.length_cons, List.length_nil, Nat.zero_add, Nat.reduceAdd, List.map_append, List.map_cons, List.map_nil] at ih
          simp only [E65, hd, hw, hw2, hw3, hi1, hi2, k98, EVT, EVD, ↓reduceIte, Nat.reduceEqDiff, reduceCtorEq, Nat.reduceAdd, Nat.reduceLeDiff, ne_eq, Nat.reduceLT, Int.reduceLT, Int.reduceLE, Int.reduceNeg]
          rw [show IntKind.u8.wrap (ior .i64 (IntKind.i64.wrap (Lib.indexByte [48, 49, 50, 51, 52, 53, 54, 55, 56, 57, 97, 98, 99, 100, 101, 102] x * 2 ^ min (Int.toNat 4) IntKind.i64.bits)) (iand .i64 (Lib.indexByte [48, 49, 50, 51, 52, 53, 54, 55, 56, 57, 97, 98, 99, 100, 101, 102] y) 15)) = ((rawC x y).toNat : Int) from raw_eq x y]
          simp only [E65, hr, widU, hw3, EVT, EVD, ↓reduceIte, Nat.reduceEqDiff, reduceCtorEq, Nat.reduceAdd, Nat.reduceLeDiff, ne_eq, Nat.reduceLT, Int.reduceLT, Int.reduceLE, Int.reduceNeg]
          exact ih
        | [], he, hn => rw [he] at hd'; simp at hd'
        | [x], he, hn => rw [he] at hd'; simp at hd'
      · have hr2 : rawN (c :: r) = c :: rawN r := by
          match r, he with
          | x :: y :: r', he =>
            have : ¬ (pre.length + 2 < s.length) := by simp at hd; omega
            rw [he] at this; simp at this
          | [], _ => rfl
          | [x], _ => rfl
        have ih := loop65 s hs (acall tab) rfl fn base k n r (pre ++ [c]) (out ++ [c]) (by simp at hn ⊢; omega) (by simpa using he) (by simp; omega) u (by rw [← hu]; simp [hr2])
        simp only [List.length_append, List.length_cons, List.length_nil, Nat.zero_add, Nat.reduceAdd, List.map_append, List.map_cons, List.map_nil] at ih
        simp only [E65, hd, hw, hr, widU, EVT, EVD, ↓reduceIte, Nat.reduceEqDiff, reduceCtorEq, Nat.reduceAdd, Nat.reduceLeDiff, ne_eq, Nat.reduceLT, Int.reduceLT, Int.reduceLE, Int.reduceNeg]
        exact ih
    · have hr2 : rawN (c :: r) = c :: rawN r := by
        have : ¬ c = 37 := by intro e; subst e; simp at hb
        match r with
        | x :: y :: r' => rw [rawN, if_neg this]
        | [] => rfl
        | [x] => rfl
      have ih := loop65 s hs (acall tab) rfl fn base k n r (pre ++ [c]) (out ++ [c]) (by simp at hn ⊢; omega) (by simpa using he) (by simp; omega) u (by rw [← hu]; simp [hr2])
      simp only [List.length_append, List.length_cons, List.length_nil, Nat.zero_add, Nat.reduceAdd, List.map_append, List.map_cons, List.map_nil] at ih
      simp only [E65, hb, hw, hr, widU, EVT, EVD, ↓reduceIte, Nat.reduceEqDiff, reduceCtorEq, Nat.reduceAdd, Nat.reduceLeDiff, ne_eq, Nat.reduceLT, Int.reduceLT, Int.reduceLE, Int.reduceNeg]
      exact ih
end Go.Proofs.YtannopdcbocngaaGreatDoor
namespace Go.Proofs.YtannopdcbocngaaGreatDoor
open Go Go.Abs
attribute [local irreducible] exK opsK opK gK forkK kr acall callOp owhen obind
theorem rawN_le : ∀ (n : Nat) (s : Bytes), s.length ≤ n → (rawN s).length ≤ s.length
  | n, [], h => Nat.le_refl _
  | n, [c], h => Nat.le_refl _
  | n, [c, a], h => Nat.le_refl _
  | 0, c :: a :: b :: r, h => by simp at h
  | n + 1, c :: a :: b :: r, h => by
    rw [rawN]
    split
    · have := rawN_le n r (by simp at h; omega)
      simp; omega
    · have := rawN_le n (a :: b :: r) (by simp at h ⊢; omega)
      simp at this ⊢; omega
theorem c65 (s : Bytes) (hs : s.length ≤ 1000000) : acall tab 65 [.str s] [] = some (.str (rawN s), []) := by
  refine acall_ex rfl rfl rfl ?_
  have h0 := fun fn base k => loop65 s hs (acall tab) rfl fn base k s.length s [] [] (Nat.le_refl _) rfl (Nat.le_refl _) _ rfl
  simp only [fn65, E65, EVT, EVD, ↓reduceIte, Nat.reduceEqDiff, reduceCtorEq, Nat.reduceAdd, Nat.reduceLeDiff, ne_eq, Nat.reduceLT, Int.reduceLT, Int.reduceLE, Int.reduceNeg]
  refine (h0 _ _ _).trans ?_
  simp only [E65, bytes_u8, List.nil_append, EVT, EVD, ↓reduceIte, Nat.reduceEqDiff, reduceCtorEq, Nat.reduceAdd, Nat.reduceLeDiff, ne_eq, Nat.reduceLT, Int.reduceLT, Int.reduceLE, Int.reduceNeg]
theorem k65 (s : Bytes) (hs : s.length ≤ 1000000) (M : AMem) : callOp (acall tab) 65 [.str s] M = some (.str (rawN s), M) := callOp0 (c65 s hs) rfl rfl rfl rfl rfl M
def zFld : Fld := ⟨[], 0, []⟩
def getN (w : Bytes) (l : List Fld) : Fld × Bool := match l.find? (fun f => f.word == w) with
  | some f => (f, true)
  | none => (zFld, false)
theorem getN_cons (w : Bytes) (f : Fld) (l : List Fld) : getN w (f :: l) = if f.word = w then (f, true) else getN w l := by
  unfold getN
  by_cases h : f.word = w
  · simp [h]
  · rw [if_neg h, List.find?_cons_of_neg (by simpa using h)]
theorem loop63 (a w : Bytes) (t : Tk) (ht : t = .sh ∨ t = .c0) (l : List Fld) (hl : l.length ≤ 10000000) (C : CallF) (hC : C = acall tab) : ∀ (r pre : List Fld), l = pre ++ r →
    exK C [.cellA 4 3, .tmp 5] 0 [.block 0, .seq q63_6] (.loop [1, 4, 9, 10, 11] lb63_0) [(1, .str w), (4, .ptr 1 0), (9, .slice t (l.map eFld)), (10, eI l.length), (11, eI pre.length)] [.cells [.str a, .slice t (l.map eFld)], .cells (eFldC zFld)] =
    some (.tuple [eFld (getN w r).1, .bool (getN w r).2], [])
  | [], pre, he => by
    subst hC
    have : pre = l := by simpa using he.symm
    subst this
    rw [exK_loop]
    have hlt : decide ((pre.length : Int) < pre.length) = false := by simp
    simp only [E63, hlt, eFldC, zFld, EVT, EVD, ↓reduceIte, Nat.reduceEqDiff, reduceCtorEq, Nat.reduceAdd, Nat.reduceLeDiff, ne_eq, Nat.reduceLT, Int.reduceLT, Int.reduceLE, Int.reduceNeg]
    rfl
  | f :: r, pre, he => by
    subst hC
    have hl' : pre.length < l.length := by rw [he]; simp
    have hlt : decide ((pre.length : Int) < l.length) = true := by simpa using hl'
    have hix : l[pre.length]? = some f := by rw [he]; simp
    have hn : (0 : Int) ≤ pre.length := by omega
    have hw : IntKind.i64.wrap ((pre.length : Int) + 1) = ((pre ++ [f]).length : Int) := by rw [List.length_append, wrapS (by omega) (by omega)]; simp
    have ih := loop63 a w t ht l hl (acall tab) rfl r (pre ++ [f]) (by simpa using he)
    simp only [List.length_append, List.length_cons, List.length_nil, Nat.zero_add, eFldC, zFld] at ih hw
    rw [getN_cons]
    rw [exK_loop]
    simp only [E63, hlt, hix, eFldC, zFld, EVT, EVD, ↓reduceIte, Nat.reduceEqDiff, reduceCtorEq, Nat.reduceAdd, Nat.reduceLeDiff, ne_eq, Nat.reduceLT, Int.reduceLT, Int.reduceLE, Int.reduceNeg]
    refine fork_split (fun hb => ?_) (fun hb => ?_)
    · rw [if_pos (by simpa using hb)]
      simp only [E63, EVT, EVD, ↓reduceIte, Nat.reduceEqDiff, reduceCtorEq, Nat.reduceAdd, Nat.reduceLeDiff, ne_eq, Nat.reduceLT, Int.reduceLT, Int.reduceLE, Int.reduceNeg]
      rfl
    · rw [if_neg (by simpa using hb)]
      simp only [E63, hw, backV_t ht, back1_t ht, EVT, EVD, ↓reduceIte, Nat.reduceEqDiff, reduceCtorEq, Nat.reduceAdd, Nat.reduceLeDiff, ne_eq, Nat.reduceLT, Int.reduceLT, Int.reduceLE, Int.reduceNeg]
      exact ih
abbrev eRead (t : Tk) (a : Bytes) (l : List Fld) : AVal := .agg [.str a, .slice t (l.map eFld)]
theorem c63 (a w : Bytes) (t : Tk) (ht : t = .sh ∨ t = .c0) (l : List Fld) (hl : l.length ≤ 10000000) : acall tab 63 [eRead t a l, .str w] [] = some (.tuple [eFld (getN w l).1, .bool (getN w l).2], []) := by
  refine acall_ex rfl rfl rfl ?_
  have h0 := loop63 a w t ht l hl (acall tab) rfl l [] rfl
  simp only [eFldC, zFld] at h0
  simp only [fn63, E63, EVT, EVD, ↓reduceIte, Nat.reduceEqDiff, reduceCtorEq, Nat.reduceAdd, Nat.reduceLeDiff, ne_eq, Nat.reduceLT, Int.reduceLT, Int.reduceLE, Int.reduceNeg]
  exact h0
theorem k63 (a w : Bytes) (t : Tk) (ht : t = .sh ∨ t = .c0) (l : List Fld) (hl : l.length ≤ 10000000) (M : AMem) : callOp (acall tab) 63 [eRead t a l, .str w] M = some (.tuple [eFld (getN w l).1, .bool (getN w l).2], M) := by
  have := c63 a w t ht l hl
  rcases ht with rfl | rfl <;> exact callOp0 this rfl rfl rfl rfl rfl M
theorem c56 (a w : Bytes) (t : Tk) (ht : t = .sh ∨ t = .c0) (l : List Fld) (hl : l.length ≤ 10000000) : acall tab 56 [eRead t a l, .str w] [] = some (.int .i64 (getN w l).1.n, []) := by
  refine acall_ex rfl rfl rfl ?_
  have h0 := fun M => k63 a w .sh (.inl rfl) l hl M
  have hsh : (AVal.slice t (l.map eFld)).shut = .slice .sh (l.map eFld) := by rcases ht with rfl | rfl <;> rfl
  simp only [eRead, eFld, eFldC] at h0
  simp only [fn56, E56, h0, hsh, EVT, EVD, ↓reduceIte, Nat.reduceEqDiff, reduceCtorEq, Nat.reduceAdd, Nat.reduceLeDiff, ne_eq, Nat.reduceLT, Int.reduceLT, Int.reduceLE, Int.reduceNeg]
theorem c57 (a w : Bytes) (t : Tk) (ht : t = .sh ∨ t = .c0) (l : List Fld) (hl : l.length ≤ 10000000) (hs : (getN w l).1.s.length ≤ 1000000) : acall tab 57 [eRead t a l, .str w] [] = some (.str (rawN (getN w l).1.s), []) := by
  refine acall_ex rfl rfl rfl ?_
  have h0 := fun M => k63 a w .sh (.inl rfl) l hl M
  have hsh : (AVal.slice t (l.map eFld)).shut = .slice .sh (l.map eFld) := by rcases ht with rfl | rfl <;> rfl
  have h1 := fun M => k65 (getN w l).1.s hs M
  simp only [eRead, eFld, eFldC] at h0
  simp only [fn57, E57, h0, h1, hsh, EVT, EVD, ↓reduceIte, Nat.reduceEqDiff, reduceCtorEq, Nat.reduceAdd, Nat.reduceLeDiff, ne_eq, Nat.reduceLT, Int.reduceLT, Int.reduceLE, Int.reduceNeg]
theorem c135 (s p : Bytes) : acall tab 135 [.str s, .str p] [] = some (.bool (decide (p.length ≤ s.length) && (s.take p.length == p)), []) := by
  refine acall_ex rfl rfl rfl ?_
  simp only [fn135, E135, EVT, EVD, ↓reduceIte, Nat.reduceEqDiff, reduceCtorEq, Nat.reduceAdd, Nat.reduceLeDiff, ne_eq, Nat.reduceLT, Int.reduceLT, Int.reduceLE, Int.reduceNeg]
  refine guard_split (fun hb => ?_) (fun hb => ?_)
  · have h1 : p.length ≤ s.length := by simp at hb; omega
    have h2 : ((p.length : Int) ≤ s.length ∧ ((0 : Nat) : Int) ≤ p.length) = True := by simp only [eq_iff_iff, iff_true]; omega
    simp only [hb, h2, EVT, EVD, ↓reduceIte, Nat.reduceEqDiff, reduceCtorEq, Nat.reduceAdd, Nat.reduceLeDiff, ne_eq, Nat.reduceLT, Int.reduceLT, Int.reduceLE, Int.reduceNeg]
    simp [h1]
  · have h1 : ¬ p.length ≤ s.length := by simp at hb; omega
    simp only [hb, EVT, EVD, ↓reduceIte, Nat.reduceEqDiff, reduceCtorEq, Nat.reduceAdd, Nat.reduceLeDiff, ne_eq, Nat.reduceLT, Int.reduceLT, Int.reduceLE, Int.reduceNeg]
    simp [h1]
theorem k135 (s p : Bytes) (M : AMem) : callOp (acall tab) 135 [.str s, .str p] M = some (.bool (decide (p.length ≤ s.length) && (s.take p.length == p)), M) := callOp0 (c135 s p) rfl rfl rfl rfl rfl M
def trimN (s p : Bytes) : Bytes := if (decide (p.length ≤ s.length) && (s.take p.length == p)) = true then s.drop p.length else s
theorem trimN_le (s p : Bytes) : (trimN s p).length ≤ s.length := by
  unfold trimN
  split <;> simp
theorem c96 (s p : Bytes) : acall tab 96 [.str s, .str p] [] = some (.str (trimN s p), []) := by
  refine acall_ex rfl rfl rfl ?_
  simp only [fn96, E96, k135, EVT, EVD, ↓reduceIte, Nat.reduceEqDiff, reduceCtorEq, Nat.reduceAdd, Nat.reduceLeDiff, ne_eq, Nat.reduceLT, Int.reduceLT, Int.reduceLE, Int.reduceNeg]
  refine fork_split (fun hb => ?_) (fun hb => ?_)
  · rw [trimN, if_pos hb]
    have h1 : p.length ≤ s.length := by simp at hb; omega
    have h2 : ((s.length : Int) ≤ s.length ∧ (p.length : Int) ≤ s.length) = True := by simp only [eq_iff_iff, iff_true]; omega
    simp only [E96, hb, h2, List.take_length, EVT, EVD, ↓reduceIte, Nat.reduceEqDiff, reduceCtorEq, Nat.reduceAdd, Nat.reduceLeDiff, ne_eq, Nat.reduceLT, Int.reduceLT, Int.reduceLE, Int.reduceNeg]
  · rw [trimN, if_neg (by rw [hb]; decide)]
    simp only [E96, hb, EVT, EVD, ↓reduceIte, Nat.reduceEqDiff, reduceCtorEq, Nat.reduceAdd, Nat.reduceLeDiff, ne_eq, Nat.reduceLT, Int.reduceLT, Int.reduceLE, Int.reduceNeg]
theorem k96 (s p : Bytes) (M : AMem) : callOp (acall tab) 96 [.str s, .str p] M = some (.str (trimN s p), M) := callOp0 (c96 s p) rfl rfl rfl rfl rfl M
theorem c59 (s p : Bytes) : acall tab 59 [.str s, .str p] [] = some (.str (trimN s p), []) := by
  refine acall_ex rfl rfl rfl ?_
  simp only [fn59, E59, k96, EVT, EVD, ↓reduceIte, Nat.reduceEqDiff, reduceCtorEq, Nat.reduceAdd, Nat.reduceLeDiff, ne_eq, Nat.reduceLT, Int.reduceLT, Int.reduceLE, Int.reduceNeg]
theorem k59 (s p : Bytes) (M : AMem) : callOp (acall tab) 59 [.str s, .str p] M = some (.str (trimN s p), M) := callOp0 (c59 s p) rfl rfl rfl rfl rfl M
end Go.Proofs.YtannopdcbocngaaGreatDoor
namespace Go.Proofs.YtannopdcbocngaaGreatDoor
open Go
def cutL (c : UInt8) : List UInt8 → List (List UInt8)
  | [] => [[]]
  | x :: r => if x = c then [] :: cutL c r else ((x :: (cutL c r).headD []) :: (cutL c r).tail)
theorem cutL_ne (c : UInt8) : ∀ s, cutL c s ≠ []
  | [] => by simp [cutL]
  | x :: r => by unfold cutL; split <;> simp
theorem cutL_split (c : UInt8) (s : List UInt8) : cutL c s = (cutL c s).headD [] :: (cutL c s).tail := by
  cases h : cutL c s with
  | nil => exact absurd h (cutL_ne c s)
  | cons a b => rfl
theorem index_cons_ne {b c : UInt8} (l : List UInt8) (h : b ≠ c) : Lib.index (b :: l) [c] = if Lib.index l [c] = -1 then -1 else Lib.index l [c] + 1 := by
  rw [Lib.index_one, Lib.index_one, Lib.indexByte]
  simp [h]
theorem index_cons_eq (c : UInt8) (l : List UInt8) : Lib.index (c :: l) [c] = 0 := by
  rw [Lib.index_one, Lib.indexByte]
  simp
theorem splitK_cutL (c : UInt8) : ∀ s : List UInt8, Lib.splitK [c] 0 (s.count c) s = cutL c s
  | [] => rfl
  | b :: l => by
    have ih := splitK_cutL c l
    by_cases h : b = c
    · subst h
      rw [List.count_cons_self, Lib.splitK, index_cons_eq]
      simp [cutL, ih]
    · rw [List.count_cons_of_ne h, cutL, if_neg h, ← ih]
      cases hk : l.count c with
      | zero => simp [Lib.splitK]
      | succ k =>
        rw [Lib.splitK, Lib.splitK, index_cons_ne l h]
        have hge := Lib.index_ge l [c]
        by_cases hi : Lib.index l [c] = -1
        · simp [hi]
        · have h1 : Lib.index l [c] + 1 ≠ -1 := by omega
          have h2 : (Lib.index l [c] + 1).toNat = (Lib.index l [c]).toNat + 1 := by omega
          simp [hi, h1, h2]
theorem cut_cutL (c : UInt8) : ∀ s : List UInt8, Lib.cut s [c] = if c ∈ s then ((cutL c s).headD [], (s.drop (((cutL c s).headD []).length + 1)), true) else (s, [], false)
  | [] => by rfl
  | b :: l => by
    have ih := cut_cutL c l
    unfold Lib.cut at ih ⊢
    by_cases h : b = c
    · subst h
      rw [index_cons_eq]
      simp [cutL]
    · rw [index_cons_ne l h]
      have hge := Lib.index_ge l [c]
      have hm : (c ∈ b :: l) = (c ∈ l) := by simp [Ne.symm h]
      rw [cutL, if_neg h]
      simp only [hm]
      by_cases hi : Lib.index l [c] = -1
      · simp only [hi, if_true, show ¬ (0 ≤ (-1 : Int)) by omega, if_false] at ih ⊢
        split at ih
        · simp at ih
        · rename_i hn; simp [hn]
      · have h1 : 0 ≤ Lib.index l [c] := by omega
        have h2 : 0 ≤ Lib.index l [c] + 1 := by omega
        have h3 : (Lib.index l [c] + 1).toNat = (Lib.index l [c]).toNat + 1 := by omega
        rw [if_pos h1] at ih
        rw [if_neg hi, if_pos h2, h3]
        split at ih
        · rename_i hn
          injection ih with i1 i2
          injection i2 with i2 _
          rw [if_pos hn]
          simp only [List.headD_cons, List.length_cons, List.take_succ_cons, i1]
          simp only [List.length_cons, List.length_nil] at i2
          rw [show (Lib.index l [c]).toNat + 1 + ([] : List UInt8).length.succ = ((Lib.index l [c]).toNat + (0 + 1)) + 1 by simp, List.drop_succ_cons, i2, List.drop_succ_cons]
        · rename_i hn
          injection ih with _ i2
          injection i2 with _ i3
          cases i3
theorem cutL_none (c : UInt8) : ∀ s : List UInt8, Lib.indexByte s c < 0 → cutL c s = [s]
  | [], _ => rfl
  | b :: l, h => by
    have hge := Lib.indexByte_ge l c
    unfold Lib.indexByte at h
    by_cases hb : b = c
    · simp [hb] at h
    · have hb' : (b == c) = false := by simpa using hb
      rw [hb', if_neg (by decide)] at h
      have hl : Lib.indexByte l c < 0 := by
        split at h
        · rename_i e; have := beq_iff_eq.1 e; omega
        · rename_i e; omega
      rw [cutL, if_neg hb, cutL_none c l hl]
      rfl
theorem cutL_some (c : UInt8) : ∀ (s : List UInt8) (i : Nat), Lib.indexByte s c = i → cutL c s = s.take i :: cutL c (s.drop (i + 1))
  | [], i, h => by unfold Lib.indexByte at h; omega
  | b :: l, i, h => by
    have hge := Lib.indexByte_ge l c
    unfold Lib.indexByte at h
    by_cases hb : b = c
    · have hb' : (b == c) = true := by simpa using hb
      rw [hb', if_pos rfl] at h
      have : i = 0 := by omega
      subst this
      rw [cutL, if_pos hb]; simp
    · have hb' : (b == c) = false := by simpa using hb
      rw [hb', if_neg (by decide)] at h
      split at h
      · omega
      · rename_i hne
        have hne' : Lib.indexByte l c ≠ -1 := by simpa using hne
        obtain ⟨k, rfl⟩ : ∃ k, i = k + 1 := ⟨i - 1, by omega⟩
        have hk : Lib.indexByte l c = k := by omega
        rw [cutL, if_neg hb, cutL_some c l k hk]
        simp
theorem cutL_len (c : UInt8) : ∀ s : List UInt8, (cutL c s).length ≤ s.length + 1
  | [] => by simp [cutL]
  | x :: r => by
    have := cutL_len c r
    unfold cutL
    split
    · simp; omega
    · simp; omega
theorem cutL_mem (c : UInt8) : ∀ (s x : List UInt8), x ∈ cutL c s → x.length ≤ s.length
  | [], x, h => by simp [cutL] at h; subst h; simp
  | b :: r, x, h => by
    unfold cutL at h
    split at h
    · rcases List.mem_cons.1 h with rfl | h
      · simp
      · have := cutL_mem c r x h; simp; omega
    · rcases List.mem_cons.1 h with rfl | h
      · have := cutL_mem c r ((cutL c r).headD []) (by rw [cutL_split c r]; simp)
        simpa using this
      · have := cutL_mem c r x (List.mem_of_mem_tail h); simp; omega
theorem cut_le (s p : List UInt8) : (Lib.cut s p).1.length ≤ s.length ∧ (Lib.cut s p).2.1.length ≤ s.length := by
  unfold Lib.cut
  split
  · simp only [List.length_take, List.length_drop]; omega
  · simp
end Go.Proofs.YtannopdcbocngaaGreatDoor
namespace Go.Proofs.YtannopdcbocngaaGreatDoor
open Go Go.Abs
attribute [local irreducible] exK opsK opK gK forkK kr acall callOp owhen obind
theorem atoiN_ok (s : Bytes) : okI (atoiN s) := by
  unfold atoiN okI
  split
  · rename_i v h
    exact Lib.atoiAll_bounds h
  · exact Lib.atoiSat_bounds s
  · omega
theorem c58 (s : Bytes) (hs : s.length ≤ 281474976710656) : acall tab 58 [.str s] [] = some (.tuple [.int .i64 (atoiN s), .any], []) := by
  refine acall_prim (g := pAtoi) rfl ?_
  simp only [pAtoi]
  rw [if_pos hs]
theorem k58 (s : Bytes) (hs : s.length ≤ 281474976710656) (M : AMem) : callOp (acall tab) 58 [.str s] M = some (.tuple [.int .i64 (atoiN s), .any], M) := callOp0 (c58 s hs) rfl rfl rfl rfl rfl M
theorem c93 (s p : Bytes) (hs : s.length < 4294967281) : acall tab 93 [.str s, .str p] [] = some (.tuple [.str (Lib.cut s p).1, .str (Lib.cut s p).2.1, .bool (Lib.cut s p).2.2], []) := by
  refine acall_prim (g := pCut) rfl ?_
  simp only [pCut]
  rw [if_pos hs]
theorem k93 (s p : Bytes) (hs : s.length < 4294967281) (M : AMem) : callOp (acall tab) 93 [.str s, .str p] M = some (.tuple [.str (Lib.cut s p).1, .str (Lib.cut s p).2.1, .bool (Lib.cut s p).2.2], M) := callOp0 (c93 s p hs) rfl rfl rfl rfl rfl M
theorem c64 (s p : Bytes) (hs : s.length < 4294967281) (hp : 1 ≤ p.length) : acall tab 64 [.str s, .str p] [] = some (.slice .sh ((splitS s p).map .str), []) := by
  refine acall_prim (g := pSplitS) rfl ?_
  simp only [pSplitS]
  rw [if_pos ⟨hs, hp⟩]
theorem k64 (s p : Bytes) (hs : s.length < 4294967281) (hp : 1 ≤ p.length) (M : AMem) : callOp (acall tab) 64 [.str s, .str p] M = some (.slice .sh ((splitS s p).map .str), M) := callOp0 (c64 s p hs hp) rfl rfl rfl rfl rfl M
def fldR (x : Bytes) : Fld := ⟨(Lib.cut x [61]).1, atoiN (Lib.cut x [61]).2.1, (Lib.cut x [61]).2.1⟩
theorem splitS_one (s : Bytes) (c : UInt8) : splitS s [c] = cutL c s := by
  have h := Lib.splitB_data (bs [c]) 0 (Lib.countB (bs s) (bs [c])) (bs s)
  unfold splitS
  rw [h, ← splitK_cutL]
  have e1 : (bs [c]).data.toList = [c] := rfl
  have e2 : (bs s).data.toList = s := by simp [bs]
  unfold Lib.countB
  rw [e1, e2, Lib.count_one]
theorem loop55 (ws : List Bytes) (hl : ws.length ≤ 1000000) (hs : ∀ x, x ∈ ws → x.length ≤ 1000000) (first : Bytes) (C : CallF) (hC : C = acall tab) : ∀ (r pre : List Bytes), ws = pre ++ r → ∀ (fn : List ARes) (base : Nat) (k : List K),
    exK C fn base (.block 0 :: k) (.loop [2, 4, 19, 20, 21] lb55_0) [(2, .ptr 0 0), (4, .ptr 1 0), (19, .slice .sh (ws.map .str)), (20, eI ws.length), (21, eI pre.length)]
      [.cells [.str [], .slice .c0 []], .cells [.str first, .slice (.own 2) ((pre.map fldR).map eFld)], .tick 3 pre.length] =
    kr C fn base k ⟨.normal, [(2, .ptr 0 0), (4, .ptr 1 0), (19, .slice .sh (ws.map .str)), (20, eI ws.length), (21, eI ws.length), (22, .bool false)],
      [.cells [.str [], .slice .c0 []], .cells [.str first, .slice (.own 2) ((ws.map fldR).map eFld)], .tick 3 ws.length]⟩
  | [], pre, he, fn, base, k => by
    subst hC
    have : pre = ws := by simpa using he.symm
    subst this
    rw [exK_loop]
    have hlt : decide ((pre.length : Int) < pre.length) = false := by simp
    simp only [E55, hlt, EVT, EVD, ↓reduceIte, Nat.reduceEqDiff, reduceCtorEq, Nat.reduceAdd, Nat.reduceLeDiff, ne_eq, Nat.reduceLT, Int.reduceLT, Int.reduceLE, Int.reduceNeg]
  | f :: r, pre, he, fn, base, k => by
    subst hC
    have hl' : pre.length < ws.length := by rw [he]; simp
    have hlt : decide ((pre.length : Int) < ws.length) = true := by simpa using hl'
    have hix : ws[pre.length]? = some f := by rw [he]; simp
    have hn : (0 : Int) ≤ pre.length := by omega
    have hw : IntKind.i64.wrap ((pre.length : Int) + 1) = ((pre ++ [f]).length : Int) := by rw [List.length_append, wrapS (by omega) (by omega)]; simp
    have hf := hs f (by rw [he]; simp)
    have hc := cut_le f [61]
    have h1 := fun M => k93 f [61] (by omega) M
    have h2 := fun M => k58 (Lib.cut f [61]).2.1 (by omega) M
    have hr := roomO (a := pre.length + 1) (b := 40) (by omega) (by omega)
    have hwd : wid (List.map eFld (List.map fldR pre)) 3 = True := by
      simp only [eq_iff_iff, iff_true]
      intro x hx
      obtain ⟨y, _, rfl⟩ := List.mem_map.1 hx
      rfl
    have ih := loop55 ws hl hs first (acall tab) rfl r (pre ++ [f]) (by simpa using he) fn base k
    simp only [List.length_append, List.length_cons, List.length_nil, Nat.zero_add, List.map_append, List.map_cons, List.map_nil] at ih hw
    rw [exK_loop]
    simp only [E55, hlt, hix, h1, h2, hr, hwd, hw, EVT, EVD, ↓reduceIte, Nat.reduceEqDiff, reduceCtorEq, Nat.reduceAdd, Nat.reduceLeDiff, ne_eq, Nat.reduceLT, Int.reduceLT, Int.reduceLE, Int.reduceNeg]
    exact ih
def cutF (s : Bytes) : Bytes := (cutL 32 s).headD []
def cutR (s : Bytes) : List Fld := (cutL 32 s).tail.map fldR
theorem c55 (s : Bytes) (hs : s.length ≤ 900000) : acall tab 55 [.str s] [] = some (eRead .sh (cutF s) (cutR s), []) := by
  refine acall_ex rfl rfl rfl ?_
  have h1 := fun M => k64 s [32] (by omega) (by simp) M
  rw [splitS_one, cutL_split] at h1
  have hmem : ∀ x, x ∈ (cutL 32 s).tail → x.length ≤ 1000000 := fun x hx => by
    have := cutL_mem 32 s x (List.mem_of_mem_tail hx); omega
  have hlen : (cutL 32 s).tail.length ≤ 1000000 := by
    have := cutL_len 32 s
    simp; omega
  unfold cutF cutR
  generalize (cutL 32 s).headD [] = a at h1 ⊢
  generalize (cutL 32 s).tail = ws at h1 hlen hmem ⊢
  have h0 := loop55 ws hlen hmem a (acall tab) rfl ws [] rfl
  simp only [List.map_cons] at h1
  have ht : (0 : Int).toNat = 0 := rfl
  have hw : wid (AVal.str a :: List.map AVal.str ws) 1 = True := widS (a :: ws)
  have hb : (((ws.length + 1 : Nat) : Int) ≤ ((ws.length + 1 : Nat) : Int) ∧ (1 : Int) ≤ ((ws.length + 1 : Nat) : Int)) = True := by simp only [eq_iff_iff, iff_true]; omega
  have hd : List.drop (Int.toNat 1) (AVal.str a :: List.take ws.length (List.map AVal.str ws)) = ws.map .str := by
    rw [show Int.toNat 1 = 1 from rfl, List.drop_succ_cons, List.drop_zero]
    exact List.take_of_length_le (by simp)
  simp only [fn55, E55, h1, ht, hw, hb, hd, List.getElem?_cons_zero, EVT, EVD, ↓reduceIte, Nat.reduceEqDiff, reduceCtorEq, Nat.reduceAdd, Nat.reduceLeDiff, ne_eq, Nat.reduceLT, Int.reduceLT, Int.reduceLE, Int.reduceNeg]
  refine (h0 _ _ _).trans ?_
  simp only [E55, EVT, EVD, ↓reduceIte, Nat.reduceEqDiff, reduceCtorEq, Nat.reduceAdd, Nat.reduceLeDiff, ne_eq, Nat.reduceLT, Int.reduceLT, Int.reduceLE, Int.reduceNeg]
theorem k55 (s : Bytes) (hs : s.length ≤ 900000) (M : AMem) : callOp (acall tab) 55 [.str s] M = some (eRead .sh (cutF s) (cutR s), M) := callOp0 (c55 s hs) rfl rfl rfl rfl rfl M
end Go.Proofs.YtannopdcbocngaaGreatDoor
namespace Go.Proofs.YtannopdcbocngaaGreatDoor
open Go Go.Abs
attribute [local irreducible] exK opsK opK gK forkK kr acall callOp owhen obind
def kindF (a : Bytes) : List Bytes → Nat → Int → Int
  | [], _, k => k
  | w :: r, i, k => kindF a r (i + 1) (if w = a ∧ 0 < i then (i : Int) else k)
theorem kindF_ok (a : Bytes) : ∀ (l : List Bytes) (i : Nat) (k : Int), i + l.length ≤ 1000 → okI k → okI (kindF a l i k)
  | [], i, k, h, hk => hk
  | w :: r, i, k, h, hk => by
    refine kindF_ok a r (i + 1) _ (by simp at h; omega) ?_
    split
    · unfold okI; simp at h; omega
    · exact hk
theorem gv0_back (B : Nat) (M : AMem) : gv0.map (AVal.back1 B M) = gv0 := rfl
theorem loop24 (s a : Bytes) (l : List Fld) (M0 : List AVal) (hM0 : ∀ B M, M0.map (AVal.back1 B M) = M0) (C : CallF) (hC : C = acall tab) (v5 v6 : AVal) (h5 : ∀ B M, v5.backV B M = v5) (h6 : ∀ B M, v6.backV B M = v6) : ∀ (r pre : List Bytes), wordsL = pre ++ r → ∀ (kd : Int) (fn : List ARes) (base : Nat) (k : List K),
    exK C fn base (.block 0 :: k) (.loop [0, 2, 4, 5, 6, 7, 25, 26] lb24_0) [(0, .str s), (2, .ptr 0 0), (4, .ptr 1 0), (5, v5), (6, v6), (7, eI kd), (25, .agg gv0), (26, eI pre.length)]
      [.cells M0, .cells [.str a, .slice .sh (l.map eFld)]] =
    kr C fn base k ⟨.normal, [(0, .str s), (2, .ptr 0 0), (4, .ptr 1 0), (5, v5), (6, v6), (7, eI (kindF a r pre.length kd)), (25, .agg gv0), (26, eI 18), (27, .bool false)],
      [.cells M0, .cells [.str a, .slice .sh (l.map eFld)]]⟩
  | [], pre, he, kd, fn, base, k => by
    subst hC
    have : pre = wordsL := by simpa using he.symm
    subst this
    rw [exK_loop]
    have hlt : decide ((wordsL.length : Int) < 18) = false := rfl
    have h18 : ((wordsL.length : Nat) : Int) = 18 := rfl
    simp only [E24, hlt, kindF, h18, EVT, EVD, ↓reduceIte, Nat.reduceEqDiff, reduceCtorEq, Nat.reduceAdd, Nat.reduceLeDiff, ne_eq, Nat.reduceLT, Int.reduceLT, Int.reduceLE, Int.reduceNeg]
  | f :: r, pre, he, kd, fn, base, k => by
    subst hC
    have hl0 : wordsL.length = 18 := rfl
    have hl' : pre.length < 18 := by rw [← hl0, he]; simp
    have hlt : decide ((pre.length : Int) < 18) = true := by simp; omega
    have hix : gv0[pre.length]? = some (.str f) := by unfold gv0; rw [he]; simp
    have hn : (0 : Int) ≤ pre.length := by omega
    have hw : IntKind.i64.wrap ((pre.length : Int) + 1) = ((pre ++ [f]).length : Int) := by rw [List.length_append, wrapS (by omega) (by omega)]; simp
    have ih := fun kd => loop24 s a l M0 hM0 (acall tab) rfl v5 v6 h5 h6 r (pre ++ [f]) (by simpa using he) kd fn base k
    simp only [List.length_append, List.length_cons, List.length_nil, Nat.zero_add] at ih hw
    rw [exK_loop, kindF]
    have hl2 : ((pre.length : Int) < ((18 : Nat) : Int)) = True := by simp only [eq_iff_iff, iff_true]; omega
    simp only [E24, hlt, hix, hl2, EVT, EVD, ↓reduceIte, Nat.reduceEqDiff, reduceCtorEq, Nat.reduceAdd, Nat.reduceLeDiff, ne_eq, Nat.reduceLT, Int.reduceLT, Int.reduceLE, Int.reduceNeg]
    refine guard_split (fun hb => ?_) (fun hb => ?_)
    · simp only [E24, hb, EVT, EVD, ↓reduceIte, Nat.reduceEqDiff, reduceCtorEq, Nat.reduceAdd, Nat.reduceLeDiff, ne_eq, Nat.reduceLT, Int.reduceLT, Int.reduceLE, Int.reduceNeg]
      refine fork_split (fun hc => ?_) (fun hc => ?_)
      · rw [if_pos ⟨by simpa using hb, by simp at hc; omega⟩]
        simp only [E24, hc, hw, h5, h6, hM0, gv0_back, EVT, EVD, ↓reduceIte, Nat.reduceEqDiff, reduceCtorEq, Nat.reduceAdd, Nat.reduceLeDiff, ne_eq, Nat.reduceLT, Int.reduceLT, Int.reduceLE, Int.reduceNeg]
        exact ih _
      · rw [if_neg (fun e => by have := of_decide_eq_false hc; have := e.2; omega)]
        simp only [E24, hc, hw, h5, h6, hM0, gv0_back, EVT, EVD, ↓reduceIte, Nat.reduceEqDiff, reduceCtorEq, Nat.reduceAdd, Nat.reduceLeDiff, ne_eq, Nat.reduceLT, Int.reduceLT, Int.reduceLE, Int.reduceNeg]
        exact ih _
    · rw [if_neg (by intro e; simp at hb; exact hb e.1)]
      simp only [E24, hb, hw, h5, h6, hM0, gv0_back, EVT, EVD, ↓reduceIte, Nat.reduceEqDiff, reduceCtorEq, Nat.reduceAdd, Nat.reduceLeDiff, ne_eq, Nat.reduceLT, Int.reduceLT, Int.reduceLE, Int.reduceNeg]
      exact ih _
theorem cut_field_le (s w : Bytes) : (getN w (cutR s)).1.s.length ≤ s.length := by
  unfold getN
  split
  · rename_i f h
    have hm := List.mem_of_find?_eq_some h
    unfold cutR at hm
    obtain ⟨x, hx, rfl⟩ := List.mem_map.1 hm
    have h1 := cutL_mem 32 s x (List.mem_of_mem_tail hx)
    have h2 := (cut_le x [61]).2
    simp only [fldR]
    omega
  · simp [zFld]
theorem cut_field_ok (s w : Bytes) : okI (getN w (cutR s)).1.n := by
  unfold getN
  split
  · rename_i f h
    have hm := List.mem_of_find?_eq_some h
    unfold cutR at hm
    obtain ⟨x, hx, rfl⟩ := List.mem_map.1 hm
    exact atoiN_ok _
  · exact okI_zero
theorem cutR_len (s : Bytes) : (cutR s).length ≤ s.length := by
  have := cutL_len 32 s
  simp [cutR]; omega
def numG (s w : Bytes) : Int := (getN w (cutR s)).1.n
def txtG (s w : Bytes) : Bytes := rawN (getN w (cutR s)).1.s
def opOf (s : Bytes) : Op := ⟨kindF (cutF s) wordsL 0 (atoiN (trimN (cutF s) [111, 112])), numG s wClient, txtG s wPath, txtG s wTo, numG s wN, numG s wM, numG s wHandle, txtG s wData⟩
theorem txtG_le (s w : Bytes) : (txtG s w).length ≤ s.length := Nat.le_trans (rawN_le _ _ (Nat.le_refl _)) (cut_field_le s w)
theorem opOf_ok {s : Bytes} (h : s.length ≤ 900000) : OpOk (opOf s) where
  kind := kindF_ok _ _ _ _ (by decide) (atoiN_ok _)
  client := cut_field_ok _ _
  path := by have := txtG_le s wPath; simp only [opOf]; omega
  dest := by have := txtG_le s wTo; simp only [opOf]; omega
  n := cut_field_ok _ _
  m := cut_field_ok _ _
  handle := cut_field_ok _ _
  data := by have := txtG_le s wData; simp only [opOf]; omega
def opZ : Op := ⟨0, 0, [], [], 0, 0, 0, []⟩
def rdOp (s : Bytes) : Op × Int := if opN (opOf s) = s then (opOf s, 0) else (opZ, 11)
theorem k56 (a w : Bytes) (l : List Fld) (hl : l.length ≤ 10000000) (M : AMem) : callOp (acall tab) 56 [eRead .sh a l, .str w] M = some (.int .i64 (getN w l).1.n, M) := callOp0 (c56 a w .sh (.inl rfl) l hl) rfl rfl rfl rfl rfl M
theorem k57 (a w : Bytes) (l : List Fld) (hl : l.length ≤ 10000000) (hs : (getN w l).1.s.length ≤ 1000000) (M : AMem) : callOp (acall tab) 57 [eRead .sh a l, .str w] M = some (.str (rawN (getN w l).1.s), M) := callOp0 (c57 a w .sh (.inl rfl) l hl hs) rfl rfl rfl rfl rfl M
theorem back_read (a : Bytes) (l : List Fld) (f : Nat) (B : Nat) (M : AMem) : AVal.backV B M (.mfn f [.agg [.str a, .slice .sh (l.map eFld)]]) = .mfn f [.agg [.str a, .slice .sh (l.map eFld)]] := rfl
theorem c24 (s : Bytes) (hs : s.length ≤ 900000) : acall tab 24 [.str s] [] = some (.tuple [eOp .sh (rdOp s).1, eI (rdOp s).2], []) := by
  refine acall_ex rfl rfl rfl ?_
  have h55 := fun M => k55 s hs M
  have hcf : (cutF s).length ≤ s.length := cutL_mem 32 s _ (by rw [cutL_split 32 s]; simp [cutF])
  have h59 := fun M => k59 (cutF s) [111, 112] M
  have h58 := fun M => k58 (trimN (cutF s) [111, 112]) (by have := trimN_le (cutF s) [111, 112]; omega) M
  have hl := cutR_len s
  have h56 := fun w M => k56 (cutF s) w (cutR s) (by omega) M
  have h57 := fun w M => k57 (cutF s) w (cutR s) (by omega) (by have := cut_field_le s w; omega) M
  have h15 := fun M => k15 (opOf s) (opOf_ok hs) .sh (.inl rfl) M
  simp only [eRead] at h55 h56 h57
  have hg : (18 ≤ gv0.length) = True := by simp only [eq_iff_iff, iff_true]; decide
  have ht : List.take 18 gv0 = gv0 := rfl
  have hlp := fun M0 hM0 v5 v6 h5 h6 => loop24 s (cutF s) (cutR s) M0 hM0 (acall tab) rfl v5 v6 h5 h6 wordsL [] rfl
  have ho : eOpC .sh (opOf s) = eOpC .sh (opOf s) := rfl
  generalize hq : opN (opOf s) = q at h15
  conv at ho => rhs; simp only [eOpC, opOf, numG, txtG, wClient, wPath, wTo, wN, wM, wHandle, wData]
  rw [eOp, ho] at h15
  have hr : some (AVal.tuple [eOp .sh (rdOp s).1, eI (rdOp s).2], ([] : AMem)) = if (q != s) = false then some (.tuple [.agg (eOpC .sh (opOf s)), eI 0], []) else some (.tuple [.agg (eOpC .sh opZ), eI 11], []) := by
    unfold rdOp
    rw [hq]
    by_cases h : q = s <;> simp [h]
  rw [hr, ho]
  clear hr ho
  simp only [fn24, E24, h55, h58, h59, hg, ht, EVT, EVD, ↓reduceIte, Nat.reduceEqDiff, reduceCtorEq, Nat.reduceAdd, Nat.reduceLeDiff, ne_eq, Nat.reduceLT, Int.reduceLT, Int.reduceLE, Int.reduceNeg]
  refine (hlp _ (by intro B M; rfl) _ _ (by intro B M; rfl) (by intro B M; rfl) _ _ _ _).trans ?_
  simp only [E24, h56, h57, h15, EVT, EVD, ↓reduceIte, Nat.reduceEqDiff, reduceCtorEq, Nat.reduceAdd, Nat.reduceLeDiff, ne_eq, Nat.reduceLT, Int.reduceLT, Int.reduceLE, Int.reduceNeg]
  refine fork_split (fun hc => ?_) (fun hc => ?_)
  · rw [if_neg (by rw [hc]; decide)]
    simp only [E24, hc, EVT, EVD, ↓reduceIte, Nat.reduceEqDiff, reduceCtorEq, Nat.reduceAdd, Nat.reduceLeDiff, ne_eq, Nat.reduceLT, Int.reduceLT, Int.reduceLE, Int.reduceNeg]
    rfl
  · rw [if_pos hc]
    simp only [E24, hc, EVT, EVD, ↓reduceIte, Nat.reduceEqDiff, reduceCtorEq, Nat.reduceAdd, Nat.reduceLeDiff, ne_eq, Nat.reduceLT, Int.reduceLT, Int.reduceLE, Int.reduceNeg]
theorem k24 (s : Bytes) (hs : s.length ≤ 900000) (M : AMem) : callOp (acall tab) 24 [.str s] M = some (.tuple [eOp .sh (rdOp s).1, eI (rdOp s).2], M) := callOp0 (c24 s hs) rfl rfl rfl rfl rfl M
end Go.Proofs.YtannopdcbocngaaGreatDoor
