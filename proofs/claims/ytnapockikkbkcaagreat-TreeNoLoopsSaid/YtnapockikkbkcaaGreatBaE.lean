import Derived.Laws.RangeString
import Derived.Test.YtnapockikkbkcaaGreatBaD
set_option linter.unusedSimpArgs false
set_option linter.unusedVariables false
/-
  What the functions of the document's answer do, over plain data: part eight: Mv. Own work.
-/
namespace Go.Proofs.YtnapockikkbkcaaGreat
open Go Go.Abs
attribute [local irreducible] exK opsK opK gK forkK kr acall callOp owhen obind

def highStep (nodes : List Node) (ino at' d : Int) (n : Node) (most : Int) : Int :=
  if (n.kind == 2 && belowN nodes n.ino ino) = true then
    (if (if decide ((0 : Int) < n.ents.length) = true then w64 (w64 (w64 (at' + depthN nodes n.ino) - d) + 1) else w64 (w64 (at' + depthN nodes n.ino) - d)) > most
      then (if decide ((0 : Int) < n.ents.length) = true then w64 (w64 (w64 (at' + depthN nodes n.ino) - d) + 1) else w64 (w64 (at' + depthN nodes n.ino) - d)) else most)
  else most
def highGo (nodes : List Node) (ino at' d : Int) : List Node → Int → Int
  | [], most => most
  | n :: r, most => highGo nodes ino at' d r (highStep nodes ino at' d n most)
def highN (nodes : List Node) (ino at' : Int) : Int := highGo nodes ino at' (depthN nodes ino) nodes 0

theorem loop104 {nodes : List Node} {next cookie ino at' d : Int} (ht : nodes.length ≤ 100000) {k : List K} {R : Int → Option (AVal × AMem)}
    (hx : ∀ most v q, kr (acall tab) [.tmp 6] 0 k ⟨.exit 0, [(1, .int .i64 ino), (2, .int .i64 at'), (3, .ptr 0 0), (7, .int .i64 most), (8, .int .i64 d), (9, v), (19, q)], [.cells (eTreeC ⟨nodes, next, cookie⟩)]⟩ = R most) :
    ∀ (l pre : List Node) (most : Int), nodes = pre ++ l → exK (acall tab) [.tmp 6] 0 k (.loop [1, 2, 3, 7, 8, 9] lb104_0) [(1, .int .i64 ino), (2, .int .i64 at'), (3, .ptr 0 0), (7, .int .i64 most), (8, .int .i64 d), (9, .int .i64 pre.length)] [.cells (eTreeC ⟨nodes, next, cookie⟩)] = R (highGo nodes ino at' d l most) := by
  intro l
  induction l with
  | nil =>
    intro pre most h
    rw [exK_loop]
    simp only [E104, eTreeC, lt_end h, EVT, finish, resAll, resOf, one, astep, aop, parsFrom, Opd.ev, getS, putS, keepS, nth, setN, abin, ↓reduceIte, Nat.reduceEqDiff, reduceCtorEq, Nat.reduceAdd, writeAt, Nat.reduceLeDiff, ne_eq, backE, backM, ABox.back, Nat.reduceLT, Int.reduceLT, Int.reduceLE, Int.reduceNeg, litsOf, sepAll, fillParts, AOp.argIds, ob, og, ox]
    exact hx _ _ _
  | cons n r ih =>
    intro pre most h
    rw [exK_loop]
    have hlen : pre.length + 1 ≤ 100000 := by rw [h] at ht; simp at ht; omega
    have hw : IntKind.i64.wrap ((pre.length : Int) + 1) = ((pre ++ [n]).length : Int) := by rw [wrap_small (by omega) (by omega)]; exact step_len
    have hi := fun most => ih (pre ++ [n]) most (by rw [h]; simp)
    rw [highGo]
    simp only [eTreeC] at hi
    generalize hst : highStep nodes ino at' d n most = m1
    simp only [E104, eTreeC, lt_mid h, at_mid h, eNodeC, EVT, finish, resAll, resOf, one, astep, aop, parsFrom, Opd.ev, getS, putS, keepS, nth, setN, abin, ↓reduceIte, Nat.reduceEqDiff, reduceCtorEq, Nat.reduceAdd, writeAt, Nat.reduceLeDiff, ne_eq, backE, backM, ABox.back, Nat.reduceLT, Int.reduceLT, Int.reduceLE, Int.reduceNeg, litsOf, sepAll, fillParts, AOp.argIds, ob, og, ox]
    repeat' (first | (refine fork_split (fun hb => ?_) (fun hb => ?_) <;> simp only [hb, E104, hw, k101, k103, ht, eNodeC, EVT, finish, resAll, resOf, one, astep, aop, parsFrom, Opd.ev, getS, putS, keepS, nth, setN, abin, ↓reduceIte, Nat.reduceEqDiff, reduceCtorEq, Nat.reduceAdd, writeAt, Nat.reduceLeDiff, ne_eq, backE, backM, ABox.back, Nat.reduceLT, Int.reduceLT, Int.reduceLE, Int.reduceNeg, litsOf, sepAll, fillParts, AOp.argIds, ob, og, ox]) | (refine guard_split (fun hb => ?_) (fun hb => ?_) <;> simp only [hb, E104, hw, k101, k103, ht, eNodeC, EVT, finish, resAll, resOf, one, astep, aop, parsFrom, Opd.ev, getS, putS, keepS, nth, setN, abin, ↓reduceIte, Nat.reduceEqDiff, reduceCtorEq, Nat.reduceAdd, writeAt, Nat.reduceLeDiff, ne_eq, backE, backM, ABox.back, Nat.reduceLT, Int.reduceLT, Int.reduceLE, Int.reduceNeg, litsOf, sepAll, fillParts, AOp.argIds, ob, og, ox]) | (refine opK_pick (fun hb => ?_) (fun hb => ?_) <;> simp only [hb, E104, hw, k101, k103, ht, eNodeC, EVT, finish, resAll, resOf, one, astep, aop, parsFrom, Opd.ev, getS, putS, keepS, nth, setN, abin, ↓reduceIte, Nat.reduceEqDiff, reduceCtorEq, Nat.reduceAdd, writeAt, Nat.reduceLeDiff, ne_eq, backE, backM, ABox.back, Nat.reduceLT, Int.reduceLT, Int.reduceLE, Int.reduceNeg, litsOf, sepAll, fillParts, AOp.argIds, ob, og, ox]))
    all_goals refine Eq.trans ?_ (hi m1)
    all_goals congr 1
    all_goals (subst hst; clear hi ih hx hw h ht; simp_all only [highStep, w64, gt_iff_lt, List.length_append, List.length_cons, List.length_nil, Nat.zero_add, Bool.and_true, Bool.true_and, Bool.and_false, Bool.false_and, Bool.or_true, Bool.true_or, Bool.or_false, Bool.false_or, Bool.not_true, Bool.not_false, Bool.and_self, Bool.or_self, ↓reduceIte, Bool.false_eq_true, reduceCtorEq, beq_self_eq_true, bne_self_eq_false]; done)
theorem c104 (t : Tree) (ino at' : Int) (ht : t.nodes.length ≤ 100000) : acall tab 104 [eTree t, .int .i64 ino, .int .i64 at'] [] = some (.int .i64 (highN t.nodes ino at'), []) := by
  obtain ⟨nodes, next, cookie⟩ := t
  have ht : nodes.length ≤ 100000 := ht
  refine acall_ex rfl rfl rfl ?_
  simp only [fn104, E104, eTree, eTreeC, k103, ht, EVT, finish, resAll, resOf, one, astep, aop, parsFrom, Opd.ev, getS, putS, keepS, nth, setN, abin, ↓reduceIte, Nat.reduceEqDiff, reduceCtorEq, Nat.reduceAdd, writeAt, Nat.reduceLeDiff, ne_eq, backE, backM, ABox.back, Nat.reduceLT, Int.reduceLT, Int.reduceLE, Int.reduceNeg, litsOf, sepAll, fillParts, AOp.argIds, ob, og, ox]
  exact loop104 (R := fun z => some (.int .i64 z, [])) ht (fun most v q => by simp only [E104, EVT, finish, resAll, resOf, one, astep, aop, parsFrom, Opd.ev, getS, putS, keepS, nth, setN, abin, ↓reduceIte, Nat.reduceEqDiff, reduceCtorEq, Nat.reduceAdd, writeAt, Nat.reduceLeDiff, ne_eq, backE, backM, ABox.back, Nat.reduceLT, Int.reduceLT, Int.reduceLE, Int.reduceNeg, litsOf, sepAll, fillParts, AOp.argIds, ob, og, ox]) nodes [] 0 rfl
theorem k104 (nodes : List Node) (next cookie ino at' : Int) (h : nodes.length ≤ 100000) (M : AMem) : callOp (acall tab) 104 [.agg [eNodes nodes, .int .i64 next, .int .i64 cookie], .int .i64 ino, .int .i64 at'] M = some (.int .i64 (highN nodes ino at'), M) :=
  callOp0 (c104 ⟨nodes, next, cookie⟩ ino at' h) rfl rfl rfl rfl rfl M

/-- What stands under a name; 0: nothing. -/
def underN (l : List Ent) (s : Bytes) : Int := match findE l s with
  | none => 0
  | some e => e.ino
def manyN (t : Tree) (frm to : Int) (ents : List Ent) (kind y ino : Int) : Bool :=
  ((y == 0 && to != frm) && decide ((64 : Int) ≤ ents.length)) || (decide ((12 : Int) ≤ depthN t.nodes to) || ((kind == 2 && decide ((12 : Int) < highN t.nodes ino (w64 (depthN t.nodes to + 1)))) || decide ((1099511627776 : Int) ≤ t.cookie)))
def moveN (t : Tree) (frm : Int) (s : Bytes) (to : Int) (nm : Bytes) (ino y : Int) : Tree :=
  enteredN ⟨if ((nodeN t.nodes ino).kind == 2) = true then
      withN (if (y != 0) = true then unnamedN (leftN (leftN t.nodes frm s) to nm) y else leftN t.nodes frm s) { nodeN t.nodes ino with up := to }
    else if (y != 0) = true then unnamedN (leftN (leftN t.nodes frm s) to nm) y else leftN t.nodes frm s, t.next, t.cookie⟩ to nm ino
def mvN (t : Tree) (frm : Int) (s : Bytes) (to : Int) (nm : Bytes) : Tree × Int × Int :=
  if ((lookN t.nodes frm s).2 != 0) = true then (t, 0, (lookN t.nodes frm s).2) else
  if ((dirN t.nodes to).2 != 0) = true then (t, 0, (dirN t.nodes to).2) else
  if (!nameOk nm) = true then (t, 0, 60) else
  if (underN (dirN t.nodes to).1.ents nm == (lookN t.nodes frm s).1) = true then (t, 0, 0) else
  if ((nodeN t.nodes (lookN t.nodes frm s).1).kind == 2 && belowN t.nodes to (lookN t.nodes frm s).1) = true then (t, 0, 75) else
  if (clashN t.nodes (nodeN t.nodes (lookN t.nodes frm s).1).kind (underN (dirN t.nodes to).1.ents nm) != 0) = true then (t, 0, clashN t.nodes (nodeN t.nodes (lookN t.nodes frm s).1).kind (underN (dirN t.nodes to).1.ents nm)) else
  if manyN t frm to (dirN t.nodes to).1.ents (nodeN t.nodes (lookN t.nodes frm s).1).kind (underN (dirN t.nodes to).1.ents nm) (lookN t.nodes frm s).1 = true then (t, 0, 76) else
  (moveN t frm s to nm (lookN t.nodes frm s).1 (underN (dirN t.nodes to).1.ents nm), underN (dirN t.nodes to).1.ents nm, 0)

theorem Sz.unnamed {b : Nat} {t : Tree} (h : Sz b t) (ino next cookie : Int) : Sz (b + 1) ⟨unnamedN t.nodes ino, next, cookie⟩ := by
  unfold unnamedN
  split
  · exact (h.without ino next cookie).up (by omega)
  · exact h.with (n := { nodeN t.nodes ino with links := w64 ((nodeN t.nodes ino).links - 1) }) (Nat.le_succ_of_le (h.find ino).1) (h.find ino).2 next cookie

set_option maxHeartbeats 2000000 in
theorem c66 (t : Tree) (frm : Int) (s : Bytes) (to : Int) (nm : Bytes) (hz : Sz 1000 t) (hs : s.length ≤ 100000) (ha : nm.length ≤ 100000) : acall tab 66 [eTree t, .int .i64 frm, .str s, .int .i64 to, .str nm] [] =
    some (.tuple [eTree (mvN t frm s to nm).1, .int .i64 (mvN t frm s to nm).2.1, .int .i64 (mvN t frm s to nm).2.2], []) := by
  obtain ⟨nodes, next, cookie⟩ := t
  have ht : Small ⟨nodes, next, cookie⟩ := hz.small (by omega)
  have hn : nodes.length ≤ 100000 := ht.nodes
  have hd : (dirN nodes to).1.ents.length ≤ 100000 := dirN_ents ht to
  have z1 : Sz 1001 ⟨leftN nodes frm s, next, cookie⟩ := hz.left frm s next cookie
  have z2 : Sz 1002 ⟨leftN (leftN nodes frm s) to nm, next, cookie⟩ := z1.left to nm next cookie
  have z3 : ∀ y, Sz 1003 ⟨unnamedN (leftN (leftN nodes frm s) to nm) y, next, cookie⟩ := fun y => z2.unnamed y next cookie
  have hx := hz.find (lookN nodes frm s).1
  have z4 : ∀ y, Sz 1004 ⟨withN (unnamedN (leftN (leftN nodes frm s) to nm) y) { nodeN nodes (lookN nodes frm s).1 with up := to }, next, cookie⟩ := fun y => (z3 y).with (n := { nodeN nodes (lookN nodes frm s).1 with up := to }) (Nat.le_trans hx.1 (by omega)) hx.2 next cookie
  have z5 : Sz 1002 ⟨withN (leftN nodes frm s) { nodeN nodes (lookN nodes frm s).1 with up := to }, next, cookie⟩ := z1.with (n := { nodeN nodes (lookN nodes frm s).1 with up := to }) (Nat.le_trans hx.1 (by omega)) hx.2 next cookie
  have s1 := z1.small (by omega)
  have s2 := z2.small (by omega)
  have s3 := fun y => (z3 y).small (by omega)
  have s4 := fun y => (z4 y).small (by omega)
  have s5 := z5.small (by omega)
  have n1 : (leftN nodes frm s).length ≤ 100000 := s1.nodes
  have n3 : ∀ y, (unnamedN (leftN (leftN nodes frm s) to nm) y).length ≤ 100000 := fun y => (s3 y).nodes
  clear z1 z2 z3 z4 z5 hx
  refine acall_ex rfl rfl rfl ?_
  simp only [fn66, E66, eTree, eTreeC, k96, ht, hs, EVT, finish, resAll, resOf, one, astep, aop, parsFrom, Opd.ev, getS, putS, keepS, nth, setN, abin, ↓reduceIte, Nat.reduceEqDiff, reduceCtorEq, Nat.reduceAdd, writeAt, Nat.reduceLeDiff, ne_eq, backE, backM, ABox.back, Nat.reduceLT, Int.reduceLT, Int.reduceLE, Int.reduceNeg, litsOf, sepAll, fillParts, AOp.argIds, ob, og, ox]
  refine fork_split (fun hb0 => ?_) (fun hb0 => ?_)
  · simp only [E66, hb0, EVT, finish, resAll, resOf, one, astep, aop, parsFrom, Opd.ev, getS, putS, keepS, nth, setN, abin, ↓reduceIte, Nat.reduceEqDiff, reduceCtorEq, Nat.reduceAdd, writeAt, Nat.reduceLeDiff, ne_eq, backE, backM, ABox.back, Nat.reduceLT, Int.reduceLT, Int.reduceLE, Int.reduceNeg, litsOf, sepAll, fillParts, AOp.argIds, ob, og, ox]
    clear s1 s2 s3 s4 s5 n1 n3
    simp_all only [mvN, eTree, eTreeC, Bool.and_true, Bool.true_and, Bool.and_false, Bool.false_and, Bool.or_true, Bool.true_or, Bool.or_false, Bool.false_or, Bool.not_true, Bool.not_false, Bool.and_self, Bool.or_self, ↓reduceIte, Bool.false_eq_true, reduceCtorEq, beq_self_eq_true, bne_self_eq_false]
  simp only [E66, hb0, k99, hn, eNode, eNodeC, EVT, finish, resAll, resOf, one, astep, aop, parsFrom, Opd.ev, getS, putS, keepS, nth, setN, abin, ↓reduceIte, Nat.reduceEqDiff, reduceCtorEq, Nat.reduceAdd, writeAt, Nat.reduceLeDiff, ne_eq, backE, backM, ABox.back, Nat.reduceLT, Int.reduceLT, Int.reduceLE, Int.reduceNeg, litsOf, sepAll, fillParts, AOp.argIds, ob, og, ox]
  refine fork_split (fun hb1 => ?_) (fun hb1 => ?_)
  · simp only [E66, hb1, EVT, finish, resAll, resOf, one, astep, aop, parsFrom, Opd.ev, getS, putS, keepS, nth, setN, abin, ↓reduceIte, Nat.reduceEqDiff, reduceCtorEq, Nat.reduceAdd, writeAt, Nat.reduceLeDiff, ne_eq, backE, backM, ABox.back, Nat.reduceLT, Int.reduceLT, Int.reduceLE, Int.reduceNeg, litsOf, sepAll, fillParts, AOp.argIds, ob, og, ox]
    clear s1 s2 s3 s4 s5 n1 n3
    simp_all only [mvN, eTree, eTreeC, Bool.and_true, Bool.true_and, Bool.and_false, Bool.false_and, Bool.or_true, Bool.true_or, Bool.or_false, Bool.false_or, Bool.not_true, Bool.not_false, Bool.and_self, Bool.or_self, ↓reduceIte, Bool.false_eq_true, reduceCtorEq, beq_self_eq_true, bne_self_eq_false]
  simp only [E66, hb1, k22, ha, EVT, finish, resAll, resOf, one, astep, aop, parsFrom, Opd.ev, getS, putS, keepS, nth, setN, abin, ↓reduceIte, Nat.reduceEqDiff, reduceCtorEq, Nat.reduceAdd, writeAt, Nat.reduceLeDiff, ne_eq, backE, backM, ABox.back, Nat.reduceLT, Int.reduceLT, Int.reduceLE, Int.reduceNeg, litsOf, sepAll, fillParts, AOp.argIds, ob, og, ox]
  refine fork_split (fun hb2 => ?_) (fun hb2 => ?_)
  · simp only [E66, hb2, EVT, finish, resAll, resOf, one, astep, aop, parsFrom, Opd.ev, getS, putS, keepS, nth, setN, abin, ↓reduceIte, Nat.reduceEqDiff, reduceCtorEq, Nat.reduceAdd, writeAt, Nat.reduceLeDiff, ne_eq, backE, backM, ABox.back, Nat.reduceLT, Int.reduceLT, Int.reduceLE, Int.reduceNeg, litsOf, sepAll, fillParts, AOp.argIds, ob, og, ox]
    clear s1 s2 s3 s4 s5 n1 n3
    simp_all only [mvN, eTree, eTreeC, Bool.and_true, Bool.true_and, Bool.and_false, Bool.false_and, Bool.or_true, Bool.true_or, Bool.or_false, Bool.false_or, Bool.not_true, Bool.not_false, Bool.and_self, Bool.or_self, ↓reduceIte, Bool.false_eq_true, reduceCtorEq, beq_self_eq_true, bne_self_eq_false]
  simp only [E66, hb2, k100, hd, EVT, finish, resAll, resOf, one, astep, aop, parsFrom, Opd.ev, getS, putS, keepS, nth, setN, abin, ↓reduceIte, Nat.reduceEqDiff, reduceCtorEq, Nat.reduceAdd, writeAt, Nat.reduceLeDiff, ne_eq, backE, backM, ABox.back, Nat.reduceLT, Int.reduceLT, Int.reduceLE, Int.reduceNeg, litsOf, sepAll, fillParts, AOp.argIds, ob, og, ox]
  rcases namedGo_spec nm (dirN nodes to).1.ents 0 with ⟨h1, h2⟩ | ⟨m, n, h1, h2, h3⟩
  · have hu : underN (dirN nodes to).1.ents nm = 0 := by simp [underN, h1]
    rw [h2]
    simp only [E66, EVT, finish, resAll, resOf, one, astep, aop, parsFrom, Opd.ev, getS, putS, keepS, nth, setN, abin, ↓reduceIte, Nat.reduceEqDiff, reduceCtorEq, Nat.reduceAdd, writeAt, Nat.reduceLeDiff, ne_eq, backE, backM, ABox.back, Nat.reduceLT, Int.reduceLT, Int.reduceLE, Int.reduceNeg, litsOf, sepAll, fillParts, AOp.argIds, ob, og, ox]
    repeat' (first | (refine fork_split (fun hb => ?_) (fun hb => ?_) <;> simp only [hb, E66, k56, hn, ht, eNode, eNodeC, k101, k102, k103, k104, k98, k97, k95, k94, s1, s2, s3, s4, s5, n1, n3, eTree, eTreeC, EVT, finish, resAll, resOf, one, astep, aop, parsFrom, Opd.ev, getS, putS, keepS, nth, setN, abin, ↓reduceIte, Nat.reduceEqDiff, reduceCtorEq, Nat.reduceAdd, writeAt, Nat.reduceLeDiff, ne_eq, backE, backM, ABox.back, Nat.reduceLT, Int.reduceLT, Int.reduceLE, Int.reduceNeg, litsOf, sepAll, fillParts, AOp.argIds, ob, og, ox]) | (refine guard_split (fun hb => ?_) (fun hb => ?_) <;> simp only [hb, E66, k56, hn, ht, eNode, eNodeC, k101, k102, k103, k104, k98, k97, k95, k94, s1, s2, s3, s4, s5, n1, n3, eTree, eTreeC, EVT, finish, resAll, resOf, one, astep, aop, parsFrom, Opd.ev, getS, putS, keepS, nth, setN, abin, ↓reduceIte, Nat.reduceEqDiff, reduceCtorEq, Nat.reduceAdd, writeAt, Nat.reduceLeDiff, ne_eq, backE, backM, ABox.back, Nat.reduceLT, Int.reduceLT, Int.reduceLE, Int.reduceNeg, litsOf, sepAll, fillParts, AOp.argIds, ob, og, ox]) | (refine opK_pick (fun hb => ?_) (fun hb => ?_) <;> simp only [hb, E66, k56, hn, ht, eNode, eNodeC, k101, k102, k103, k104, k98, k97, k95, k94, s1, s2, s3, s4, s5, n1, n3, eTree, eTreeC, EVT, finish, resAll, resOf, one, astep, aop, parsFrom, Opd.ev, getS, putS, keepS, nth, setN, abin, ↓reduceIte, Nat.reduceEqDiff, reduceCtorEq, Nat.reduceAdd, writeAt, Nat.reduceLeDiff, ne_eq, backE, backM, ABox.back, Nat.reduceLT, Int.reduceLT, Int.reduceLE, Int.reduceNeg, litsOf, sepAll, fillParts, AOp.argIds, ob, og, ox]))
    all_goals (clear s1 s2 s3 s4 s5 n1 n3 h2; simp_all only [mvN, moveN, manyN, hu, eTree, eTreeC, Bool.and_true, Bool.true_and, Bool.and_false, Bool.false_and, Bool.or_true, Bool.true_or, Bool.or_false, Bool.false_or, Bool.not_true, Bool.not_false, Bool.and_self, Bool.or_self, ↓reduceIte, Bool.false_eq_true, reduceCtorEq, beq_self_eq_true, bne_self_eq_false]; done)
  · have hu : underN (dirN nodes to).1.ents nm = n.ino := by simp [underN, h2]
    rw [h3]
    simp only [E66, h1, eEntC, EVT, finish, resAll, resOf, one, astep, aop, parsFrom, Opd.ev, getS, putS, keepS, nth, setN, abin, ↓reduceIte, Nat.reduceEqDiff, reduceCtorEq, Nat.reduceAdd, writeAt, Nat.reduceLeDiff, ne_eq, backE, backM, ABox.back, Nat.reduceLT, Int.reduceLT, Int.reduceLE, Int.reduceNeg, litsOf, sepAll, fillParts, AOp.argIds, ob, og, ox]
    repeat' (first | (refine fork_split (fun hb => ?_) (fun hb => ?_) <;> simp only [hb, E66, k56, hn, ht, eNode, eNodeC, k101, k102, k103, k104, k98, k97, k95, k94, s1, s2, s3, s4, s5, n1, n3, eTree, eTreeC, EVT, finish, resAll, resOf, one, astep, aop, parsFrom, Opd.ev, getS, putS, keepS, nth, setN, abin, ↓reduceIte, Nat.reduceEqDiff, reduceCtorEq, Nat.reduceAdd, writeAt, Nat.reduceLeDiff, ne_eq, backE, backM, ABox.back, Nat.reduceLT, Int.reduceLT, Int.reduceLE, Int.reduceNeg, litsOf, sepAll, fillParts, AOp.argIds, ob, og, ox]) | (refine guard_split (fun hb => ?_) (fun hb => ?_) <;> simp only [hb, E66, k56, hn, ht, eNode, eNodeC, k101, k102, k103, k104, k98, k97, k95, k94, s1, s2, s3, s4, s5, n1, n3, eTree, eTreeC, EVT, finish, resAll, resOf, one, astep, aop, parsFrom, Opd.ev, getS, putS, keepS, nth, setN, abin, ↓reduceIte, Nat.reduceEqDiff, reduceCtorEq, Nat.reduceAdd, writeAt, Nat.reduceLeDiff, ne_eq, backE, backM, ABox.back, Nat.reduceLT, Int.reduceLT, Int.reduceLE, Int.reduceNeg, litsOf, sepAll, fillParts, AOp.argIds, ob, og, ox]) | (refine opK_pick (fun hb => ?_) (fun hb => ?_) <;> simp only [hb, E66, k56, hn, ht, eNode, eNodeC, k101, k102, k103, k104, k98, k97, k95, k94, s1, s2, s3, s4, s5, n1, n3, eTree, eTreeC, EVT, finish, resAll, resOf, one, astep, aop, parsFrom, Opd.ev, getS, putS, keepS, nth, setN, abin, ↓reduceIte, Nat.reduceEqDiff, reduceCtorEq, Nat.reduceAdd, writeAt, Nat.reduceLeDiff, ne_eq, backE, backM, ABox.back, Nat.reduceLT, Int.reduceLT, Int.reduceLE, Int.reduceNeg, litsOf, sepAll, fillParts, AOp.argIds, ob, og, ox]))
    all_goals (clear s1 s2 s3 s4 s5 n1 n3 h3; simp_all only [mvN, moveN, manyN, hu, eTree, eTreeC, Bool.and_true, Bool.true_and, Bool.and_false, Bool.false_and, Bool.or_true, Bool.true_or, Bool.or_false, Bool.false_or, Bool.not_true, Bool.not_false, Bool.and_self, Bool.or_self, ↓reduceIte, Bool.false_eq_true, reduceCtorEq, beq_self_eq_true, bne_self_eq_false]; done)
theorem k66 (nodes : List Node) (next cookie frm : Int) (s : Bytes) (to : Int) (nm : Bytes) (hz : Sz 1000 ⟨nodes, next, cookie⟩) (hs : s.length ≤ 100000) (ha : nm.length ≤ 100000) (M : AMem) : callOp (acall tab) 66 [.agg [eNodes nodes, .int .i64 next, .int .i64 cookie], .int .i64 frm, .str s, .int .i64 to, .str nm] M =
    some (.tuple [eTree (mvN ⟨nodes, next, cookie⟩ frm s to nm).1, .int .i64 (mvN ⟨nodes, next, cookie⟩ frm s to nm).2.1, .int .i64 (mvN ⟨nodes, next, cookie⟩ frm s to nm).2.2], M) := callOp0 (c66 ⟨nodes, next, cookie⟩ frm s to nm hz hs ha) rfl rfl rfl rfl rfl M
end Go.Proofs.YtnapockikkbkcaaGreat
/-
  What the laws' own functions do, over plain data. Own work.
-/
namespace Go.Proofs.YtnapockikkbkcaaGreat
open Go Go.Abs
attribute [local irreducible] exK opsK opK gK forkK kr acall callOp owhen obind

/-- Bytes of a step are bytes. -/
structure Step.Ok (s : Step) : Prop where
  kind : s.kind < 256
  a : s.a < 256
  b : s.b < 256
  n : s.n < 256
  m : s.m < 256
  data : s.data.length ≤ 100000

def nameOf (n : Nat) : Bytes := match n % 6 with
  | 0 => [97]
  | 1 => [98]
  | 2 => [99]
  | 3 => [100]
  | 4 => [101]
  | _ => [46, 46]
theorem nameOf_len (n : Nat) : (nameOf n).length ≤ 100000 := by unfold nameOf; split <;> simp
theorem c16 (n : Nat) (hn : n < 256) : acall tab 16 [.int .u8 n] [] = some (.str (nameOf n), []) := by
  refine acall_ex rfl rfl rfl ?_
  have hw : IntKind.i64.wrap (n : Int) = n := wrap_small (by omega) (by omega)
  have hm : (n : Int).tmod 6 = ((n % 6 : Nat) : Int) := by rw [Int.tmod_eq_emod_of_nonneg (by omega)]; rfl
  have h6 : ((6 : Int) = 0) = False := by simp
  simp only [fn16, E16, hw, hm, h6, EVT, finish, resAll, resOf, one, astep, aop, parsFrom, Opd.ev, getS, putS, keepS, nth, setN, abin, ↓reduceIte, Nat.reduceEqDiff, reduceCtorEq, Nat.reduceAdd, writeAt, Nat.reduceLeDiff, ne_eq, backE, backM, ABox.back, Nat.reduceLT, Int.reduceLT, Int.reduceLE, Int.reduceNeg, litsOf, sepAll, fillParts, AOp.argIds, ob, og, ox]
  unfold nameOf
  have hlt : n % 6 < 6 := Nat.mod_lt _ (by omega)
  generalize n % 6 = r at hlt
  match r, hlt with
  | 0, _ | 1, _ | 2, _ | 3, _ | 4, _ | 5, _ => simp only [E16, List.getElem?_cons_zero, List.getElem?_cons_succ, EVT, finish, resAll, resOf, one, astep, aop, parsFrom, Opd.ev, getS, putS, keepS, nth, setN, abin, ↓reduceIte, Nat.reduceEqDiff, reduceCtorEq, Nat.reduceAdd, writeAt, Nat.reduceLeDiff, ne_eq, backE, backM, ABox.back, Nat.reduceLT, Int.reduceLT, Int.reduceLE, Int.reduceNeg, litsOf, sepAll, fillParts, AOp.argIds, ob, og, ox]
theorem k16 (n : Nat) (hn : n < 256) (M : AMem) : callOp (acall tab) 16 [.int .u8 n] M = some (.str (nameOf n), M) := callOp0 (c16 n hn) rfl rfl rfl rfl rfl M

/-- A node's number, by a number. -/
def inoAt (t : Tree) (n : Nat) : Int := match t.nodes[n % (t.nodes.length + 1)]? with
  | some m => m.ino
  | none => t.next
theorem c14 (t : Tree) (n : Nat) (hn : n < 256) (ht : t.nodes.length ≤ 100000) : acall tab 14 [eTree t, .int .u8 n] [] = some (.int .i64 (inoAt t n), []) := by
  obtain ⟨nodes, next, cookie⟩ := t
  have ht : nodes.length ≤ 100000 := ht
  refine acall_ex rfl rfl rfl ?_
  have hw : IntKind.i64.wrap (n : Int) = n := wrap_small (by omega) (by omega)
  have hw2 : IntKind.i64.wrap ((nodes.length : Int) + 1) = (nodes.length : Int) + 1 := wrap_small (by omega) (by omega)
  have h0 : (((nodes.length : Int) + 1) = 0) = False := by simp; omega
  have hm : (n : Int).tmod ((nodes.length : Int) + 1) = ((n % (nodes.length + 1) : Nat) : Int) := by rw [Int.tmod_eq_emod_of_nonneg (by omega)]; rfl
  simp only [fn14, E14, eTree, eTreeC, hw, hw2, h0, hm, EVT, finish, resAll, resOf, one, astep, aop, parsFrom, Opd.ev, getS, putS, keepS, nth, setN, abin, ↓reduceIte, Nat.reduceEqDiff, reduceCtorEq, Nat.reduceAdd, writeAt, Nat.reduceLeDiff, ne_eq, backE, backM, ABox.back, Nat.reduceLT, Int.reduceLT, Int.reduceLE, Int.reduceNeg, litsOf, sepAll, fillParts, AOp.argIds, ob, og, ox]
  unfold inoAt
  simp only
  generalize n % (nodes.length + 1) = r
  refine fork_split (fun hb => ?_) (fun hb => ?_)
  · have hlt : r < nodes.length := by simpa using hb
    have hx := List.getElem?_eq_getElem hlt
    simp only [E14, hx, eNodeC, EVT, finish, resAll, resOf, one, astep, aop, parsFrom, Opd.ev, getS, putS, keepS, nth, setN, abin, ↓reduceIte, Nat.reduceEqDiff, reduceCtorEq, Nat.reduceAdd, writeAt, Nat.reduceLeDiff, ne_eq, backE, backM, ABox.back, Nat.reduceLT, Int.reduceLT, Int.reduceLE, Int.reduceNeg, litsOf, sepAll, fillParts, AOp.argIds, ob, og, ox]
  · have hge : nodes[r]? = none := List.getElem?_eq_none (by simpa using hb)
    simp only [E14, hge, EVT, finish, resAll, resOf, one, astep, aop, parsFrom, Opd.ev, getS, putS, keepS, nth, setN, abin, ↓reduceIte, Nat.reduceEqDiff, reduceCtorEq, Nat.reduceAdd, writeAt, Nat.reduceLeDiff, ne_eq, backE, backM, ABox.back, Nat.reduceLT, Int.reduceLT, Int.reduceLE, Int.reduceNeg, litsOf, sepAll, fillParts, AOp.argIds, ob, og, ox]
theorem k14 (nodes : List Node) (next cookie : Int) (n : Nat) (hn : n < 256) (h : nodes.length ≤ 100000) (M : AMem) : callOp (acall tab) 14 [.agg [eNodes nodes, .int .i64 next, .int .i64 cookie], .int .u8 n] M = some (.int .i64 (inoAt ⟨nodes, next, cookie⟩ n), M) :=
  callOp0 (c14 ⟨nodes, next, cookie⟩ n hn h) rfl rfl rfl rfl rfl M

/-- Are there too many steps, or bytes? -/
def greatN (l : List Step) : Bool := decide ((60 : Int) < l.length) || l.any fun s => decide ((5000 : Int) < s.data.length)
theorem loop12 {steps : List Step} (hs : steps.length ≤ 100000) {k : List K} {R : Bool → Option (AVal × AMem)}
    (hx : ∀ e, kr (acall tab) [.tmp 2] 0 k ⟨.exit 0, e, []⟩ = R false) (hr : kr (acall tab) [.tmp 2] 0 k ⟨.ret, [(2, .bool true)], []⟩ = R true) :
    ∀ (l pre : List Step), steps = pre ++ l → exK (acall tab) [.tmp 2] 0 k (.loop [0, 3] lb12_0) [(0, .slice .sh (steps.map eStep)), (3, .int .i64 pre.length)] [] = R (l.any fun s => decide ((5000 : Int) < s.data.length)) := by
  intro l
  induction l with
  | nil =>
    intro pre h
    rw [exK_loop]
    simp only [E12, lt_end h, EVT, finish, resAll, resOf, one, astep, aop, parsFrom, Opd.ev, getS, putS, keepS, nth, setN, abin, ↓reduceIte, Nat.reduceEqDiff, reduceCtorEq, Nat.reduceAdd, writeAt, Nat.reduceLeDiff, ne_eq, backE, backM, ABox.back, Nat.reduceLT, Int.reduceLT, Int.reduceLE, Int.reduceNeg, litsOf, sepAll, fillParts, AOp.argIds, ob, og, ox]
    exact hx _
  | cons n r ih =>
    intro pre h
    rw [exK_loop]
    have hlen : pre.length + 1 ≤ 100000 := by rw [h] at hs; simp at hs; omega
    have hw : IntKind.i64.wrap ((pre.length : Int) + 1) = ((pre ++ [n]).length : Int) := by rw [wrap_small (by omega) (by omega)]; exact step_len
    have hi := ih (pre ++ [n]) (by rw [h]; simp)
    simp only [List.length_append, List.length_cons, List.length_nil] at hi
    simp only [E12, lt_mid h, at_mid h, eStepC, EVT, finish, resAll, resOf, one, astep, aop, parsFrom, Opd.ev, getS, putS, keepS, nth, setN, abin, ↓reduceIte, Nat.reduceEqDiff, reduceCtorEq, Nat.reduceAdd, writeAt, Nat.reduceLeDiff, ne_eq, backE, backM, ABox.back, Nat.reduceLT, Int.reduceLT, Int.reduceLE, Int.reduceNeg, litsOf, sepAll, fillParts, AOp.argIds, ob, og, ox]
    refine fork_split (fun hb => ?_) (fun hb => ?_)
    · simp only [E12, List.any_cons, hb, Bool.true_or, EVT, finish, resAll, resOf, one, astep, aop, parsFrom, Opd.ev, getS, putS, keepS, nth, setN, abin, ↓reduceIte, Nat.reduceEqDiff, reduceCtorEq, Nat.reduceAdd, writeAt, Nat.reduceLeDiff, ne_eq, backE, backM, ABox.back, Nat.reduceLT, Int.reduceLT, Int.reduceLE, Int.reduceNeg, litsOf, sepAll, fillParts, AOp.argIds, ob, og, ox]
      exact hr
    · simp only [E12, List.any_cons, hb, Bool.false_or, hw, EVT, finish, resAll, resOf, one, astep, aop, parsFrom, Opd.ev, getS, putS, keepS, nth, setN, abin, ↓reduceIte, Nat.reduceEqDiff, reduceCtorEq, Nat.reduceAdd, writeAt, Nat.reduceLeDiff, ne_eq, backE, backM, ABox.back, Nat.reduceLT, Int.reduceLT, Int.reduceLE, Int.reduceNeg, litsOf, sepAll, fillParts, AOp.argIds, ob, og, ox]
      exact hi
theorem c12 (steps : List Step) (hs : steps.length ≤ 100000) : acall tab 12 [.slice .sh (steps.map eStep)] [] = some (.bool (greatN steps), []) := by
  refine acall_ex rfl rfl rfl ?_
  simp only [fn12, E12, EVT, finish, resAll, resOf, one, astep, aop, parsFrom, Opd.ev, getS, putS, keepS, nth, setN, abin, ↓reduceIte, Nat.reduceEqDiff, reduceCtorEq, Nat.reduceAdd, writeAt, Nat.reduceLeDiff, ne_eq, backE, backM, ABox.back, Nat.reduceLT, Int.reduceLT, Int.reduceLE, Int.reduceNeg, litsOf, sepAll, fillParts, AOp.argIds, ob, og, ox]
  unfold greatN
  refine fork_split (fun hb => ?_) (fun hb => ?_)
  · simp only [E12, hb, Bool.true_or, EVT, finish, resAll, resOf, one, astep, aop, parsFrom, Opd.ev, getS, putS, keepS, nth, setN, abin, ↓reduceIte, Nat.reduceEqDiff, reduceCtorEq, Nat.reduceAdd, writeAt, Nat.reduceLeDiff, ne_eq, backE, backM, ABox.back, Nat.reduceLT, Int.reduceLT, Int.reduceLE, Int.reduceNeg, litsOf, sepAll, fillParts, AOp.argIds, ob, og, ox]
  · simp only [E12, hb, Bool.false_or, EVT, finish, resAll, resOf, one, astep, aop, parsFrom, Opd.ev, getS, putS, keepS, nth, setN, abin, ↓reduceIte, Nat.reduceEqDiff, reduceCtorEq, Nat.reduceAdd, writeAt, Nat.reduceLeDiff, ne_eq, backE, backM, ABox.back, Nat.reduceLT, Int.reduceLT, Int.reduceLE, Int.reduceNeg, litsOf, sepAll, fillParts, AOp.argIds, ob, og, ox]
    exact loop12 (R := fun b => some (.bool b, [])) hs (fun e => by simp only [E12, EVT, finish, resAll, resOf, one, astep, aop, parsFrom, Opd.ev, getS, putS, keepS, nth, setN, abin, ↓reduceIte, Nat.reduceEqDiff, reduceCtorEq, Nat.reduceAdd, writeAt, Nat.reduceLeDiff, ne_eq, backE, backM, ABox.back, Nat.reduceLT, Int.reduceLT, Int.reduceLE, Int.reduceNeg, litsOf, sepAll, fillParts, AOp.argIds, ob, og, ox]) (by simp only [E12, EVT, finish, resAll, resOf, one, astep, aop, parsFrom, Opd.ev, getS, putS, keepS, nth, setN, abin, ↓reduceIte, Nat.reduceEqDiff, reduceCtorEq, Nat.reduceAdd, writeAt, Nat.reduceLeDiff, ne_eq, backE, backM, ABox.back, Nat.reduceLT, Int.reduceLT, Int.reduceLE, Int.reduceNeg, litsOf, sepAll, fillParts, AOp.argIds, ob, og, ox]) steps [] rfl
theorem k12 (steps : List Step) (hs : steps.length ≤ 100000) (M : AMem) : callOp (acall tab) 12 [.slice .sh (steps.map eStep)] M = some (.bool (greatN steps), M) := callOp0 (c12 steps hs) rfl rfl rfl rfl rfl M

/-- What a step makes of a tree, by the document's answer. -/
def doneN (t : Tree) (s : Step) : Tree × Int × Int :=
  if (((s.kind % 8 : Nat) : Int) == 0 || ((s.kind % 8 : Nat) : Int) == 1) = true then addN t (inoAt t s.a) (nameOf s.n) (((s.m % 2 : Nat) : Int) + 1) else
  if (((s.kind % 8 : Nat) : Int) == 2) = true then ((lnN t (inoAt t s.b) (inoAt t s.a) (nameOf s.n)).1, 0, (lnN t (inoAt t s.b) (inoAt t s.a) (nameOf s.n)).2) else
  if (((s.kind % 8 : Nat) : Int) == 3) = true then unN t (inoAt t s.a) (nameOf s.n) else
  if (((s.kind % 8 : Nat) : Int) == 4 || ((s.kind % 8 : Nat) : Int) == 5) = true then mvN t (inoAt t s.a) (nameOf s.n) (inoAt t s.b) (nameOf s.m) else
  if (((s.kind % 8 : Nat) : Int) == 6) = true then ((putN t (inoAt t s.a) s.data).1, 0, (putN t (inoAt t s.a) s.data).2) else
  ((freeN t (inoAt t s.a)).1, 0, (freeN t (inoAt t s.a)).2)
set_option maxHeartbeats 2000000 in
theorem c25 (t : Tree) (s : Step) (hz : Sz 1000 t) (hs : s.Ok) : acall tab 25 [eTree t, eStep s] [] = some (.tuple [eTree (doneN t s).1, .int .i64 (doneN t s).2.1, .int .i64 (doneN t s).2.2], []) := by
  obtain ⟨nodes, next, cookie⟩ := t
  obtain ⟨kind, a, b, n, m, data⟩ := s
  obtain ⟨h1, h2, h3, h4, h5, h6⟩ := hs
  simp only at h1 h2 h3 h4 h5 h6
  have ht : Small ⟨nodes, next, cookie⟩ := hz.small (by omega)
  have hn : nodes.length ≤ 100000 := ht.nodes
  have l1 := nameOf_len n
  have l2 := nameOf_len m
  have hm8 : (kind : Int).tmod 8 = ((kind % 8 : Nat) : Int) := by rw [Int.tmod_eq_emod_of_nonneg (by omega)]; rfl
  have hm2 : (m : Int).tmod 2 = ((m % 2 : Nat) : Int) := by rw [Int.tmod_eq_emod_of_nonneg (by omega)]; rfl
  have hw : IntKind.i64.wrap (m : Int) = m := wrap_small (by omega) (by omega)
  have hw2 : IntKind.i64.wrap (((m % 2 : Nat) : Int) + 1) = ((m % 2 : Nat) : Int) + 1 := wrap_small (by omega) (by omega)
  have e8 : ((8 : Int) = 0) = False := by simp
  have e2 : ((2 : Int) = 0) = False := by simp
  refine acall_ex rfl rfl rfl ?_
  simp only [fn25, E25, eTree, eTreeC, eStep, eStepC, k14, k16, hn, h2, h3, h4, h5, hm8, e8, EVT, finish, resAll, resOf, one, astep, aop, parsFrom, Opd.ev, getS, putS, keepS, nth, setN, abin, ↓reduceIte, Nat.reduceEqDiff, reduceCtorEq, Nat.reduceAdd, writeAt, Nat.reduceLeDiff, ne_eq, backE, backM, ABox.back, Nat.reduceLT, Int.reduceLT, Int.reduceLE, Int.reduceNeg, litsOf, sepAll, fillParts, AOp.argIds, ob, og, ox]
  repeat' (first | (refine fork_split (fun hb => ?_) (fun hb => ?_) <;> simp only [hb, E25, k14, k16, hn, h2, h3, h4, h5, hm8, hm2, e8, e2, hw, hw2, k63, k64, k65, k66, k67, k68, hz, ht, l1, l2, h6, eTree, eTreeC, EVT, finish, resAll, resOf, one, astep, aop, parsFrom, Opd.ev, getS, putS, keepS, nth, setN, abin, ↓reduceIte, Nat.reduceEqDiff, reduceCtorEq, Nat.reduceAdd, writeAt, Nat.reduceLeDiff, ne_eq, backE, backM, ABox.back, Nat.reduceLT, Int.reduceLT, Int.reduceLE, Int.reduceNeg, litsOf, sepAll, fillParts, AOp.argIds, ob, og, ox]) | (refine guard_split (fun hb => ?_) (fun hb => ?_) <;> simp only [hb, E25, k14, k16, hn, h2, h3, h4, h5, hm8, hm2, e8, e2, hw, hw2, k63, k64, k65, k66, k67, k68, hz, ht, l1, l2, h6, eTree, eTreeC, EVT, finish, resAll, resOf, one, astep, aop, parsFrom, Opd.ev, getS, putS, keepS, nth, setN, abin, ↓reduceIte, Nat.reduceEqDiff, reduceCtorEq, Nat.reduceAdd, writeAt, Nat.reduceLeDiff, ne_eq, backE, backM, ABox.back, Nat.reduceLT, Int.reduceLT, Int.reduceLE, Int.reduceNeg, litsOf, sepAll, fillParts, AOp.argIds, ob, og, ox]) | (refine opK_pick (fun hb => ?_) (fun hb => ?_) <;> simp only [hb, E25, k14, k16, hn, h2, h3, h4, h5, hm8, hm2, e8, e2, hw, hw2, k63, k64, k65, k66, k67, k68, hz, ht, l1, l2, h6, eTree, eTreeC, EVT, finish, resAll, resOf, one, astep, aop, parsFrom, Opd.ev, getS, putS, keepS, nth, setN, abin, ↓reduceIte, Nat.reduceEqDiff, reduceCtorEq, Nat.reduceAdd, writeAt, Nat.reduceLeDiff, ne_eq, backE, backM, ABox.back, Nat.reduceLT, Int.reduceLT, Int.reduceLE, Int.reduceNeg, litsOf, sepAll, fillParts, AOp.argIds, ob, og, ox]))
  all_goals (simp_all only [doneN, eTree, eTreeC, Bool.and_true, Bool.true_and, Bool.and_false, Bool.false_and, Bool.or_true, Bool.true_or, Bool.or_false, Bool.false_or, Bool.not_true, Bool.not_false, Bool.and_self, Bool.or_self, ↓reduceIte, Bool.false_eq_true, reduceCtorEq, beq_self_eq_true, bne_self_eq_false]; done)
end Go.Proofs.YtnapockikkbkcaaGreat
/-
  What the laws' own functions do, over plain data: the tree of steps. Own work.
-/
namespace Go.Proofs.YtnapockikkbkcaaGreat
open Go Go.Abs
attribute [local irreducible] exK opsK opK gK forkK kr acall callOp owhen obind

theorem insL_len (e : Ent) : ∀ (l out : List Ent) (d : Bool), (insL e l out d).1.length + (if (insL e l out d).2 = true then 0 else 1) ≤ out.length + l.length + (if d = true then 0 else 1)
  | [], out, d => by simp only [insL, List.length_nil, Nat.add_zero]; exact Nat.le_refl _
  | m :: r, out, d => by
    rw [insL]
    refine Nat.le_trans (insL_len e r _ _) ?_
    cases d <;> cases h1 : gtB m.name e.name <;> simp <;> omega
theorem insE_len (l : List Ent) (e : Ent) : (insE l e).length ≤ l.length + 1 := by
  have := insL_len e l [] false
  unfold insE
  split at this <;> simp_all
theorem Sz.entered {b : Nat} {t : Tree} (h : Sz b t) (ino : Int) (s : Bytes) (of : Int) : Sz (b + 1) (enteredN t ino s of) :=
  h.with (n := { nodeN t.nodes ino with ents := insE (nodeN t.nodes ino).ents ⟨s, of, t.cookie⟩ }) (Nat.le_trans (insE_len _ _) (Nat.succ_le_succ (h.find ino).1)) (h.find ino).2 t.next (w64 (t.cookie + 1))
theorem Sz.add {b : Nat} {t : Tree} (h : Sz b t) (ino : Int) (s : Bytes) (kind : Int) : Sz (b + 5) (addN t ino s kind).1 := by
  unfold addN
  split
  · exact h.up (by omega)
  · split
    · exact h.up (by omega)
    · split
      · exact h.up (by omega)
      · exact ((h.with (n := ⟨t.next, kind, 1, [], [], if (kind == 2) = true then ino else 0⟩) (by simp) (by simp) (w64 (t.next + 1)) t.cookie).entered ino s t.next).up (by omega)
theorem Sz.ln {b : Nat} {t : Tree} (h : Sz b t) (ino to : Int) (s : Bytes) : Sz (b + 5) (lnN t ino to s).1 := by
  unfold lnN
  split
  · exact h.up (by omega)
  · split
    · exact h.up (by omega)
    · split
      · exact h.up (by omega)
      · exact ((h.with (n := { nodeN t.nodes ino with links := w64 ((nodeN t.nodes ino).links + 1) }) (Nat.le_succ_of_le (h.find ino).1) (h.find ino).2 t.next t.cookie).entered to s ino).up (by omega)
theorem Sz.un {b : Nat} {t : Tree} (h : Sz b t) (ino : Int) (s : Bytes) : Sz (b + 5) (unN t ino s).1 := by
  unfold unN
  split
  · exact h.up (by omega)
  · split
    · exact h.up (by omega)
    · exact ((h.left ino s t.next t.cookie).unnamed _ t.next t.cookie).up (by omega)
theorem Sz.put {b : Nat} {t : Tree} (h : Sz b t) (ino : Int) (data : Bytes) (hd : data.length ≤ 100000) : Sz (b + 5) (putN t ino data).1 := by
  unfold putN
  split
  · exact h.up (by omega)
  · split
    · exact h.up (by omega)
    · split
      · exact h.up (by omega)
      · exact (h.with (n := { nodeN t.nodes ino with data := data }) (Nat.le_succ_of_le (h.find ino).1) hd t.next t.cookie).up (by omega)
theorem Sz.free {b : Nat} {t : Tree} (h : Sz b t) (ino : Int) : Sz (b + 5) (freeN t ino).1 := by
  unfold freeN
  split
  · exact h.up (by omega)
  · split
    · exact h.up (by omega)
    · split
      · exact h.up (by omega)
      · exact (h.without ino t.next t.cookie).up (by omega)
theorem Sz.move {b : Nat} {t : Tree} (h : Sz b t) (frm : Int) (s : Bytes) (to : Int) (nm : Bytes) (ino y : Int) : Sz (b + 5) (moveN t frm s to nm ino y) := by
  unfold moveN
  have z1 := h.left frm s t.next t.cookie
  have z3 := (z1.left to nm t.next t.cookie).unnamed y t.next t.cookie
  have z : Sz (b + 3) ⟨if (y != 0) = true then unnamedN (leftN (leftN t.nodes frm s) to nm) y else leftN t.nodes frm s, t.next, t.cookie⟩ := by
    split
    · exact z3
    · exact z1.up (by omega)
  split
  · exact ((z.with (n := { nodeN t.nodes ino with up := to }) (Nat.le_trans (h.find ino).1 (by omega)) (h.find ino).2 t.next t.cookie).entered to nm ino).up (by omega)
  · exact (z.entered to nm ino).up (by omega)
theorem Sz.mv {b : Nat} {t : Tree} (h : Sz b t) (frm : Int) (s : Bytes) (to : Int) (nm : Bytes) : Sz (b + 5) (mvN t frm s to nm).1 := by
  unfold mvN
  repeat' split
  all_goals first
    | exact h.up (by omega)
    | exact h.move frm s to nm _ _
theorem Sz.done {b : Nat} {t : Tree} (h : Sz b t) (s : Step) (hs : s.Ok) : Sz (b + 5) (doneN t s).1 := by
  unfold doneN
  repeat' split
  all_goals first
    | exact h.add _ _ _
    | exact h.ln _ _ _
    | exact h.un _ _
    | exact h.mv _ _ _ _
    | exact h.put _ _ hs.data
    | exact h.free _

/-- The tree of steps. -/
def madeN (l : List Step) : Tree := l.foldl (fun t s => (doneN t s).1) newN
theorem Sz.newN : Sz 1 newN := ⟨by simp [Go.Proofs.YtnapockikkbkcaaGreat.newN], fun n hn => by simp [Go.Proofs.YtnapockikkbkcaaGreat.newN] at hn; subst hn; simp, fun n hn => by simp [Go.Proofs.YtnapockikkbkcaaGreat.newN] at hn; subst hn; simp⟩
theorem k25 (nodes : List Node) (next cookie : Int) (s : Step) (hz : Sz 1000 ⟨nodes, next, cookie⟩) (hs : s.Ok) (M : AMem) : callOp (acall tab) 25 [.agg [eNodes nodes, .int .i64 next, .int .i64 cookie], .agg (eStepC s)] M =
    some (.tuple [eTree (doneN ⟨nodes, next, cookie⟩ s).1, .int .i64 (doneN ⟨nodes, next, cookie⟩ s).2.1, .int .i64 (doneN ⟨nodes, next, cookie⟩ s).2.2], M) := callOp0 (c25 ⟨nodes, next, cookie⟩ s hz hs) rfl rfl rfl rfl rfl M

theorem loop13 {steps : List Step} (hl : steps.length ≤ 100) (ho : ∀ s, s ∈ steps → s.Ok) {k : List K} {R : Tree → Option (AVal × AMem)}
    (hx : ∀ t v q, kr (acall tab) [.cellA 2 3] 0 k ⟨.exit 0, [(0, .slice .sh (steps.map eStep)), (2, .ptr 0 0), (3, .ptr 1 0), (4, v), (12, q)], [.cells zT, .cells (eTreeC t)]⟩ = R t) :
    ∀ (l pre : List Step) (t : Tree), steps = pre ++ l → Sz (1 + 5 * pre.length) t → exK (acall tab) [.cellA 2 3] 0 k (.loop [0, 2, 3, 4] lb13_0) [(0, .slice .sh (steps.map eStep)), (2, .ptr 0 0), (3, .ptr 1 0), (4, .int .i64 pre.length)] [.cells zT, .cells (eTreeC t)] = R (l.foldl (fun t s => (doneN t s).1) t) := by
  intro l
  induction l with
  | nil =>
    intro pre t h hz
    rw [exK_loop]
    simp only [E13, lt_end h, EVT, finish, resAll, resOf, one, astep, aop, parsFrom, Opd.ev, getS, putS, keepS, nth, setN, abin, ↓reduceIte, Nat.reduceEqDiff, reduceCtorEq, Nat.reduceAdd, writeAt, Nat.reduceLeDiff, ne_eq, backE, backM, ABox.back, Nat.reduceLT, Int.reduceLT, Int.reduceLE, Int.reduceNeg, litsOf, sepAll, fillParts, AOp.argIds, ob, og, ox]
    exact hx _ _ _
  | cons n r ih =>
    intro pre t h hz
    have hlen : pre.length + 1 ≤ 100 := by rw [h] at hl; simp at hl; omega
    have hw : IntKind.i64.wrap ((pre.length : Int) + 1) = ((pre ++ [n]).length : Int) := by rw [wrap_small (by omega) (by omega)]; exact step_len
    have hok : n.Ok := ho n (by rw [h]; simp)
    have hd : Sz (1 + 5 * (pre ++ [n]).length) (doneN t n).1 := (hz.done n hok).up (by simp; omega)
    have hi := ih (pre ++ [n]) (doneN t n).1 (by rw [h]; simp) hd
    have hz' : Sz 1000 ⟨t.nodes, t.next, t.cookie⟩ := hz.up (by omega)
    have ht4 : List.take 6 (eStepC n) = eStepC n := rfl
    have hsh : List.map AVal.shut (eStepC n) = eStepC n := rfl
    have hid : List.flatMap AVal.ids1 (eStepC n) = [] := rfl
    simp only [List.length_append, List.length_cons, List.length_nil] at hi
    rw [exK_loop, List.foldl_cons]
    simp only [E13, lt_mid h, at_mid h, eTreeC, zT, k25, hz', hok, ht4, hsh, hid, eTree, hw, EVT, finish, resAll, resOf, one, astep, aop, parsFrom, Opd.ev, getS, putS, keepS, nth, setN, abin, ↓reduceIte, Nat.reduceEqDiff, reduceCtorEq, Nat.reduceAdd, writeAt, Nat.reduceLeDiff, ne_eq, backE, backM, ABox.back, Nat.reduceLT, Int.reduceLT, Int.reduceLE, Int.reduceNeg, litsOf, sepAll, fillParts, AOp.argIds, ob, og, ox]
    exact hi
theorem c13 (steps : List Step) (hl : steps.length ≤ 100) (ho : ∀ s, s ∈ steps → s.Ok) : acall tab 13 [.slice .sh (steps.map eStep)] [] = some (eTree (madeN steps), []) := by
  refine acall_ex rfl rfl rfl ?_
  simp only [fn13, E13, k39, eTree, eTreeC, EVT, finish, resAll, resOf, one, astep, aop, parsFrom, Opd.ev, getS, putS, keepS, nth, setN, abin, ↓reduceIte, Nat.reduceEqDiff, reduceCtorEq, Nat.reduceAdd, writeAt, Nat.reduceLeDiff, ne_eq, backE, backM, ABox.back, Nat.reduceLT, Int.reduceLT, Int.reduceLE, Int.reduceNeg, litsOf, sepAll, fillParts, AOp.argIds, ob, og, ox]
  exact loop13 (R := fun t => some (eTree t, [])) hl ho (fun t v q => by simp only [E13, zT, eTree, eTreeC, EVT, finish, resAll, resOf, one, astep, aop, parsFrom, Opd.ev, getS, putS, keepS, nth, setN, abin, ↓reduceIte, Nat.reduceEqDiff, reduceCtorEq, Nat.reduceAdd, writeAt, Nat.reduceLeDiff, ne_eq, backE, backM, ABox.back, Nat.reduceLT, Int.reduceLT, Int.reduceLE, Int.reduceNeg, litsOf, sepAll, fillParts, AOp.argIds, ob, og, ox]) steps [] newN rfl Sz.newN
theorem madeN_sz (steps : List Step) (ho : ∀ s, s ∈ steps → s.Ok) : Sz (1 + 5 * steps.length) (madeN steps) := by
  have key : ∀ (l : List Step) (b : Nat) (t : Tree), (∀ s, s ∈ l → s.Ok) → Sz b t → Sz (b + 5 * l.length) (l.foldl (fun t s => (doneN t s).1) t) := by
    intro l
    induction l with
    | nil => intro b t _ h; exact h
    | cons s r ih =>
      intro b t ho h
      exact (ih (b + 5) _ (fun x hx => ho x (List.mem_cons_of_mem _ hx)) (h.done s (ho s (List.mem_cons_self ..)))).up (by simp; omega)
  exact key steps 1 newN ho Sz.newN
theorem k13 (steps : List Step) (hl : steps.length ≤ 100) (ho : ∀ s, s ∈ steps → s.Ok) (M : AMem) : callOp (acall tab) 13 [.slice .sh (steps.map eStep)] M = some (eTree (madeN steps), M) := callOp0 (c13 steps hl ho) rfl rfl rfl rfl rfl M

/-- A directory at, or below, another one (the law's own). -/
def lbelowGo (nodes : List Node) (of : Int) : Nat → Int → Bool
  | 0, _ => false
  | m + 1, ino => if (ino == of) = true then true else if (!(find nodes ino).isSome || ino == 1) = true then false else lbelowGo nodes of m (upOf nodes ino)
def lbelowN (nodes : List Node) (ino of : Int) : Bool := lbelowGo nodes of (nodes.length + 1) ino
theorem loop23 {nodes : List Node} {next cookie of : Int} (ht : nodes.length ≤ 100000) {k : List K} {R : Bool → Option (AVal × AMem)}
    (hx : ∀ e, kr (acall tab) [.tmp 6] 0 k ⟨.exit 0, e, [.cells (eTreeC ⟨nodes, next, cookie⟩)]⟩ = R false) (hr : ∀ b M, kr (acall tab) [.tmp 6] 0 k ⟨.ret, [(6, .bool b)], M⟩ = R b) :
    ∀ (m : Nat) (ino : Int) (d : Nat), d + m = nodes.length + 1 → exK (acall tab) [.tmp 6] 0 k (.loop [1, 2, 3, 7] lb23_0) [(1, .int .i64 ino), (2, .int .i64 of), (3, .ptr 0 0), (7, .int .i64 d)] [.cells (eTreeC ⟨nodes, next, cookie⟩)] = R (lbelowGo nodes of m ino) := by
  intro m
  induction m with
  | zero =>
    intro ino d hd
    rw [exK_loop]
    have hd' : ((d : Int) ≤ (nodes.length : Int)) = False := by simp; omega
    simp only [E23, eTreeC, hd', EVT, finish, resAll, resOf, one, astep, aop, parsFrom, Opd.ev, getS, putS, keepS, nth, setN, abin, ↓reduceIte, Nat.reduceEqDiff, reduceCtorEq, Nat.reduceAdd, writeAt, Nat.reduceLeDiff, ne_eq, backE, backM, ABox.back, Nat.reduceLT, Int.reduceLT, Int.reduceLE, Int.reduceNeg, litsOf, sepAll, fillParts, AOp.argIds, ob, og, ox]
    exact hx _
  | succ m ih =>
    intro ino d hd
    rw [exK_loop]
    have hd' : ((d : Int) ≤ (nodes.length : Int)) = True := by simp; omega
    have hw : IntKind.i64.wrap ((d : Int) + 1) = ((d + 1 : Nat) : Int) := by rw [wrap_small (by omega) (by omega)]; rfl
    have hi := fun ino => ih ino (d + 1) (by omega)
    simp only [eTreeC] at hi
    rw [lbelowGo]
    simp only [E23, eTreeC, hd', EVT, finish, resAll, resOf, one, astep, aop, parsFrom, Opd.ev, getS, putS, keepS, nth, setN, abin, ↓reduceIte, Nat.reduceEqDiff, reduceCtorEq, Nat.reduceAdd, writeAt, Nat.reduceLeDiff, ne_eq, backE, backM, ABox.back, Nat.reduceLT, Int.reduceLT, Int.reduceLE, Int.reduceNeg, litsOf, sepAll, fillParts, AOp.argIds, ob, og, ox]
    refine fork_split (fun hb => ?_) (fun hb => ?_)
    · simp only [E23, hb, EVT, finish, resAll, resOf, one, astep, aop, parsFrom, Opd.ev, getS, putS, keepS, nth, setN, abin, ↓reduceIte, Nat.reduceEqDiff, reduceCtorEq, Nat.reduceAdd, writeAt, Nat.reduceLeDiff, ne_eq, backE, backM, ABox.back, Nat.reduceLT, Int.reduceLT, Int.reduceLE, Int.reduceNeg, litsOf, sepAll, fillParts, AOp.argIds, ob, og, ox]
      exact hr _ _
    · simp only [E23, hb, hw, k56, ht, eNode, eNodeC, EVT, finish, resAll, resOf, one, astep, aop, parsFrom, Opd.ev, getS, putS, keepS, nth, setN, abin, ↓reduceIte, Nat.reduceEqDiff, reduceCtorEq, Nat.reduceAdd, writeAt, Nat.reduceLeDiff, ne_eq, backE, backM, ABox.back, Nat.reduceLT, Int.reduceLT, Int.reduceLE, Int.reduceNeg, litsOf, sepAll, fillParts, AOp.argIds, ob, og, ox]
      refine guard_split (fun hb1 => ?_) (fun hb1 => ?_)
      · simp only [E23, hb1, hw, EVT, finish, resAll, resOf, one, astep, aop, parsFrom, Opd.ev, getS, putS, keepS, nth, setN, abin, ↓reduceIte, Nat.reduceEqDiff, reduceCtorEq, Nat.reduceAdd, writeAt, Nat.reduceLeDiff, ne_eq, backE, backM, ABox.back, Nat.reduceLT, Int.reduceLT, Int.reduceLE, Int.reduceNeg, litsOf, sepAll, fillParts, AOp.argIds, ob, og, ox]
        refine fork_split (fun hb2 => ?_) (fun hb2 => ?_)
        · simp only [E23, hb2, hb1, Bool.or_true, Bool.false_eq_true, EVT, finish, resAll, resOf, one, astep, aop, parsFrom, Opd.ev, getS, putS, keepS, nth, setN, abin, ↓reduceIte, Nat.reduceEqDiff, reduceCtorEq, Nat.reduceAdd, writeAt, Nat.reduceLeDiff, ne_eq, backE, backM, ABox.back, Nat.reduceLT, Int.reduceLT, Int.reduceLE, Int.reduceNeg, litsOf, sepAll, fillParts, AOp.argIds, ob, og, ox]
          exact hr _ _
        · simp only [E23, hb2, hb1, hw, Bool.or_false, Bool.false_eq_true, EVT, finish, resAll, resOf, one, astep, aop, parsFrom, Opd.ev, getS, putS, keepS, nth, setN, abin, ↓reduceIte, Nat.reduceEqDiff, reduceCtorEq, Nat.reduceAdd, writeAt, Nat.reduceLeDiff, ne_eq, backE, backM, ABox.back, Nat.reduceLT, Int.reduceLT, Int.reduceLE, Int.reduceNeg, litsOf, sepAll, fillParts, AOp.argIds, ob, og, ox]
          exact hi _
      · simp only [E23, hb1, hw, Bool.not_false, Bool.true_or, Bool.false_eq_true, EVT, finish, resAll, resOf, one, astep, aop, parsFrom, Opd.ev, getS, putS, keepS, nth, setN, abin, ↓reduceIte, Nat.reduceEqDiff, reduceCtorEq, Nat.reduceAdd, writeAt, Nat.reduceLeDiff, ne_eq, backE, backM, ABox.back, Nat.reduceLT, Int.reduceLT, Int.reduceLE, Int.reduceNeg, litsOf, sepAll, fillParts, AOp.argIds, ob, og, ox]
        exact hr _ _
theorem c23 (t : Tree) (ino of : Int) (ht : t.nodes.length ≤ 100000) : acall tab 23 [eTree t, .int .i64 ino, .int .i64 of] [] = some (.bool (lbelowN t.nodes ino of), []) := by
  obtain ⟨nodes, next, cookie⟩ := t
  have ht : nodes.length ≤ 100000 := ht
  refine acall_ex rfl rfl rfl ?_
  simp only [fn23, E23, eTree, EVT, finish, resAll, resOf, one, astep, aop, parsFrom, Opd.ev, getS, putS, keepS, nth, setN, abin, ↓reduceIte, Nat.reduceEqDiff, reduceCtorEq, Nat.reduceAdd, writeAt, Nat.reduceLeDiff, ne_eq, backE, backM, ABox.back, Nat.reduceLT, Int.reduceLT, Int.reduceLE, Int.reduceNeg, litsOf, sepAll, fillParts, AOp.argIds, ob, og, ox]
  exact loop23 (R := fun b => some (.bool b, [])) ht (fun e => by simp only [E23, EVT, finish, resAll, resOf, one, astep, aop, parsFrom, Opd.ev, getS, putS, keepS, nth, setN, abin, ↓reduceIte, Nat.reduceEqDiff, reduceCtorEq, Nat.reduceAdd, writeAt, Nat.reduceLeDiff, ne_eq, backE, backM, ABox.back, Nat.reduceLT, Int.reduceLT, Int.reduceLE, Int.reduceNeg, litsOf, sepAll, fillParts, AOp.argIds, ob, og, ox]) (fun b M => by simp only [E23, EVT, finish, resAll, resOf, one, astep, aop, parsFrom, Opd.ev, getS, putS, keepS, nth, setN, abin, ↓reduceIte, Nat.reduceEqDiff, reduceCtorEq, Nat.reduceAdd, writeAt, Nat.reduceLeDiff, ne_eq, backE, backM, ABox.back, Nat.reduceLT, Int.reduceLT, Int.reduceLE, Int.reduceNeg, litsOf, sepAll, fillParts, AOp.argIds, ob, og, ox]) (nodes.length + 1) ino 0 (by omega)
theorem k23 (nodes : List Node) (next cookie ino of : Int) (h : nodes.length ≤ 100000) (M : AMem) : callOp (acall tab) 23 [.agg [eNodes nodes, .int .i64 next, .int .i64 cookie], .int .i64 ino, .int .i64 of] M = some (.bool (lbelowN nodes ino of), M) :=
  callOp0 (c23 ⟨nodes, next, cookie⟩ ino of h) rfl rfl rfl rfl rfl M
end Go.Proofs.YtnapockikkbkcaaGreat
/-
  What the program's functions do, over plain data: finding nodes. Own work.
-/
namespace Go.Proofs.YtnapockikkbkcaaGreat
open Go Go.Abs
attribute [local irreducible] exK opsK opK gK forkK kr acall callOp owhen obind

theorem tkN (n : Node) : List.take 6 (eNodeC n) = eNodeC n := rfl
theorem shN (n : Node) : List.map AVal.shut (eNodeC n) = eNodeC n := rfl
theorem tkE (n : Ent) : List.take 3 (eEntC n) = eEntC n := rfl
theorem shE (n : Ent) : List.map AVal.shut (eEntC n) = eEntC n := rfl
theorem c92 (a : Int) : acall tab 92 [.int .i64 a] [] = some (.bool false, []) := by
  refine acall_ex rfl rfl rfl ?_
  simp only [fn92, E92, bne_self_eq_false, EVT, finish, resAll, resOf, one, astep, aop, parsFrom, Opd.ev, getS, putS, keepS, nth, setN, abin, ↓reduceIte, Nat.reduceEqDiff, reduceCtorEq, Nat.reduceAdd, writeAt, Nat.reduceLeDiff, ne_eq, backE, backM, ABox.back, Nat.reduceLT, Int.reduceLT, Int.reduceLE, Int.reduceNeg, litsOf, sepAll, fillParts, AOp.argIds, ob, og, ox]
theorem k92 (a : Int) (M : AMem) : callOp (acall tab) 92 [.int .i64 a] M = some (.bool false, M) := callOp0 (c92 a) rfl rfl rfl rfl rfl M
def cmpI (a b : Int) : Int := if decide (a < b) = true then -1 else if decide (b < a) = true then 1 else 0
theorem c62 (a b : Int) : acall tab 62 [.int .i64 a, .int .i64 b] [] = some (.int .i64 (cmpI a b), []) := by
  refine acall_ex rfl rfl rfl ?_
  simp only [fn62, E62, k92, EVT, finish, resAll, resOf, one, astep, aop, parsFrom, Opd.ev, getS, putS, keepS, nth, setN, abin, ↓reduceIte, Nat.reduceEqDiff, reduceCtorEq, Nat.reduceAdd, writeAt, Nat.reduceLeDiff, ne_eq, backE, backM, ABox.back, Nat.reduceLT, Int.reduceLT, Int.reduceLE, Int.reduceNeg, litsOf, sepAll, fillParts, AOp.argIds, ob, og, ox]
  repeat' (first | (refine fork_split (fun hb => ?_) (fun hb => ?_) <;> simp only [hb, E62, EVT, finish, resAll, resOf, one, astep, aop, parsFrom, Opd.ev, getS, putS, keepS, nth, setN, abin, ↓reduceIte, Nat.reduceEqDiff, reduceCtorEq, Nat.reduceAdd, writeAt, Nat.reduceLeDiff, ne_eq, backE, backM, ABox.back, Nat.reduceLT, Int.reduceLT, Int.reduceLE, Int.reduceNeg, litsOf, sepAll, fillParts, AOp.argIds, ob, og, ox]) | (refine guard_split (fun hb => ?_) (fun hb => ?_) <;> simp only [hb, E62, EVT, finish, resAll, resOf, one, astep, aop, parsFrom, Opd.ev, getS, putS, keepS, nth, setN, abin, ↓reduceIte, Nat.reduceEqDiff, reduceCtorEq, Nat.reduceAdd, writeAt, Nat.reduceLeDiff, ne_eq, backE, backM, ABox.back, Nat.reduceLT, Int.reduceLT, Int.reduceLE, Int.reduceNeg, litsOf, sepAll, fillParts, AOp.argIds, ob, og, ox]) | (refine opK_pick (fun hb => ?_) (fun hb => ?_) <;> simp only [hb, E62, EVT, finish, resAll, resOf, one, astep, aop, parsFrom, Opd.ev, getS, putS, keepS, nth, setN, abin, ↓reduceIte, Nat.reduceEqDiff, reduceCtorEq, Nat.reduceAdd, writeAt, Nat.reduceLeDiff, ne_eq, backE, backM, ABox.back, Nat.reduceLT, Int.reduceLT, Int.reduceLE, Int.reduceNeg, litsOf, sepAll, fillParts, AOp.argIds, ob, og, ox]))
  all_goals (simp_all only [cmpI, Bool.and_true, Bool.true_and, Bool.and_false, Bool.false_and, Bool.or_true, Bool.true_or, Bool.or_false, Bool.false_or, Bool.not_true, Bool.not_false, Bool.and_self, Bool.or_self, ↓reduceIte, Bool.false_eq_true, reduceCtorEq, beq_self_eq_true, bne_self_eq_false]; done)
theorem k62 (a b : Int) (M : AMem) : callOp (acall tab) 62 [.int .i64 a, .int .i64 b] M = some (.int .i64 (cmpI a b), M) := callOp0 (c62 a b) rfl rfl rfl rfl rfl M
theorem cmpI_lt (a b : Int) : (cmpI a b < 0) = (a < b) := by
  unfold cmpI
  by_cases h1 : a < b
  · simp [h1]
  · by_cases h2 : b < a <;> simp [h1, h2]
theorem cmpI_eq (a b : Int) : (cmpI a b == 0) = (a == b) := by
  unfold cmpI
  by_cases h1 : a < b
  · have : ¬ a = b := by omega
    simp [h1, this]
  · by_cases h2 : b < a
    · have : ¬ a = b := by omega
      simp [h1, h2, this]
    · have : a = b := by omega
      simp [this]
theorem c112 (n : Node) (ino : Int) : acall tab 112 [eNode n, .int .i64 ino] [] = some (.int .i64 (cmpI n.ino ino), []) := by
  refine acall_ex rfl rfl rfl ?_
  simp only [fn112, E112, eNode, eNodeC, k62, EVT, finish, resAll, resOf, one, astep, aop, parsFrom, Opd.ev, getS, putS, keepS, nth, setN, abin, ↓reduceIte, Nat.reduceEqDiff, reduceCtorEq, Nat.reduceAdd, writeAt, Nat.reduceLeDiff, ne_eq, backE, backM, ABox.back, Nat.reduceLT, Int.reduceLT, Int.reduceLE, Int.reduceNeg, litsOf, sepAll, fillParts, AOp.argIds, ob, og, ox]
theorem k112 (n : Node) (ino : Int) (M : AMem) : callOp (acall tab) 112 [.agg (eNodeC n), .int .i64 ino] M = some (.int .i64 (cmpI n.ino ino), M) := callOp0 (c112 n ino) rfl rfl rfl rfl rfl M

/-- How many numbers are smaller: right where they ascend. -/
structure LowI (nodes : List Node) (ino : Int) (b : Nat) : Prop where
  le : b ≤ nodes.length
  lt : ∀ h n, nodes[h]? = some n → (n.ino < ino ↔ h < b)
theorem mid_eq (i j : Nat) (hj : j ≤ 100000) (hi : i ≤ j) : IntKind.i64.wrap ((i : Int) + (j : Int)) = ((i + j : Nat) : Int) ∧ IntKind.u64.wrap ((i + j : Nat) : Int) = ((i + j : Nat) : Int) ∧
    (((i + j : Nat) : Int)).fdiv (2 ^ min (Int.toNat 1) IntKind.u64.bits) = (((i + j) / 2 : Nat) : Int) ∧ IntKind.i64.wrap (((i + j) / 2 : Nat) : Int) = (((i + j) / 2 : Nat) : Int) ∧ IntKind.i64.wrap ((((i + j) / 2 : Nat) : Int) + 1) = (((i + j) / 2 + 1 : Nat) : Int) := by
  refine ⟨?_, ?_, ?_, ?_, ?_⟩
  · rw [wrap_small (by omega) (by omega)]; rfl
  · have : IntKind.u64.wrap ((i + j : Nat) : Int) = ((i + j : Nat) : Int) % 18446744073709551616 := by simp [IntKind.wrap, IntKind.bits, IntKind.signed]
    rw [this]; omega
  · have : (2 : Int) ^ min (Int.toNat 1) IntKind.u64.bits = 2 := by decide
    rw [this, Int.fdiv_eq_ediv_of_nonneg _ (by omega)]; omega
  · exact wrap_small (by omega) (by omega)
  · rw [wrap_small (by omega) (by omega)]; rfl
theorem loop111 {nodes : List Node} {ino : Int} {b : Nat} (hb : LowI nodes ino b) (hn : nodes.length ≤ 100000) {k : List K} {r : Option (AVal × AMem)}
    (hx : ∀ v q, kr (acall tab) [.tmp 6, .tmp 7] 0 k ⟨.exit 0, [(0, eNodes nodes), (1, .int .i64 ino), (2, .func 112 []), (8, .int .i64 nodes.length), (9, .int .i64 b), (10, v), (17, q)], []⟩ = r) :
    ∀ (f i j : Nat), j - i ≤ f → i ≤ b → b ≤ j → j ≤ nodes.length → exK (acall tab) [.tmp 6, .tmp 7] 0 k (.loop [0, 1, 2, 8, 9, 10] lb111_0) [(0, eNodes nodes), (1, .int .i64 ino), (2, .func 112 []), (8, .int .i64 nodes.length), (9, .int .i64 i), (10, .int .i64 j)] [] = r := by
  intro f
  induction f with
  | zero =>
    intro i j h1 h2 h3 h4
    obtain rfl : i = b := by omega
    rw [exK_loop]
    have hlt : ((i : Int) < (j : Int)) = False := by simp; omega
    simp only [E111, hlt, EVT, finish, resAll, resOf, one, astep, aop, parsFrom, Opd.ev, getS, putS, keepS, nth, setN, abin, ↓reduceIte, Nat.reduceEqDiff, reduceCtorEq, Nat.reduceAdd, writeAt, Nat.reduceLeDiff, ne_eq, backE, backM, ABox.back, Nat.reduceLT, Int.reduceLT, Int.reduceLE, Int.reduceNeg, litsOf, sepAll, fillParts, AOp.argIds, ob, og, ox]
    exact hx _ _
  | succ f ih =>
    intro i j h1 h2 h3 h4
    rw [exK_loop]
    by_cases hij : i < j
    · have hlt : ((i : Int) < (j : Int)) = True := by simp; omega
      obtain ⟨m1, m2, m3, m4, m5⟩ := mid_eq i j (by omega) (by omega)
      have hmid : (i + j) / 2 < nodes.length := by omega
      have hx := List.getElem?_eq_getElem hmid
      have hl := hb.lt _ _ hx
      simp only [E111, hlt, m1, m2, m3, m4, hx, k112, cmpI_lt, tkN, shN, EVT, finish, resAll, resOf, one, astep, aop, parsFrom, Opd.ev, getS, putS, keepS, nth, setN, abin, ↓reduceIte, Nat.reduceEqDiff, reduceCtorEq, Nat.reduceAdd, writeAt, Nat.reduceLeDiff, ne_eq, backE, backM, ABox.back, Nat.reduceLT, Int.reduceLT, Int.reduceLE, Int.reduceNeg, litsOf, sepAll, fillParts, AOp.argIds, ob, og, ox]
      refine fork_split (fun hq => ?_) (fun hq => ?_)
      · have hq : nodes[(i + j) / 2].ino < ino := by simpa using hq
        simp only [E111, m5, EVT, finish, resAll, resOf, one, astep, aop, parsFrom, Opd.ev, getS, putS, keepS, nth, setN, abin, ↓reduceIte, Nat.reduceEqDiff, reduceCtorEq, Nat.reduceAdd, writeAt, Nat.reduceLeDiff, ne_eq, backE, backM, ABox.back, Nat.reduceLT, Int.reduceLT, Int.reduceLE, Int.reduceNeg, litsOf, sepAll, fillParts, AOp.argIds, ob, og, ox]
        exact ih ((i + j) / 2 + 1) j (by omega) (hl.1 hq) h3 h4
      · have hq : ¬ nodes[(i + j) / 2].ino < ino := by simpa using hq
        simp only [E111, EVT, finish, resAll, resOf, one, astep, aop, parsFrom, Opd.ev, getS, putS, keepS, nth, setN, abin, ↓reduceIte, Nat.reduceEqDiff, reduceCtorEq, Nat.reduceAdd, writeAt, Nat.reduceLeDiff, ne_eq, backE, backM, ABox.back, Nat.reduceLT, Int.reduceLT, Int.reduceLE, Int.reduceNeg, litsOf, sepAll, fillParts, AOp.argIds, ob, og, ox]
        exact ih i ((i + j) / 2) (by omega) h2 (Nat.not_lt.1 fun h => hq (hl.2 h)) (by omega)
    · obtain rfl : i = b := by omega
      have hlt : ((i : Int) < (j : Int)) = False := by simp; omega
      simp only [E111, hlt, EVT, finish, resAll, resOf, one, astep, aop, parsFrom, Opd.ev, getS, putS, keepS, nth, setN, abin, ↓reduceIte, Nat.reduceEqDiff, reduceCtorEq, Nat.reduceAdd, writeAt, Nat.reduceLeDiff, ne_eq, backE, backM, ABox.back, Nat.reduceLT, Int.reduceLT, Int.reduceLE, Int.reduceNeg, litsOf, sepAll, fillParts, AOp.argIds, ob, og, ox]
      exact hx _ _

/-- Is the node at that place the one that was asked for? -/
def isAt (nodes : List Node) (ino : Int) (b : Nat) : Bool := match nodes[b]? with
  | some n => n.ino == ino
  | none => false
theorem c111 (nodes : List Node) (ino : Int) (b : Nat) (hb : LowI nodes ino b) (hn : nodes.length ≤ 100000) : acall tab 111 [eNodes nodes, .int .i64 ino, .func 112 []] [] = some (.tuple [.int .i64 b, .bool (isAt nodes ino b)], []) := by
  refine acall_ex rfl rfl rfl ?_
  simp only [fn111, E111, EVT, finish, resAll, resOf, one, astep, aop, parsFrom, Opd.ev, getS, putS, keepS, nth, setN, abin, ↓reduceIte, Nat.reduceEqDiff, reduceCtorEq, Nat.reduceAdd, writeAt, Nat.reduceLeDiff, ne_eq, backE, backM, ABox.back, Nat.reduceLT, Int.reduceLT, Int.reduceLE, Int.reduceNeg, litsOf, sepAll, fillParts, AOp.argIds, ob, og, ox]
  refine loop111 hb hn (fun v q => ?_) nodes.length 0 nodes.length (by omega) (by omega) hb.le (by omega)
  unfold isAt
  by_cases hlt : b < nodes.length
  · have hx := List.getElem?_eq_getElem hlt
    have h1 : ((b : Int) < (nodes.length : Int)) = True := by simp; omega
    simp only [E111, hx, h1, k112, cmpI_eq, tkN, shN, EVT, finish, resAll, resOf, one, astep, aop, parsFrom, Opd.ev, getS, putS, keepS, nth, setN, abin, ↓reduceIte, Nat.reduceEqDiff, reduceCtorEq, Nat.reduceAdd, writeAt, Nat.reduceLeDiff, ne_eq, backE, backM, ABox.back, Nat.reduceLT, Int.reduceLT, Int.reduceLE, Int.reduceNeg, litsOf, sepAll, fillParts, AOp.argIds, ob, og, ox]
  · have hx : nodes[b]? = none := List.getElem?_eq_none (by omega)
    have h1 : ((b : Int) < (nodes.length : Int)) = False := by simp; omega
    simp only [E111, hx, h1, EVT, finish, resAll, resOf, one, astep, aop, parsFrom, Opd.ev, getS, putS, keepS, nth, setN, abin, ↓reduceIte, Nat.reduceEqDiff, reduceCtorEq, Nat.reduceAdd, writeAt, Nat.reduceLeDiff, ne_eq, backE, backM, ABox.back, Nat.reduceLT, Int.reduceLT, Int.reduceLE, Int.reduceNeg, litsOf, sepAll, fillParts, AOp.argIds, ob, og, ox]
theorem k111 (nodes : List Node) (ino : Int) (b : Nat) (hb : LowI nodes ino b) (hn : nodes.length ≤ 100000) (M : AMem) : callOp (acall tab) 111 [eNodes nodes, .int .i64 ino, .func 112 []] M = some (.tuple [.int .i64 b, .bool (isAt nodes ino b)], M) :=
  callOp0 (c111 nodes ino b hb hn) rfl rfl rfl rfl rfl M
end Go.Proofs.YtnapockikkbkcaaGreat
/-
  What the program's functions do, over plain data: a tree's nodes. Own work.
-/
namespace Go.Proofs.YtnapockikkbkcaaGreat
open Go Go.Abs
attribute [local irreducible] exK opsK opK gK forkK kr acall callOp owhen obind

/-- The nodes ascend. -/
def Asc (nodes : List Node) : Prop := nodes.Pairwise fun a b => a.ino < b.ino
def lowB (nodes : List Node) (ino : Int) : Nat := (nodes.takeWhile fun n => decide (n.ino < ino)).length
theorem lowI_of {nodes : List Node} (h : Asc nodes) (ino : Int) : LowI nodes ino (lowB nodes ino) := by
  unfold lowB
  induction nodes with
  | nil => exact ⟨by simp, fun h n hn => by simp at hn⟩
  | cons a r ih =>
    obtain ⟨h1, h2⟩ := List.pairwise_cons.1 h
    obtain ⟨i1, i2⟩ := ih h2
    by_cases ha : a.ino < ino
    · rw [List.takeWhile_cons, if_pos (by simpa using ha)]
      refine ⟨by simpa using i1, fun k n hn => ?_⟩
      cases k with
      | zero => simp at hn; subst hn; simp [ha]
      | succ k => rw [i2 k n (by simpa using hn)]; simp
    · rw [List.takeWhile_cons, if_neg (by simpa using ha)]
      refine ⟨by simp, fun k n hn => ?_⟩
      simp only [List.length_nil, Nat.not_lt_zero, iff_false]
      cases k with
      | zero => simp at hn; subst hn; exact ha
      | succ k =>
        have := h1 n (List.mem_of_getElem? (by simpa using hn))
        omega
/-- What stands at that place is what was asked for. -/
theorem at_find {nodes : List Node} (h : Asc nodes) (ino : Int) : (isAt nodes ino (lowB nodes ino) = true ∧ ∃ n, nodes[lowB nodes ino]? = some n ∧ find nodes ino = some n ∧ n.ino = ino) ∨ (isAt nodes ino (lowB nodes ino) = false ∧ find nodes ino = none) := by
  obtain ⟨l1, l2⟩ := lowI_of h ino
  cases hf : find nodes ino with
  | some n =>
    left
    obtain ⟨hm, he⟩ := find_mem hf
    obtain ⟨k, hk⟩ := List.getElem?_of_mem hm
    have hkb : ¬ k < lowB nodes ino := fun hc => by have := (l2 k n hk).2 hc; omega
    have hb : lowB nodes ino < nodes.length := by have := (List.getElem?_eq_some_iff.1 hk).1; omega
    have hx := List.getElem?_eq_getElem hb
    have hnl : ¬ nodes[lowB nodes ino].ino < ino := fun hc => Nat.lt_irrefl _ ((l2 _ _ hx).1 hc)
    have hke : k = lowB nodes ino := by
      rcases Nat.lt_or_ge (lowB nodes ino) k with hlt | hge
      · have hkl := (List.getElem?_eq_some_iff.1 hk).1
        have h3 := List.pairwise_iff_getElem.1 h _ _ hb hkl hlt
        have h4 : nodes[k] = n := by rw [List.getElem?_eq_getElem hkl] at hk; injection hk
        rw [h4] at h3
        omega
      · omega
    subst hke
    exact ⟨by unfold isAt; rw [hk]; simp [he], n, hk, rfl, he⟩
  | none =>
    right
    refine ⟨?_, rfl⟩
    unfold isAt
    split
    · rename_i n hn
      have := List.find?_eq_none.1 hf n (List.mem_of_getElem? hn)
      simpa using this
    · rfl

theorem set_nth {M : AMem} {p : Nat} {b : ABox} (h : nth M p = some b) : setN M p b = M := by
  rw [nth_eq] at h; rw [setN_eq]
  apply List.ext_getElem?
  intro i
  by_cases e : p = i
  · subst e; rw [set_same (lt_of_some h), h]
  · rw [set_other e]

theorem c79 (nodes : List Node) (next cookie ino : Int) (h : Asc nodes) (hn : nodes.length ≤ 100000) : acall tab 79 [.ptr 0 0, .int .i64 ino] [.cells [eNodes nodes, .int .i64 next, .int .i64 cookie]] =
    some (.tuple [.int .i64 (lowB nodes ino), .bool (isAt nodes ino (lowB nodes ino))], [.cells [eNodes nodes, .int .i64 next, .int .i64 cookie]]) := by
  refine acall_ex rfl rfl rfl ?_
  have hk := k111 nodes ino _ (lowI_of h ino) hn
  simp only [fn79, E79, hk, EVT, finish, resAll, resOf, one, astep, aop, parsFrom, Opd.ev, getS, putS, keepS, nth, setN, abin, ↓reduceIte, Nat.reduceEqDiff, reduceCtorEq, Nat.reduceAdd, writeAt, Nat.reduceLeDiff, ne_eq, backE, backM, ABox.back, Nat.reduceLT, Int.reduceLT, Int.reduceLE, Int.reduceNeg, litsOf, sepAll, fillParts, AOp.argIds, ob, og, ox]
theorem k79 (nodes : List Node) (next cookie ino : Int) (h : Asc nodes) (hn : nodes.length ≤ 100000) (p : Nat) (M : AMem) (hM : nth M p = some (.cells [eNodes nodes, .int .i64 next, .int .i64 cookie])) :
    callOp (acall tab) 79 [.ptr p 0, .int .i64 ino] M = some (.tuple [.int .i64 (lowB nodes ino), .bool (isAt nodes ino (lowB nodes ino))], M) := by
  have := callOp1 hM (c79 nodes next cookie ino h hn) rfl rfl rfl rfl rfl rfl rfl rfl rfl rfl
  rwa [set_nth hM] at this

theorem c43 (nodes : List Node) (next cookie ino : Int) (h : Asc nodes) (hn : nodes.length ≤ 100000) : acall tab 43 [.ptr 0 0, .int .i64 ino] [.cells [eNodes nodes, .int .i64 next, .int .i64 cookie]] =
    some (.tuple [eNode (nodeN nodes ino), .bool (find nodes ino).isSome], [.cells [eNodes nodes, .int .i64 next, .int .i64 cookie]]) := by
  refine acall_ex rfl rfl rfl ?_
  have hk := fun M => k79 nodes next cookie ino h hn 0 (.cells [eNodes nodes, .int .i64 next, .int .i64 cookie] :: M) rfl
  simp only [fn43, E43, hk, EVT, finish, resAll, resOf, one, astep, aop, parsFrom, Opd.ev, getS, putS, keepS, nth, setN, abin, ↓reduceIte, Nat.reduceEqDiff, reduceCtorEq, Nat.reduceAdd, writeAt, Nat.reduceLeDiff, ne_eq, backE, backM, ABox.back, Nat.reduceLT, Int.reduceLT, Int.reduceLE, Int.reduceNeg, litsOf, sepAll, fillParts, AOp.argIds, ob, og, ox]
  rcases at_find h ino with ⟨h1, n, h2, h3, h4⟩ | ⟨h1, h2⟩
  · simp only [E43, h1, h2, h3, nodeN, eNodeC, EVT, finish, resAll, resOf, one, astep, aop, parsFrom, Opd.ev, getS, putS, keepS, nth, setN, abin, ↓reduceIte, Nat.reduceEqDiff, reduceCtorEq, Nat.reduceAdd, writeAt, Nat.reduceLeDiff, ne_eq, backE, backM, ABox.back, Nat.reduceLT, Int.reduceLT, Int.reduceLE, Int.reduceNeg, litsOf, sepAll, fillParts, AOp.argIds, ob, og, ox]
    rfl
  · simp only [E43, h1, h2, nodeN, EVT, finish, resAll, resOf, one, astep, aop, parsFrom, Opd.ev, getS, putS, keepS, nth, setN, abin, ↓reduceIte, Nat.reduceEqDiff, reduceCtorEq, Nat.reduceAdd, writeAt, Nat.reduceLeDiff, ne_eq, backE, backM, ABox.back, Nat.reduceLT, Int.reduceLT, Int.reduceLE, Int.reduceNeg, litsOf, sepAll, fillParts, AOp.argIds, ob, og, ox]
    rfl
theorem k43 (nodes : List Node) (next cookie ino : Int) (h : Asc nodes) (hn : nodes.length ≤ 100000) (p : Nat) (M : AMem) (hM : nth M p = some (.cells [eNodes nodes, .int .i64 next, .int .i64 cookie])) :
    callOp (acall tab) 43 [.ptr p 0, .int .i64 ino] M = some (.tuple [eNode (nodeN nodes ino), .bool (find nodes ino).isSome], M) := by
  have := callOp1 hM (c43 nodes next cookie ino h hn) rfl rfl rfl rfl rfl rfl rfl rfl rfl rfl
  rwa [set_nth hM] at this

theorem c40 (nodes : List Node) (next cookie ino : Int) (h : Asc nodes) (hn : nodes.length ≤ 100000) : acall tab 40 [.ptr 0 0, .int .i64 ino] [.cells [eNodes nodes, .int .i64 next, .int .i64 cookie]] =
    some (.tuple [eNode (dirN nodes ino).1, .int .i64 (dirN nodes ino).2], [.cells [eNodes nodes, .int .i64 next, .int .i64 cookie]]) := by
  refine acall_ex rfl rfl rfl ?_
  have hk := fun M => k43 nodes next cookie ino h hn 0 (.cells [eNodes nodes, .int .i64 next, .int .i64 cookie] :: M) rfl
  simp only [fn40, E40, hk, eNode, eNodeC, EVT, finish, resAll, resOf, one, astep, aop, parsFrom, Opd.ev, getS, putS, keepS, nth, setN, abin, ↓reduceIte, Nat.reduceEqDiff, reduceCtorEq, Nat.reduceAdd, writeAt, Nat.reduceLeDiff, ne_eq, backE, backM, ABox.back, Nat.reduceLT, Int.reduceLT, Int.reduceLE, Int.reduceNeg, litsOf, sepAll, fillParts, AOp.argIds, ob, og, ox]
  unfold dirN
  cases hf : find nodes ino with
  | none => simp only [E40, nodeN, hf, Option.isSome, EVT, finish, resAll, resOf, one, astep, aop, parsFrom, Opd.ev, getS, putS, keepS, nth, setN, abin, ↓reduceIte, Nat.reduceEqDiff, reduceCtorEq, Nat.reduceAdd, writeAt, Nat.reduceLeDiff, ne_eq, backE, backM, ABox.back, Nat.reduceLT, Int.reduceLT, Int.reduceLE, Int.reduceNeg, litsOf, sepAll, fillParts, AOp.argIds, ob, og, ox]; first | done | rfl
  | some n =>
    simp only [E40, nodeN, hf, Option.isSome, Option.getD_some, EVT, finish, resAll, resOf, one, astep, aop, parsFrom, Opd.ev, getS, putS, keepS, nth, setN, abin, ↓reduceIte, Nat.reduceEqDiff, reduceCtorEq, Nat.reduceAdd, writeAt, Nat.reduceLeDiff, ne_eq, backE, backM, ABox.back, Nat.reduceLT, Int.reduceLT, Int.reduceLE, Int.reduceNeg, litsOf, sepAll, fillParts, AOp.argIds, ob, og, ox]
    repeat' (first | (refine fork_split (fun hb => ?_) (fun hb => ?_) <;> simp only [hb, E40, EVT, finish, resAll, resOf, one, astep, aop, parsFrom, Opd.ev, getS, putS, keepS, nth, setN, abin, ↓reduceIte, Nat.reduceEqDiff, reduceCtorEq, Nat.reduceAdd, writeAt, Nat.reduceLeDiff, ne_eq, backE, backM, ABox.back, Nat.reduceLT, Int.reduceLT, Int.reduceLE, Int.reduceNeg, litsOf, sepAll, fillParts, AOp.argIds, ob, og, ox]) | (refine guard_split (fun hb => ?_) (fun hb => ?_) <;> simp only [hb, E40, EVT, finish, resAll, resOf, one, astep, aop, parsFrom, Opd.ev, getS, putS, keepS, nth, setN, abin, ↓reduceIte, Nat.reduceEqDiff, reduceCtorEq, Nat.reduceAdd, writeAt, Nat.reduceLeDiff, ne_eq, backE, backM, ABox.back, Nat.reduceLT, Int.reduceLT, Int.reduceLE, Int.reduceNeg, litsOf, sepAll, fillParts, AOp.argIds, ob, og, ox]) | (refine opK_pick (fun hb => ?_) (fun hb => ?_) <;> simp only [hb, E40, EVT, finish, resAll, resOf, one, astep, aop, parsFrom, Opd.ev, getS, putS, keepS, nth, setN, abin, ↓reduceIte, Nat.reduceEqDiff, reduceCtorEq, Nat.reduceAdd, writeAt, Nat.reduceLeDiff, ne_eq, backE, backM, ABox.back, Nat.reduceLT, Int.reduceLT, Int.reduceLE, Int.reduceNeg, litsOf, sepAll, fillParts, AOp.argIds, ob, og, ox]))
    all_goals (clear hk; simp_all [Node.zero])
theorem k40 (nodes : List Node) (next cookie ino : Int) (h : Asc nodes) (hn : nodes.length ≤ 100000) (p : Nat) (M : AMem) (hM : nth M p = some (.cells [eNodes nodes, .int .i64 next, .int .i64 cookie])) :
    callOp (acall tab) 40 [.ptr p 0, .int .i64 ino] M = some (.tuple [eNode (dirN nodes ino).1, .int .i64 (dirN nodes ino).2], M) := by
  have := callOp1 hM (c40 nodes next cookie ino h hn) rfl rfl rfl rfl rfl rfl rfl rfl rfl rfl
  rwa [set_nth hM] at this
end Go.Proofs.YtnapockikkbkcaaGreat
/-
  What the program's functions do, over plain data: names, entries. Own work.
-/
namespace Go.Proofs.YtnapockikkbkcaaGreat
open Go Go.Abs
attribute [local irreducible] exK opsK opK gK forkK kr acall callOp owhen obind

def Ascii (s : Bytes) : Prop := ∀ b, b ∈ s → b.toNat < 128
theorem dec_mid {s pre r : Bytes} {n : UInt8} (h : s = pre ++ n :: r) (ha : Ascii s) : Utf8.decode ⟨s.toArray⟩ pre.length = (n.toNat, 1) := by
  have hlt : pre.length < (⟨s.toArray⟩ : ByteArray).size := by show pre.length < s.toArray.size; rw [h]; simp
  have hg : (⟨s.toArray⟩ : ByteArray)[pre.length]'hlt = n := by
    show s.toArray[pre.length]'_ = n
    subst h; simp
  have := decode_ascii ⟨s.toArray⟩ pre.length hlt (by rw [hg]; exact ha n (by rw [h]; simp))
  rw [this, hg]
theorem loop41 {s : Bytes} (hs : s.length ≤ 100000) (ha : Ascii s) {k : List K} {R : Bool → Option (AVal × AMem)}
    (hx : ∀ e p, kr (acall tab) [.tmp 2] 0 k ⟨.exit 0, e, [.siter s p]⟩ = R true) (hr : ∀ p, kr (acall tab) [.tmp 2] 0 k ⟨.ret, [(2, .bool false)], [.siter s p]⟩ = R false) :
    ∀ (l pre : Bytes), s = pre ++ l → exK (acall tab) [.tmp 2] 0 k (.loop [21] lb41_0) [(21, .iref 0)] [.siter s pre.length] = R (l.all okByte) := by
  intro l
  induction l with
  | nil =>
    intro pre h
    rw [exK_loop]
    have hlt : (pre.length < s.length) = False := by rw [h]; simp
    simp only [E41, hlt, EVT, finish, resAll, resOf, one, astep, aop, parsFrom, Opd.ev, getS, putS, keepS, nth, setN, abin, ↓reduceIte, Nat.reduceEqDiff, reduceCtorEq, Nat.reduceAdd, writeAt, Nat.reduceLeDiff, ne_eq, backE, backM, ABox.back, Nat.reduceLT, Int.reduceLT, Int.reduceLE, Int.reduceNeg, litsOf, sepAll, fillParts, AOp.argIds, ob, og, ox]
    exact hx _ _
  | cons n r ih =>
    intro pre h
    rw [exK_loop]
    have hlt : (pre.length < s.length) = True := by rw [h]; simp
    have hd := dec_mid h ha
    have hi := ih (pre ++ [n]) (by rw [h]; simp)
    simp only [List.length_append, List.length_cons, List.length_nil, Nat.zero_add] at hi
    simp only [E41, hlt, hd, EVT, finish, resAll, resOf, one, astep, aop, parsFrom, Opd.ev, getS, putS, keepS, nth, setN, abin, ↓reduceIte, Nat.reduceEqDiff, reduceCtorEq, Nat.reduceAdd, writeAt, Nat.reduceLeDiff, ne_eq, backE, backM, ABox.back, Nat.reduceLT, Int.reduceLT, Int.reduceLE, Int.reduceNeg, litsOf, sepAll, fillParts, AOp.argIds, ob, og, ox]
    repeat' (first | (refine fork_split (fun hb => ?_) (fun hb => ?_) <;> simp only [hb, E41, hd, EVT, finish, resAll, resOf, one, astep, aop, parsFrom, Opd.ev, getS, putS, keepS, nth, setN, abin, ↓reduceIte, Nat.reduceEqDiff, reduceCtorEq, Nat.reduceAdd, writeAt, Nat.reduceLeDiff, ne_eq, backE, backM, ABox.back, Nat.reduceLT, Int.reduceLT, Int.reduceLE, Int.reduceNeg, litsOf, sepAll, fillParts, AOp.argIds, ob, og, ox]) | (refine guard_split (fun hb => ?_) (fun hb => ?_) <;> simp only [hb, E41, hd, EVT, finish, resAll, resOf, one, astep, aop, parsFrom, Opd.ev, getS, putS, keepS, nth, setN, abin, ↓reduceIte, Nat.reduceEqDiff, reduceCtorEq, Nat.reduceAdd, writeAt, Nat.reduceLeDiff, ne_eq, backE, backM, ABox.back, Nat.reduceLT, Int.reduceLT, Int.reduceLE, Int.reduceNeg, litsOf, sepAll, fillParts, AOp.argIds, ob, og, ox]) | (refine opK_pick (fun hb => ?_) (fun hb => ?_) <;> simp only [hb, E41, hd, EVT, finish, resAll, resOf, one, astep, aop, parsFrom, Opd.ev, getS, putS, keepS, nth, setN, abin, ↓reduceIte, Nat.reduceEqDiff, reduceCtorEq, Nat.reduceAdd, writeAt, Nat.reduceLeDiff, ne_eq, backE, backM, ABox.back, Nat.reduceLT, Int.reduceLT, Int.reduceLE, Int.reduceNeg, litsOf, sepAll, fillParts, AOp.argIds, ob, og, ox]))
    all_goals first
      | (refine (hr _).trans ?_; congr 1; symm; clear hi ih hx hr hd h; simp_all [okByte]; done)
      | (refine hi.trans ?_; congr 1; symm; clear hi ih hx hr hd h; simp_all [okByte]; done)
theorem c41 (s : Bytes) (hs : s.length ≤ 100000) (ha : Ascii s) : acall tab 41 [.str s] [] = some (.bool (nameOk s), []) := by
  refine acall_ex rfl rfl rfl ?_
  simp only [fn41, E41, EVT, finish, resAll, resOf, one, astep, aop, parsFrom, Opd.ev, getS, putS, keepS, nth, setN, abin, ↓reduceIte, Nat.reduceEqDiff, reduceCtorEq, Nat.reduceAdd, writeAt, Nat.reduceLeDiff, ne_eq, backE, backM, ABox.back, Nat.reduceLT, Int.reduceLT, Int.reduceLE, Int.reduceNeg, litsOf, sepAll, fillParts, AOp.argIds, ob, og, ox]
  have hl := fun k hx hr => loop41 (k := k) (R := fun b => some (AVal.bool b, [])) hs ha hx hr s [] rfl
  have he : (s == []) = decide ((s.length : Int) < 1) := by cases s <;> simp; omega
  rw [he]
  repeat' (first | (refine fork_split (fun hb => ?_) (fun hb => ?_) <;> simp only [hb, E41, EVT, finish, resAll, resOf, one, astep, aop, parsFrom, Opd.ev, getS, putS, keepS, nth, setN, abin, ↓reduceIte, Nat.reduceEqDiff, reduceCtorEq, Nat.reduceAdd, writeAt, Nat.reduceLeDiff, ne_eq, backE, backM, ABox.back, Nat.reduceLT, Int.reduceLT, Int.reduceLE, Int.reduceNeg, litsOf, sepAll, fillParts, AOp.argIds, ob, og, ox]) | (refine guard_split (fun hb => ?_) (fun hb => ?_) <;> simp only [hb, E41, EVT, finish, resAll, resOf, one, astep, aop, parsFrom, Opd.ev, getS, putS, keepS, nth, setN, abin, ↓reduceIte, Nat.reduceEqDiff, reduceCtorEq, Nat.reduceAdd, writeAt, Nat.reduceLeDiff, ne_eq, backE, backM, ABox.back, Nat.reduceLT, Int.reduceLT, Int.reduceLE, Int.reduceNeg, litsOf, sepAll, fillParts, AOp.argIds, ob, og, ox]) | (refine opK_pick (fun hb => ?_) (fun hb => ?_) <;> simp only [hb, E41, EVT, finish, resAll, resOf, one, astep, aop, parsFrom, Opd.ev, getS, putS, keepS, nth, setN, abin, ↓reduceIte, Nat.reduceEqDiff, reduceCtorEq, Nat.reduceAdd, writeAt, Nat.reduceLeDiff, ne_eq, backE, backM, ABox.back, Nat.reduceLT, Int.reduceLT, Int.reduceLE, Int.reduceNeg, litsOf, sepAll, fillParts, AOp.argIds, ob, og, ox]))
  all_goals first
    | (clear hl he; simp_all [nameOk]; done)
    | (refine (hl _ (fun e p => by simp only [E41, EVT, finish, resAll, resOf, one, astep, aop, parsFrom, Opd.ev, getS, putS, keepS, nth, setN, abin, ↓reduceIte, Nat.reduceEqDiff, reduceCtorEq, Nat.reduceAdd, writeAt, Nat.reduceLeDiff, ne_eq, backE, backM, ABox.back, Nat.reduceLT, Int.reduceLT, Int.reduceLE, Int.reduceNeg, litsOf, sepAll, fillParts, AOp.argIds, ob, og, ox]) (fun p => by simp only [E41, EVT, finish, resAll, resOf, one, astep, aop, parsFrom, Opd.ev, getS, putS, keepS, nth, setN, abin, ↓reduceIte, Nat.reduceEqDiff, reduceCtorEq, Nat.reduceAdd, writeAt, Nat.reduceLeDiff, ne_eq, backE, backM, ABox.back, Nat.reduceLT, Int.reduceLT, Int.reduceLE, Int.reduceNeg, litsOf, sepAll, fillParts, AOp.argIds, ob, og, ox])).trans ?_; clear hl he; simp_all [nameOk]; done)
theorem k41 (s : Bytes) (hs : s.length ≤ 100000) (ha : Ascii s) (M : AMem) : callOp (acall tab) 41 [.str s] M = some (.bool (nameOk s), M) := callOp0 (c41 s hs ha) rfl rfl rfl rfl rfl M

/- the order of names -/
theorem k110 (a b : Bytes) (M : AMem) : callOp (acall tab) 110 [.str a, .str b] M = some (.int .i64 (Lib.compareBytes a b), M) :=
  callOp0 (acall_prim (g := pCompare) rfl rfl) rfl rfl rfl rfl rfl M
theorem c78 (a b : Bytes) : acall tab 78 [.str a, .str b] [] = some (.int .i64 (Lib.compareBytes a b), []) := by
  refine acall_ex rfl rfl rfl ?_
  simp only [fn78, E78, k110, EVT, finish, resAll, resOf, one, astep, aop, parsFrom, Opd.ev, getS, putS, keepS, nth, setN, abin, ↓reduceIte, Nat.reduceEqDiff, reduceCtorEq, Nat.reduceAdd, writeAt, Nat.reduceLeDiff, ne_eq, backE, backM, ABox.back, Nat.reduceLT, Int.reduceLT, Int.reduceLE, Int.reduceNeg, litsOf, sepAll, fillParts, AOp.argIds, ob, og, ox]
theorem k78 (a b : Bytes) (M : AMem) : callOp (acall tab) 78 [.str a, .str b] M = some (.int .i64 (Lib.compareBytes a b), M) := callOp0 (c78 a b) rfl rfl rfl rfl rfl M
theorem cmpB_lt : ∀ (a b : Bytes), (Lib.compareBytes a b < 0) = (strLt a b = true)
  | [], [] => by simp [Lib.compareBytes, strLt]
  | [], _ :: _ => by simp [Lib.compareBytes, strLt]
  | _ :: _, [] => by simp [Lib.compareBytes, strLt]
  | a :: x, b :: y => by
    rw [Lib.compareBytes, strLt]
    by_cases h1 : a < b
    · simp [h1]
    · by_cases h2 : b < a
      · have h3 : ¬ a = b := by rintro rfl; exact UInt8.lt_irrefl _ h2
        simp [h1, h2, h3]
      · have h3 : a = b := by rw [← UInt8.toNat_inj]; simp only [UInt8.lt_iff_toNat_lt] at h1 h2; omega
        subst h3
        simp [h1, cmpB_lt x y]
theorem cmpB_eq : ∀ (a b : Bytes), (Lib.compareBytes a b == 0) = (a == b)
  | [], [] => by simp [Lib.compareBytes]
  | [], _ :: _ => by simp [Lib.compareBytes]
  | _ :: _, [] => by simp [Lib.compareBytes]
  | a :: x, b :: y => by
    rw [Lib.compareBytes]
    by_cases h1 : a < b
    · have h3 : ¬ a = b := by rintro rfl; exact UInt8.lt_irrefl _ h1
      simp [h1, h3]
    · by_cases h2 : b < a
      · have h3 : ¬ a = b := by rintro rfl; exact UInt8.lt_irrefl _ h2
        simp [h1, h2, h3]
      · have h3 : a = b := by rw [← UInt8.toNat_inj]; simp only [UInt8.lt_iff_toNat_lt] at h1 h2; omega
        subst h3
        simp only [h1, if_false, cmpB_eq x y]
        simp
theorem c77 (e : Ent) (s : Bytes) : acall tab 77 [eEnt e, .str s] [] = some (.int .i64 (Lib.compareBytes e.name s), []) := by
  refine acall_ex rfl rfl rfl ?_
  simp only [fn77, E77, eEnt, eEntC, k78, EVT, finish, resAll, resOf, one, astep, aop, parsFrom, Opd.ev, getS, putS, keepS, nth, setN, abin, ↓reduceIte, Nat.reduceEqDiff, reduceCtorEq, Nat.reduceAdd, writeAt, Nat.reduceLeDiff, ne_eq, backE, backM, ABox.back, Nat.reduceLT, Int.reduceLT, Int.reduceLE, Int.reduceNeg, litsOf, sepAll, fillParts, AOp.argIds, ob, og, ox]
theorem k77 (e : Ent) (s : Bytes) (M : AMem) : callOp (acall tab) 77 [.agg (eEntC e), .str s] M = some (.int .i64 (Lib.compareBytes e.name s), M) := callOp0 (c77 e s) rfl rfl rfl rfl rfl M
structure LowE (ents : List Ent) (s : Bytes) (b : Nat) : Prop where
  le : b ≤ ents.length
  lt : ∀ h n, ents[h]? = some n → (strLt n.name s = true ↔ h < b)
theorem loop76 {ents : List Ent} {s : Bytes} {b : Nat} (hb : LowE ents s b) (hn : ents.length ≤ 100000) {k : List K} {r : Option (AVal × AMem)}
    (hx : ∀ v q, kr (acall tab) [.tmp 6, .tmp 7] 0 k ⟨.exit 0, [(0, eEnts ents), (1, .str s), (2, .func 77 []), (8, .int .i64 ents.length), (9, .int .i64 b), (10, v), (17, q)], []⟩ = r) :
    ∀ (f i j : Nat), j - i ≤ f → i ≤ b → b ≤ j → j ≤ ents.length → exK (acall tab) [.tmp 6, .tmp 7] 0 k (.loop [0, 1, 2, 8, 9, 10] lb76_0) [(0, eEnts ents), (1, .str s), (2, .func 77 []), (8, .int .i64 ents.length), (9, .int .i64 i), (10, .int .i64 j)] [] = r := by
  intro f
  induction f with
  | zero =>
    intro i j h1 h2 h3 h4
    obtain rfl : i = b := by omega
    rw [exK_loop]
    have hlt : ((i : Int) < (j : Int)) = False := by simp; omega
    simp only [E76, hlt, EVT, finish, resAll, resOf, one, astep, aop, parsFrom, Opd.ev, getS, putS, keepS, nth, setN, abin, ↓reduceIte, Nat.reduceEqDiff, reduceCtorEq, Nat.reduceAdd, writeAt, Nat.reduceLeDiff, ne_eq, backE, backM, ABox.back, Nat.reduceLT, Int.reduceLT, Int.reduceLE, Int.reduceNeg, litsOf, sepAll, fillParts, AOp.argIds, ob, og, ox]
    exact hx _ _
  | succ f ih =>
    intro i j h1 h2 h3 h4
    rw [exK_loop]
    by_cases hij : i < j
    · have hlt : ((i : Int) < (j : Int)) = True := by simp; omega
      obtain ⟨m1, m2, m3, m4, m5⟩ := mid_eq i j (by omega) (by omega)
      have hmid : (i + j) / 2 < ents.length := by omega
      have hx := List.getElem?_eq_getElem hmid
      have hl := hb.lt _ _ hx
      simp only [E76, hlt, m1, m2, m3, m4, hx, k77, cmpB_lt, tkE, shE, EVT, finish, resAll, resOf, one, astep, aop, parsFrom, Opd.ev, getS, putS, keepS, nth, setN, abin, ↓reduceIte, Nat.reduceEqDiff, reduceCtorEq, Nat.reduceAdd, writeAt, Nat.reduceLeDiff, ne_eq, backE, backM, ABox.back, Nat.reduceLT, Int.reduceLT, Int.reduceLE, Int.reduceNeg, litsOf, sepAll, fillParts, AOp.argIds, ob, og, ox]
      refine fork_split (fun hq => ?_) (fun hq => ?_)
      · have hq : strLt ents[(i + j) / 2].name s = true := by simpa using hq
        simp only [E76, m5, EVT, finish, resAll, resOf, one, astep, aop, parsFrom, Opd.ev, getS, putS, keepS, nth, setN, abin, ↓reduceIte, Nat.reduceEqDiff, reduceCtorEq, Nat.reduceAdd, writeAt, Nat.reduceLeDiff, ne_eq, backE, backM, ABox.back, Nat.reduceLT, Int.reduceLT, Int.reduceLE, Int.reduceNeg, litsOf, sepAll, fillParts, AOp.argIds, ob, og, ox]
        exact ih ((i + j) / 2 + 1) j (by omega) (hl.1 hq) h3 h4
      · have hq : ¬ strLt ents[(i + j) / 2].name s = true := by simpa using hq
        simp only [E76, EVT, finish, resAll, resOf, one, astep, aop, parsFrom, Opd.ev, getS, putS, keepS, nth, setN, abin, ↓reduceIte, Nat.reduceEqDiff, reduceCtorEq, Nat.reduceAdd, writeAt, Nat.reduceLeDiff, ne_eq, backE, backM, ABox.back, Nat.reduceLT, Int.reduceLT, Int.reduceLE, Int.reduceNeg, litsOf, sepAll, fillParts, AOp.argIds, ob, og, ox]
        exact ih i ((i + j) / 2) (by omega) h2 (Nat.not_lt.1 fun h => hq (hl.2 h)) (by omega)
    · obtain rfl : i = b := by omega
      have hlt : ((i : Int) < (j : Int)) = False := by simp; omega
      simp only [E76, hlt, EVT, finish, resAll, resOf, one, astep, aop, parsFrom, Opd.ev, getS, putS, keepS, nth, setN, abin, ↓reduceIte, Nat.reduceEqDiff, reduceCtorEq, Nat.reduceAdd, writeAt, Nat.reduceLeDiff, ne_eq, backE, backM, ABox.back, Nat.reduceLT, Int.reduceLT, Int.reduceLE, Int.reduceNeg, litsOf, sepAll, fillParts, AOp.argIds, ob, og, ox]
      exact hx _ _
def isAtE (ents : List Ent) (s : Bytes) (b : Nat) : Bool := match ents[b]? with
  | some n => n.name == s
  | none => false
theorem c76 (ents : List Ent) (s : Bytes) (b : Nat) (hb : LowE ents s b) (hn : ents.length ≤ 100000) : acall tab 76 [eEnts ents, .str s, .func 77 []] [] = some (.tuple [.int .i64 b, .bool (isAtE ents s b)], []) := by
  refine acall_ex rfl rfl rfl ?_
  simp only [fn76, E76, EVT, finish, resAll, resOf, one, astep, aop, parsFrom, Opd.ev, getS, putS, keepS, nth, setN, abin, ↓reduceIte, Nat.reduceEqDiff, reduceCtorEq, Nat.reduceAdd, writeAt, Nat.reduceLeDiff, ne_eq, backE, backM, ABox.back, Nat.reduceLT, Int.reduceLT, Int.reduceLE, Int.reduceNeg, litsOf, sepAll, fillParts, AOp.argIds, ob, og, ox]
  refine loop76 hb hn (fun v q => ?_) ents.length 0 ents.length (by omega) (by omega) hb.le (by omega)
  unfold isAtE
  by_cases hlt : b < ents.length
  · have hx := List.getElem?_eq_getElem hlt
    have h1 : ((b : Int) < (ents.length : Int)) = True := by simp; omega
    simp only [E76, hx, h1, k77, cmpB_eq, tkE, shE, EVT, finish, resAll, resOf, one, astep, aop, parsFrom, Opd.ev, getS, putS, keepS, nth, setN, abin, ↓reduceIte, Nat.reduceEqDiff, reduceCtorEq, Nat.reduceAdd, writeAt, Nat.reduceLeDiff, ne_eq, backE, backM, ABox.back, Nat.reduceLT, Int.reduceLT, Int.reduceLE, Int.reduceNeg, litsOf, sepAll, fillParts, AOp.argIds, ob, og, ox]
  · have hx : ents[b]? = none := List.getElem?_eq_none (by omega)
    have h1 : ((b : Int) < (ents.length : Int)) = False := by simp; omega
    simp only [E76, hx, h1, EVT, finish, resAll, resOf, one, astep, aop, parsFrom, Opd.ev, getS, putS, keepS, nth, setN, abin, ↓reduceIte, Nat.reduceEqDiff, reduceCtorEq, Nat.reduceAdd, writeAt, Nat.reduceLeDiff, ne_eq, backE, backM, ABox.back, Nat.reduceLT, Int.reduceLT, Int.reduceLE, Int.reduceNeg, litsOf, sepAll, fillParts, AOp.argIds, ob, og, ox]
theorem k76 (ents : List Ent) (s : Bytes) (b : Nat) (hb : LowE ents s b) (hn : ents.length ≤ 100000) (M : AMem) : callOp (acall tab) 76 [eEnts ents, .str s, .func 77 []] M = some (.tuple [.int .i64 b, .bool (isAtE ents s b)], M) :=
  callOp0 (c76 ents s b hb hn) rfl rfl rfl rfl rfl M

/-- The entries ascend. -/
def AscE (l : List Ent) : Prop := l.Pairwise fun a b => strLt a.name b.name = true
def lowE (l : List Ent) (s : Bytes) : Nat := (l.takeWhile fun n => strLt n.name s).length
theorem c42 (n : Node) (s : Bytes) (b : Nat) (hb : LowE n.ents s b) (hn : n.ents.length ≤ 100000) : acall tab 42 [eNode n, .str s] [] = some (.tuple [.int .i64 b, .bool (isAtE n.ents s b)], []) := by
  refine acall_ex rfl rfl rfl ?_
  have hk := k76 n.ents s b hb hn
  simp only [fn42, E42, eNode, eNodeC, hk, EVT, finish, resAll, resOf, one, astep, aop, parsFrom, Opd.ev, getS, putS, keepS, nth, setN, abin, ↓reduceIte, Nat.reduceEqDiff, reduceCtorEq, Nat.reduceAdd, writeAt, Nat.reduceLeDiff, ne_eq, backE, backM, ABox.back, Nat.reduceLT, Int.reduceLT, Int.reduceLE, Int.reduceNeg, litsOf, sepAll, fillParts, AOp.argIds, ob, og, ox]
theorem k42 (a b c : Int) (d : Bytes) (e : List Ent) (u : Int) (s : Bytes) (i : Nat) (hb : LowE e s i) (hn : e.length ≤ 100000) (M : AMem) : callOp (acall tab) 42 [.agg [.int .i64 a, .int .i64 b, .int .i64 c, eData d, eEnts e, .int .i64 u], .str s] M = some (.tuple [.int .i64 i, .bool (isAtE e s i)], M) :=
  callOp0 (c42 ⟨a, b, c, d, e, u⟩ s i hb hn) rfl rfl rfl rfl rfl M
end Go.Proofs.YtnapockikkbkcaaGreat
/-
  What the program's functions do, over plain data: Look, Get, ups. Own work.
-/
namespace Go.Proofs.YtnapockikkbkcaaGreat
open Go Go.Abs
attribute [local irreducible] exK opsK opK gK forkK kr acall callOp owhen obind

theorem strLt_irrefl : ∀ a : Bytes, strLt a a = false
  | [] => rfl
  | a :: x => by simp [strLt, strLt_irrefl x, UInt8.lt_irrefl]
theorem strLt_trans : ∀ {a b c : Bytes}, strLt a b = true → strLt b c = true → strLt a c = true
  | [], b, [], _, h2 => by cases b <;> simp [strLt] at h2
  | [], _, _ :: _, _, _ => rfl
  | _ :: _, [], _, h1, _ => by simp [strLt] at h1
  | _ :: _, _ :: _, [], _, h2 => by simp [strLt] at h2
  | a :: x, b :: y, c :: z, h1, h2 => by
    simp only [strLt, Bool.or_eq_true, Bool.and_eq_true, decide_eq_true_eq, beq_iff_eq] at h1 h2 ⊢
    simp only [UInt8.lt_iff_toNat_lt] at h1 h2 ⊢
    rcases h1 with h1 | ⟨h1, h1'⟩
    · rcases h2 with h2 | ⟨h2, _⟩
      · left; omega
      · left; rw [← h2]; exact h1
    · rcases h2 with h2 | ⟨h2, h2'⟩
      · left; rw [h1]; exact h2
      · right; exact ⟨h1.trans h2, strLt_trans h1' h2'⟩
theorem lowE_of {l : List Ent} (h : AscE l) (s : Bytes) : LowE l s (lowE l s) := by
  unfold lowE
  induction l with
  | nil => exact ⟨by simp, fun h n hn => by simp at hn⟩
  | cons a r ih =>
    obtain ⟨h1, h2⟩ := List.pairwise_cons.1 h
    obtain ⟨i1, i2⟩ := ih h2
    by_cases ha : strLt a.name s = true
    · rw [List.takeWhile_cons, if_pos ha]
      refine ⟨by simpa using i1, fun k n hn => ?_⟩
      cases k with
      | zero => simp at hn; subst hn; simp [ha]
      | succ k => rw [i2 k n (by simpa using hn)]; simp
    · rw [List.takeWhile_cons, if_neg ha]
      refine ⟨by simp, fun k n hn => ?_⟩
      simp only [List.length_nil, Nat.not_lt_zero, iff_false]
      cases k with
      | zero => simp at hn; subst hn; exact ha
      | succ k => exact fun hc => ha (strLt_trans (h1 n (List.mem_of_getElem? (by simpa using hn))) hc)
theorem findE_mem {l : List Ent} {s : Bytes} {e : Ent} (h : findE l s = some e) : e ∈ l ∧ e.name = s := by
  unfold findE at h
  exact ⟨List.mem_of_find?_eq_some h, by simpa using List.find?_some h⟩
theorem at_findE {l : List Ent} (h : AscE l) (s : Bytes) : (isAtE l s (lowE l s) = true ∧ ∃ n, l[lowE l s]? = some n ∧ findE l s = some n ∧ n.name = s) ∨ (isAtE l s (lowE l s) = false ∧ findE l s = none) := by
  obtain ⟨l1, l2⟩ := lowE_of h s
  cases hf : findE l s with
  | some n =>
    left
    obtain ⟨hm, he⟩ := findE_mem hf
    obtain ⟨k, hk⟩ := List.getElem?_of_mem hm
    have hkb : ¬ k < lowE l s := fun hc => by have := (l2 k n hk).2 hc; rw [he, strLt_irrefl] at this; cases this
    have hb : lowE l s < l.length := by have := (List.getElem?_eq_some_iff.1 hk).1; omega
    have hx := List.getElem?_eq_getElem hb
    have hnl : ¬ strLt l[lowE l s].name s = true := fun hc => Nat.lt_irrefl _ ((l2 _ _ hx).1 hc)
    have hke : k = lowE l s := by
      rcases Nat.lt_or_ge (lowE l s) k with hlt | hge
      · have hkl := (List.getElem?_eq_some_iff.1 hk).1
        have h3 := List.pairwise_iff_getElem.1 h _ _ hb hkl hlt
        have h4 : l[k] = n := by rw [List.getElem?_eq_getElem hkl] at hk; injection hk
        rw [h4, he] at h3
        exact absurd h3 hnl
      · omega
    subst hke
    exact ⟨by unfold isAtE; rw [hk]; simp [he], n, hk, rfl, he⟩
  | none =>
    right
    refine ⟨?_, rfl⟩
    unfold isAtE
    split
    · rename_i n hn
      have := List.find?_eq_none.1 hf n (List.mem_of_getElem? hn)
      simpa using this
    · rfl

/-- A tree whose nodes and entries ascend, of names in plain letters. -/
structure Srt (t : Tree) : Prop where
  asc : Asc t.nodes
  ents : ∀ n, n ∈ t.nodes → AscE n.ents
theorem Srt.dir {t : Tree} (h : Srt t) (ino : Int) : AscE (dirN t.nodes ino).1.ents := by
  unfold dirN
  split
  · exact List.Pairwise.nil
  · rename_i n hn
    split
    · exact h.ents n (find_mem hn).1
    · exact List.Pairwise.nil

theorem c15 (t : Tree) (ino : Int) (s : Bytes) (ht : Small t) (hr : Srt t) (hs : s.length ≤ 100000) (ha : Ascii s) : acall tab 15 [eTree t, .int .i64 ino, .str s] [] = some (.tuple [.int .i64 (lookN t.nodes ino s).1, .int .i64 (lookN t.nodes ino s).2], []) := by
  obtain ⟨nodes, next, cookie⟩ := t
  have hn : nodes.length ≤ 100000 := ht.nodes
  have hd : (dirN nodes ino).1.ents.length ≤ 100000 := dirN_ents ht ino
  have hE : AscE (dirN nodes ino).1.ents := hr.dir ino
  have hk := fun b M => k40 nodes next cookie ino hr.asc hn 1 (b :: .cells [eNodes nodes, .int .i64 next, .int .i64 cookie] :: M) rfl
  refine acall_ex rfl rfl rfl ?_
  simp only [fn15, E15, eTree, eTreeC, hk, eNode, eNodeC, EVT, finish, resAll, resOf, one, astep, aop, parsFrom, Opd.ev, getS, putS, keepS, nth, setN, abin, ↓reduceIte, Nat.reduceEqDiff, reduceCtorEq, Nat.reduceAdd, writeAt, Nat.reduceLeDiff, ne_eq, backE, backM, ABox.back, Nat.reduceLT, Int.reduceLT, Int.reduceLE, Int.reduceNeg, litsOf, sepAll, fillParts, AOp.argIds, ob, og, ox]
  unfold lookN
  refine fork_split (fun hb => ?_) (fun hb => ?_)
  · simp only [E15, EVT, finish, resAll, resOf, one, astep, aop, parsFrom, Opd.ev, getS, putS, keepS, nth, setN, abin, ↓reduceIte, Nat.reduceEqDiff, reduceCtorEq, Nat.reduceAdd, writeAt, Nat.reduceLeDiff, ne_eq, backE, backM, ABox.back, Nat.reduceLT, Int.reduceLT, Int.reduceLE, Int.reduceNeg, litsOf, sepAll, fillParts, AOp.argIds, ob, og, ox]
    clear hk
    simp_all
  · simp only [E15, k41, hs, ha, EVT, finish, resAll, resOf, one, astep, aop, parsFrom, Opd.ev, getS, putS, keepS, nth, setN, abin, ↓reduceIte, Nat.reduceEqDiff, reduceCtorEq, Nat.reduceAdd, writeAt, Nat.reduceLeDiff, ne_eq, backE, backM, ABox.back, Nat.reduceLT, Int.reduceLT, Int.reduceLE, Int.reduceNeg, litsOf, sepAll, fillParts, AOp.argIds, ob, og, ox]
    refine fork_split (fun hb' => ?_) (fun hb' => ?_)
    · simp only [E15, EVT, finish, resAll, resOf, one, astep, aop, parsFrom, Opd.ev, getS, putS, keepS, nth, setN, abin, ↓reduceIte, Nat.reduceEqDiff, reduceCtorEq, Nat.reduceAdd, writeAt, Nat.reduceLeDiff, ne_eq, backE, backM, ABox.back, Nat.reduceLT, Int.reduceLT, Int.reduceLE, Int.reduceNeg, litsOf, sepAll, fillParts, AOp.argIds, ob, og, ox]
      clear hk
      simp_all
    · have hk2 := fun a b c d u M => k42 a b c d (dirN nodes ino).1.ents u s _ (lowE_of hE s) hd M
      simp only [E15, hk2, EVT, finish, resAll, resOf, one, astep, aop, parsFrom, Opd.ev, getS, putS, keepS, nth, setN, abin, ↓reduceIte, Nat.reduceEqDiff, reduceCtorEq, Nat.reduceAdd, writeAt, Nat.reduceLeDiff, ne_eq, backE, backM, ABox.back, Nat.reduceLT, Int.reduceLT, Int.reduceLE, Int.reduceNeg, litsOf, sepAll, fillParts, AOp.argIds, ob, og, ox]
      rcases at_findE hE s with ⟨h1, e, h2, h3, _⟩ | ⟨h1, h2⟩
      · simp only [E15, h1, h2, eEntC, EVT, finish, resAll, resOf, one, astep, aop, parsFrom, Opd.ev, getS, putS, keepS, nth, setN, abin, ↓reduceIte, Nat.reduceEqDiff, reduceCtorEq, Nat.reduceAdd, writeAt, Nat.reduceLeDiff, ne_eq, backE, backM, ABox.back, Nat.reduceLT, Int.reduceLT, Int.reduceLE, Int.reduceNeg, litsOf, sepAll, fillParts, AOp.argIds, ob, og, ox]
        clear hk hk2
        simp_all
      · simp only [E15, h1, EVT, finish, resAll, resOf, one, astep, aop, parsFrom, Opd.ev, getS, putS, keepS, nth, setN, abin, ↓reduceIte, Nat.reduceEqDiff, reduceCtorEq, Nat.reduceAdd, writeAt, Nat.reduceLeDiff, ne_eq, backE, backM, ABox.back, Nat.reduceLT, Int.reduceLT, Int.reduceLE, Int.reduceNeg, litsOf, sepAll, fillParts, AOp.argIds, ob, og, ox]
        clear hk hk2
        simp_all
theorem k15 (nodes : List Node) (next cookie ino : Int) (s : Bytes) (ht : Small ⟨nodes, next, cookie⟩) (hr : Srt ⟨nodes, next, cookie⟩) (hs : s.length ≤ 100000) (ha : Ascii s) (M : AMem) : callOp (acall tab) 15 [.agg [eNodes nodes, .int .i64 next, .int .i64 cookie], .int .i64 ino, .str s] M =
    some (.tuple [.int .i64 (lookN nodes ino s).1, .int .i64 (lookN nodes ino s).2], M) := callOp0 (c15 ⟨nodes, next, cookie⟩ ino s ht hr hs ha) rfl rfl rfl rfl rfl M

theorem c19 (t : Tree) (ino : Int) (ht : Small t) (hr : Srt t) : acall tab 19 [eTree t, .int .i64 ino] [] = some (.tuple [eNode (nodeN t.nodes ino), .bool (find t.nodes ino).isSome], []) := by
  obtain ⟨nodes, next, cookie⟩ := t
  have hn : nodes.length ≤ 100000 := ht.nodes
  have hk := fun b c M => k43 nodes next cookie ino hr.asc hn 2 (b :: c :: .cells [eNodes nodes, .int .i64 next, .int .i64 cookie] :: M) rfl
  refine acall_ex rfl rfl rfl ?_
  simp only [fn19, E19, eTree, eTreeC, hk, eNode, eNodeC, EVT, finish, resAll, resOf, one, astep, aop, parsFrom, Opd.ev, getS, putS, keepS, nth, setN, abin, ↓reduceIte, Nat.reduceEqDiff, reduceCtorEq, Nat.reduceAdd, writeAt, Nat.reduceLeDiff, ne_eq, backE, backM, ABox.back, Nat.reduceLT, Int.reduceLT, Int.reduceLE, Int.reduceNeg, litsOf, sepAll, fillParts, AOp.argIds, ob, og, ox]
theorem k19 (nodes : List Node) (next cookie ino : Int) (ht : Small ⟨nodes, next, cookie⟩) (hr : Srt ⟨nodes, next, cookie⟩) (M : AMem) : callOp (acall tab) 19 [.agg [eNodes nodes, .int .i64 next, .int .i64 cookie], .int .i64 ino] M =
    some (.tuple [eNode (nodeN nodes ino), .bool (find nodes ino).isSome], M) := callOp0 (c19 ⟨nodes, next, cookie⟩ ino ht hr) rfl rfl rfl rfl rfl M

/- ups -/
abbrev eInt (n : Int) : AVal := .int .i64 n
theorem wid_ints (l : List Int) : wid (l.map eInt) 1 = True := by
  simp only [eq_iff_iff, iff_true]
  intro x hx
  obtain ⟨n, _, rfl⟩ := List.mem_map.1 hx
  rfl
def upsGo (nodes : List Node) : Nat → Int → List Int → List Int
  | 0, _, out => out
  | m + 1, ino, out => if (ino != 1) = true then (if (!(find nodes ino).isSome || (nodeN nodes ino).kind != 2) = true then out else upsGo nodes m (nodeN nodes ino).up (out ++ [(nodeN nodes ino).up])) else out
def upsN (nodes : List Node) (ino : Int) : List Int := upsGo nodes nodes.length ino [ino]
theorem loop44 {nodes : List Node} {next cookie : Int} (h : Asc nodes) (hn : nodes.length ≤ 100000) {k : List K} {R : List Int → Option (AVal × AMem)}
    (hx : ∀ (out : List Int) v q, kr (acall tab) [.tmp 4] 1 k ⟨.exit 0, [(0, .ptr 0 0), (1, v), (5, .slice (.own 1) (out.map eInt)), (22, q)], [.cells [eNodes nodes, .int .i64 next, .int .i64 cookie], .tick 1 out.length]⟩ = R out)
    (hr : ∀ (out : List Int) b, kr (acall tab) [.tmp 4] 1 k ⟨.ret, [(4, .slice (.own 1) (out.map eInt))], [.cells [eNodes nodes, .int .i64 next, .int .i64 cookie], .tick 1 out.length, b]⟩ = R out) :
    ∀ (m : Nat) (ino : Int) (out : List Int), out.length + m = nodes.length + 1 → exK (acall tab) [.tmp 4] 1 k (.loop [0, 1, 5] lb44_0) [(0, .ptr 0 0), (1, .int .i64 ino), (5, .slice (.own 1) (out.map eInt))] [.cells [eNodes nodes, .int .i64 next, .int .i64 cookie], .tick 1 out.length] = R (upsGo nodes m ino out) := by
  intro m
  induction m with
  | zero =>
    intro ino out ho
    rw [exK_loop]
    have hd' : ((out.length : Int) ≤ (nodes.length : Int)) = False := by simp; omega
    simp only [E44, EVT, finish, resAll, resOf, one, astep, aop, parsFrom, Opd.ev, getS, putS, keepS, nth, setN, abin, ↓reduceIte, Nat.reduceEqDiff, reduceCtorEq, Nat.reduceAdd, writeAt, Nat.reduceLeDiff, ne_eq, backE, backM, ABox.back, Nat.reduceLT, Int.reduceLT, Int.reduceLE, Int.reduceNeg, litsOf, sepAll, fillParts, AOp.argIds, ob, og, ox]
    repeat' (first | (refine fork_split (fun hb => ?_) (fun hb => ?_) <;> simp only [hb, E44, hd', EVT, finish, resAll, resOf, one, astep, aop, parsFrom, Opd.ev, getS, putS, keepS, nth, setN, abin, ↓reduceIte, Nat.reduceEqDiff, reduceCtorEq, Nat.reduceAdd, writeAt, Nat.reduceLeDiff, ne_eq, backE, backM, ABox.back, Nat.reduceLT, Int.reduceLT, Int.reduceLE, Int.reduceNeg, litsOf, sepAll, fillParts, AOp.argIds, ob, og, ox]) | (refine guard_split (fun hb => ?_) (fun hb => ?_) <;> simp only [hb, E44, hd', EVT, finish, resAll, resOf, one, astep, aop, parsFrom, Opd.ev, getS, putS, keepS, nth, setN, abin, ↓reduceIte, Nat.reduceEqDiff, reduceCtorEq, Nat.reduceAdd, writeAt, Nat.reduceLeDiff, ne_eq, backE, backM, ABox.back, Nat.reduceLT, Int.reduceLT, Int.reduceLE, Int.reduceNeg, litsOf, sepAll, fillParts, AOp.argIds, ob, og, ox]) | (refine opK_pick (fun hb => ?_) (fun hb => ?_) <;> simp only [hb, E44, hd', EVT, finish, resAll, resOf, one, astep, aop, parsFrom, Opd.ev, getS, putS, keepS, nth, setN, abin, ↓reduceIte, Nat.reduceEqDiff, reduceCtorEq, Nat.reduceAdd, writeAt, Nat.reduceLeDiff, ne_eq, backE, backM, ABox.back, Nat.reduceLT, Int.reduceLT, Int.reduceLE, Int.reduceNeg, litsOf, sepAll, fillParts, AOp.argIds, ob, og, ox]))
    all_goals exact hx _ _ _
  | succ m ih =>
    intro ino out ho
    rw [exK_loop]
    have hd' : ((out.length : Int) ≤ (nodes.length : Int)) = True := by simp; omega
    have r1 : roomOk (out.length + 1) 8 = True := room_ok (by omega) (by omega)
    have hk := fun M => k43 nodes next cookie ino h hn 0 (.cells [eNodes nodes, .int .i64 next, .int .i64 cookie] :: M) rfl
    have hi := ih (nodeN nodes ino).up (out ++ [(nodeN nodes ino).up]) (by simp; omega)
    simp only [List.map_append, List.map_cons, List.map_nil, List.length_append, List.length_cons, List.length_nil, Nat.zero_add] at hi
    rw [upsGo]
    simp only [E44, EVT, finish, resAll, resOf, one, astep, aop, parsFrom, Opd.ev, getS, putS, keepS, nth, setN, abin, ↓reduceIte, Nat.reduceEqDiff, reduceCtorEq, Nat.reduceAdd, writeAt, Nat.reduceLeDiff, ne_eq, backE, backM, ABox.back, Nat.reduceLT, Int.reduceLT, Int.reduceLE, Int.reduceNeg, litsOf, sepAll, fillParts, AOp.argIds, ob, og, ox]
    refine guard_split (fun hb => ?_) (fun hb => ?_)
    · simp only [E44, hb, hd', hk, eNode, eNodeC, EVT, finish, resAll, resOf, one, astep, aop, parsFrom, Opd.ev, getS, putS, keepS, nth, setN, abin, ↓reduceIte, Nat.reduceEqDiff, reduceCtorEq, Nat.reduceAdd, writeAt, Nat.reduceLeDiff, ne_eq, backE, backM, ABox.back, Nat.reduceLT, Int.reduceLT, Int.reduceLE, Int.reduceNeg, litsOf, sepAll, fillParts, AOp.argIds, ob, og, ox]
      refine guard_split (fun hb1 => ?_) (fun hb1 => ?_)
      · simp only [E44, hb1, EVT, finish, resAll, resOf, one, astep, aop, parsFrom, Opd.ev, getS, putS, keepS, nth, setN, abin, ↓reduceIte, Nat.reduceEqDiff, reduceCtorEq, Nat.reduceAdd, writeAt, Nat.reduceLeDiff, ne_eq, backE, backM, ABox.back, Nat.reduceLT, Int.reduceLT, Int.reduceLE, Int.reduceNeg, litsOf, sepAll, fillParts, AOp.argIds, ob, og, ox]
        refine fork_split (fun hb2 => ?_) (fun hb2 => ?_)
        · simp only [E44, hb2, hb1, Bool.or_true, Bool.false_or, EVT, finish, resAll, resOf, one, astep, aop, parsFrom, Opd.ev, getS, putS, keepS, nth, setN, abin, ↓reduceIte, Nat.reduceEqDiff, reduceCtorEq, Nat.reduceAdd, writeAt, Nat.reduceLeDiff, ne_eq, backE, backM, ABox.back, Nat.reduceLT, Int.reduceLT, Int.reduceLE, Int.reduceNeg, litsOf, sepAll, fillParts, AOp.argIds, ob, og, ox]
          exact hr _ _
        · simp only [E44, hb2, hb1, r1, wid_ints, Bool.or_false, Bool.false_eq_true, EVT, finish, resAll, resOf, one, astep, aop, parsFrom, Opd.ev, getS, putS, keepS, nth, setN, abin, ↓reduceIte, Nat.reduceEqDiff, reduceCtorEq, Nat.reduceAdd, writeAt, Nat.reduceLeDiff, ne_eq, backE, backM, ABox.back, Nat.reduceLT, Int.reduceLT, Int.reduceLE, Int.reduceNeg, litsOf, sepAll, fillParts, AOp.argIds, ob, og, ox]
          exact hi
      · simp only [E44, hb1, Bool.not_false, Bool.true_or, EVT, finish, resAll, resOf, one, astep, aop, parsFrom, Opd.ev, getS, putS, keepS, nth, setN, abin, ↓reduceIte, Nat.reduceEqDiff, reduceCtorEq, Nat.reduceAdd, writeAt, Nat.reduceLeDiff, ne_eq, backE, backM, ABox.back, Nat.reduceLT, Int.reduceLT, Int.reduceLE, Int.reduceNeg, litsOf, sepAll, fillParts, AOp.argIds, ob, og, ox]
        exact hr _ _
    · simp only [E44, hb, Bool.not_true, Bool.false_eq_true, EVT, finish, resAll, resOf, one, astep, aop, parsFrom, Opd.ev, getS, putS, keepS, nth, setN, abin, ↓reduceIte, Nat.reduceEqDiff, reduceCtorEq, Nat.reduceAdd, writeAt, Nat.reduceLeDiff, ne_eq, backE, backM, ABox.back, Nat.reduceLT, Int.reduceLT, Int.reduceLE, Int.reduceNeg, litsOf, sepAll, fillParts, AOp.argIds, ob, og, ox]
      exact hx _ _ _
theorem c44 (nodes : List Node) (next cookie ino : Int) (h : Asc nodes) (hn : nodes.length ≤ 100000) : acall tab 44 [.ptr 0 0, .int .i64 ino] [.cells [eNodes nodes, .int .i64 next, .int .i64 cookie]] =
    some (.slice .sh ((upsN nodes ino).map eInt), [.cells [eNodes nodes, .int .i64 next, .int .i64 cookie]]) := by
  refine acall_ex rfl rfl rfl ?_
  simp only [fn44, E44, EVT, finish, resAll, resOf, one, astep, aop, parsFrom, Opd.ev, getS, putS, keepS, nth, setN, abin, ↓reduceIte, Nat.reduceEqDiff, reduceCtorEq, Nat.reduceAdd, writeAt, Nat.reduceLeDiff, ne_eq, backE, backM, ABox.back, Nat.reduceLT, Int.reduceLT, Int.reduceLE, Int.reduceNeg, litsOf, sepAll, fillParts, AOp.argIds, ob, og, ox]
  exact loop44 (R := fun out => some (.slice .sh (out.map eInt), [.cells [eNodes nodes, .int .i64 next, .int .i64 cookie]])) h hn (fun out v q => by simp only [E44, EVT, finish, resAll, resOf, one, astep, aop, parsFrom, Opd.ev, getS, putS, keepS, nth, setN, abin, ↓reduceIte, Nat.reduceEqDiff, reduceCtorEq, Nat.reduceAdd, writeAt, Nat.reduceLeDiff, ne_eq, backE, backM, ABox.back, Nat.reduceLT, Int.reduceLT, Int.reduceLE, Int.reduceNeg, litsOf, sepAll, fillParts, AOp.argIds, ob, og, ox]) (fun out b => by simp only [E44, EVT, finish, resAll, resOf, one, astep, aop, parsFrom, Opd.ev, getS, putS, keepS, nth, setN, abin, ↓reduceIte, Nat.reduceEqDiff, reduceCtorEq, Nat.reduceAdd, writeAt, Nat.reduceLeDiff, ne_eq, backE, backM, ABox.back, Nat.reduceLT, Int.reduceLT, Int.reduceLE, Int.reduceNeg, litsOf, sepAll, fillParts, AOp.argIds, ob, og, ox]) nodes.length ino [ino] (by simp; omega)
theorem k44 (nodes : List Node) (next cookie ino : Int) (h : Asc nodes) (hn : nodes.length ≤ 100000) (p : Nat) (M : AMem) (hM : nth M p = some (.cells [eNodes nodes, .int .i64 next, .int .i64 cookie])) :
    callOp (acall tab) 44 [.ptr p 0, .int .i64 ino] M = some (.slice .sh ((upsN nodes ino).map eInt), M) := by
  have := callOp1 hM (c44 nodes next cookie ino h hn) rfl rfl rfl rfl rfl rfl rfl rfl rfl rfl
  rwa [set_nth hM] at this
theorem upsGo_len (nodes : List Node) : ∀ (m : Nat) (ino : Int) (out : List Int), out.length ≤ (upsGo nodes m ino out).length ∧ (upsGo nodes m ino out).length ≤ out.length + m
  | 0, _, out => ⟨Nat.le_refl _, Nat.le_refl _⟩
  | m + 1, ino, out => by
    rw [upsGo]
    split
    · split
      · exact ⟨Nat.le_refl _, by omega⟩
      · have := upsGo_len nodes m (nodeN nodes ino).up (out ++ [(nodeN nodes ino).up])
        simp at this
        omega
    · exact ⟨Nat.le_refl _, by omega⟩
theorem upsN_len (nodes : List Node) (ino : Int) : 1 ≤ (upsN nodes ino).length ∧ (upsN nodes ino).length ≤ nodes.length + 1 := by
  have := upsGo_len nodes nodes.length ino [ino]
  simp at this
  unfold upsN
  omega
theorem c81 (nodes : List Node) (next cookie ino : Int) (h : Asc nodes) (hn : nodes.length ≤ 100000) : acall tab 81 [.ptr 0 0, .int .i64 ino] [.cells [eNodes nodes, .int .i64 next, .int .i64 cookie]] =
    some (.int .i64 (((upsN nodes ino).length - 1 : Nat) : Int), [.cells [eNodes nodes, .int .i64 next, .int .i64 cookie]]) := by
  refine acall_ex rfl rfl rfl ?_
  have hk := fun M => k44 nodes next cookie ino h hn 0 (.cells [eNodes nodes, .int .i64 next, .int .i64 cookie] :: M) rfl
  have hl := upsN_len nodes ino
  have hw : IntKind.i64.wrap (((upsN nodes ino).length : Int) - 1) = (((upsN nodes ino).length - 1 : Nat) : Int) := by rw [wrap_small (by omega) (by omega)]; omega
  simp only [fn81, E81, hk, hw, EVT, finish, resAll, resOf, one, astep, aop, parsFrom, Opd.ev, getS, putS, keepS, nth, setN, abin, ↓reduceIte, Nat.reduceEqDiff, reduceCtorEq, Nat.reduceAdd, writeAt, Nat.reduceLeDiff, ne_eq, backE, backM, ABox.back, Nat.reduceLT, Int.reduceLT, Int.reduceLE, Int.reduceNeg, litsOf, sepAll, fillParts, AOp.argIds, ob, og, ox]
theorem k81 (nodes : List Node) (next cookie ino : Int) (h : Asc nodes) (hn : nodes.length ≤ 100000) (p : Nat) (M : AMem) (hM : nth M p = some (.cells [eNodes nodes, .int .i64 next, .int .i64 cookie])) :
    callOp (acall tab) 81 [.ptr p 0, .int .i64 ino] M = some (.int .i64 (((upsN nodes ino).length - 1 : Nat) : Int), M) := by
  have := callOp1 hM (c81 nodes next cookie ino h hn) rfl rfl rfl rfl rfl rfl rfl rfl rfl rfl
  rwa [set_nth hM] at this
end Go.Proofs.YtnapockikkbkcaaGreat
/-
  What the program's functions do, over plain data: put. Own work.
-/
namespace Go.Proofs.YtnapockikkbkcaaGreat
open Go Go.Abs
attribute [local irreducible] exK opsK opK gK forkK kr acall callOp owhen obind

theorem withL_pre (n : Node) (rest : List Node) : ∀ (pre out : List Node), (∀ m, m ∈ pre → m.ino < n.ino) → withL n (pre ++ rest) out false = withL n rest (out ++ pre) false
  | [], out, _ => by simp
  | m :: r, out, h => by
    have hm := h m (List.mem_cons_self ..)
    have h1 : ¬ n.ino ≤ m.ino := by omega
    have h2 : ¬ m.ino = n.ino := by omega
    rw [List.cons_append, withL]
    simp only [ge_iff_le, h1, h2, decide_false, Bool.and_false, Bool.or_false, Bool.false_eq_true, if_false]
    rw [withL_pre n rest r _ fun x hx => h x (List.mem_cons_of_mem _ hx)]
    simp
theorem withL_post (n : Node) : ∀ (rest out : List Node), (∀ m, m ∈ rest → n.ino < m.ino) → withL n rest out true = (out ++ rest, true)
  | [], out, _ => by simp [withL]
  | m :: r, out, h => by
    have hm := h m (List.mem_cons_self ..)
    have h2 : ¬ m.ino = n.ino := by omega
    rw [withL]
    simp only [Bool.not_true, Bool.false_and, h2, Bool.true_or, Bool.false_eq_true, if_false]
    rw [withL_post n r _ fun x hx => h x (List.mem_cons_of_mem _ hx)]
    simp
theorem take_low {nodes : List Node} {ino : Int} {b : Nat} (h : LowI nodes ino b) : ∀ m, m ∈ nodes.take b → m.ino < ino := fun m hm => by
  obtain ⟨k, hk⟩ := List.getElem?_of_mem hm
  rw [List.getElem?_take] at hk
  split at hk
  · rename_i hlt; exact (h.lt k m hk).2 hlt
  · cases hk
theorem drop_high {nodes : List Node} {ino : Int} {b : Nat} (h : LowI nodes ino b) : ∀ m, m ∈ nodes.drop b → ino ≤ m.ino := fun m hm => by
  obtain ⟨k, hk⟩ := List.getElem?_of_mem hm
  rw [List.getElem?_drop] at hk
  have := h.lt _ m hk
  have hn : ¬ b + k < b := by omega
  have := fun hc => hn (this.1 hc)
  omega
theorem withN_ins {nodes : List Node} (h : Asc nodes) {n : Node} (hf : find nodes n.ino = none) : withN nodes n = nodes.take (lowB nodes n.ino) ++ n :: nodes.drop (lowB nodes n.ino) := by
  have hl := lowI_of h n.ino
  have hd : ∀ m, m ∈ nodes.drop (lowB nodes n.ino) → n.ino < m.ino := fun m hm => by
    have h1 := drop_high hl m hm
    have h2 := List.find?_eq_none.1 hf m (List.mem_of_mem_drop hm)
    have : ¬ m.ino = n.ino := by simpa using h2
    omega
  unfold withN
  rw [show withL n nodes [] false = withL n (nodes.take (lowB nodes n.ino) ++ nodes.drop (lowB nodes n.ino)) [] false by rw [List.take_append_drop]]
  rw [withL_pre n _ _ _ (take_low hl)]
  generalize nodes.drop (lowB nodes n.ino) = rest at hd
  cases rest with
  | nil => simp [withL]
  | cons m r =>
    have hm := hd m (List.mem_cons_self ..)
    have h1 : n.ino ≤ m.ino := by omega
    have h2 : ¬ m.ino = n.ino := by omega
    rw [withL]
    simp only [ge_iff_le, h1, h2, decide_true, Bool.not_false, Bool.and_true, Bool.or_true, if_true, if_false]
    rw [withL_post n r _ fun x hx => hd x (List.mem_cons_of_mem _ hx)]
    simp
theorem withN_set {nodes : List Node} (h : Asc nodes) {n o : Node} (ho : nodes[lowB nodes n.ino]? = some o) (he : o.ino = n.ino) : withN nodes n = nodes.set (lowB nodes n.ino) n := by
  have hl := lowI_of h n.ino
  have hlt := (List.getElem?_eq_some_iff.1 ho).1
  have hdr : nodes.drop (lowB nodes n.ino) = o :: nodes.drop (lowB nodes n.ino + 1) := by
    rw [List.drop_eq_getElem_cons hlt]
    rw [List.getElem?_eq_getElem hlt] at ho; injection ho with ho; rw [ho]
  have hd : ∀ m, m ∈ nodes.drop (lowB nodes n.ino + 1) → n.ino < m.ino := fun m hm => by
    obtain ⟨k, hk⟩ := List.getElem?_of_mem hm
    rw [List.getElem?_drop] at hk
    have hkl := (List.getElem?_eq_some_iff.1 hk).1
    have h3 := List.pairwise_iff_getElem.1 h _ _ hlt hkl (by omega)
    have h4 : nodes[lowB nodes n.ino + 1 + k] = m := by rw [List.getElem?_eq_getElem hkl] at hk; injection hk
    have h5 : nodes[lowB nodes n.ino] = o := by rw [List.getElem?_eq_getElem hlt] at ho; injection ho
    rw [h4, h5] at h3
    omega
  unfold withN
  rw [show withL n nodes [] false = withL n (nodes.take (lowB nodes n.ino) ++ nodes.drop (lowB nodes n.ino)) [] false by rw [List.take_append_drop]]
  rw [withL_pre n _ _ _ (take_low hl), hdr, withL]
  simp only [ge_iff_le, he, Int.le_refl, decide_true, Bool.not_false, Bool.and_true, Bool.or_true, if_true, List.append_nil]
  rw [withL_post n _ _ hd, List.set_eq_take_append_cons_drop, if_pos hlt]
  simp

/- the primitives -/
theorem p85 {nodes : List Node} (h0 : nodes ≠ []) (hn : nodes.length ≤ 100000) (M : AMem) : acall tab 85 [eNodes nodes] M = some (.aref M.length 0 6 0 nodes.length, M ++ [.arr 6 0 (nodes.map eNode)]) := by
  refine acall_prim (g := pClone 6 80) rfl ?_
  obtain ⟨a, r, rfl⟩ := List.exists_cons_of_ne_nil h0
  have hw : wid ((a :: r).map eNode) 6 := by have := wid_nodes (a :: r); simpa using this
  have hr : roomOk ((a :: r).map eNode).length 80 := by have := room_ok (a := (a :: r).length) (b := 80) (by omega) (by omega); simpa using this
  unfold pClone
  simp only [List.map_cons] at hw hr ⊢
  rw [owhen_pos ⟨hw, hr⟩]
  simp
theorem p86 {nodes : List Node} {b : Nat} (hb : b ≤ nodes.length) (hn : nodes.length ≤ 100000) (n : Node) (c0 c1 : ABox) :
    acall tab 86 [.aref 2 0 6 0 nodes.length, .int .i64 b, .slice .sh [.agg (eNodeC n)]] [c0, c1, .arr 6 0 (nodes.map eNode)] = some (.aref 2 1 6 0 (nodes.length + 1), [c0, c1, .arr 6 1 ((nodes.take b ++ n :: nodes.drop b).map eNode)]) := by
  refine acall_prim (g := pInsert 6 80) rfl ?_
  have hr : roomOk ((nodes.map eNode).length + 1) 80 := by have := room_ok (a := nodes.length + 1) (b := 80) (by omega) (by omega); simpa using this
  unfold pInsert
  simp only [nth]
  rw [owhen_pos ⟨trivial, trivial, trivial, by simp, by omega, by simpa using hb, rfl, hr⟩]
  simp [setN, eNode]
theorem setN_map (nodes : List Node) (b : Nat) (o n : Node) (h : nodes[b]? = some o) : (setN (nodes.map eNode) b (putCells (eNode o) 0 (eNodeC n))) = (nodes.set b n).map eNode := by
  have : putCells (eNode o) 0 (eNodeC n) = eNode n := rfl
  rw [this, setN_eq, List.map_set]

theorem c50 (nodes : List Node) (next cookie : Int) (n : Node) (h : Asc nodes) (h0 : nodes ≠ []) (hn : nodes.length ≤ 100000) : acall tab 50 [.ptr 0 0, eNode n] [.cells [eNodes nodes, .int .i64 next, .int .i64 cookie]] =
    some (.tuple [], [.cells [eNodes (withN nodes n), .int .i64 next, .int .i64 cookie]]) := by
  refine acall_ex rfl rfl rfl ?_
  have hk := fun M => k79 nodes next cookie n.ino h hn 0 (.cells [eNodes nodes, .int .i64 next, .int .i64 cookie] :: M) rfl
  have hp := fun M => p85 h0 hn M
  have hle := (lowI_of h n.ino).le
  simp only [fn50, E50, eNode, eNodeC, hk, hp, EVT, finish, resAll, resOf, one, astep, aop, parsFrom, Opd.ev, getS, putS, keepS, nth, setN, abin, ↓reduceIte, Nat.reduceEqDiff, reduceCtorEq, Nat.reduceAdd, writeAt, Nat.reduceLeDiff, ne_eq, backE, backM, ABox.back, Nat.reduceLT, Int.reduceLT, Int.reduceLE, Int.reduceNeg, litsOf, sepAll, fillParts, AOp.argIds, ob, og, ox]
  rcases at_find h n.ino with ⟨h1, o, h2, h3, h4⟩ | ⟨h1, h2⟩
  · have hlt : ((lowB nodes n.ino : Int) < (nodes.length : Int)) = True := by have := (List.getElem?_eq_some_iff.1 h2).1; simp; omega
    simp only [E50, h1, h2, hlt, Nat.sub_zero, List.getElem?_cons_zero, List.getElem?_cons_succ, EVT, finish, resAll, resOf, one, astep, aop, parsFrom, Opd.ev, getS, putS, keepS, nth, setN, abin, ↓reduceIte, Nat.reduceEqDiff, reduceCtorEq, Nat.reduceAdd, writeAt, Nat.reduceLeDiff, ne_eq, backE, backM, ABox.back, Nat.reduceLT, Int.reduceLT, Int.reduceLE, Int.reduceNeg, litsOf, sepAll, fillParts, AOp.argIds, ob, og, ox]
    have e := setN_map nodes _ o n h2
    simp only [eNodeC] at e
    rw [e, withN_set h h2 h4, List.take_of_length_le (by simp)]
  · have hi := fun c0 c1 => p86 hle hn n c0 c1
    simp only [eNodeC] at hi
    simp only [E50, h1, hi, List.getElem?_cons_zero, List.getElem?_cons_succ, EVT, finish, resAll, resOf, one, astep, aop, parsFrom, Opd.ev, getS, putS, keepS, nth, setN, abin, ↓reduceIte, Nat.reduceEqDiff, reduceCtorEq, Nat.reduceAdd, writeAt, Nat.reduceLeDiff, ne_eq, backE, backM, ABox.back, Nat.reduceLT, Int.reduceLT, Int.reduceLE, Int.reduceNeg, litsOf, sepAll, fillParts, AOp.argIds, ob, og, ox]
    rw [withN_ins h h2, List.take_of_length_le (by simp; omega)]
theorem k50 (nodes : List Node) (next cookie a b c : Int) (d : Bytes) (e : List Ent) (u : Int) (h : Asc nodes) (h0 : nodes ≠ []) (hn : nodes.length ≤ 100000) (p : Nat) (M : AMem) (hM : nth M p = some (.cells [eNodes nodes, .int .i64 next, .int .i64 cookie])) :
    callOp (acall tab) 50 [.ptr p 0, .agg [.int .i64 a, .int .i64 b, .int .i64 c, eData d, eEnts e, .int .i64 u]] M = some (.tuple [], setN M p (.cells [eNodes (withN nodes ⟨a, b, c, d, e, u⟩), .int .i64 next, .int .i64 cookie])) :=
  callOp1 hM (c50 nodes next cookie ⟨a, b, c, d, e, u⟩ h h0 hn) rfl rfl rfl rfl rfl rfl rfl rfl rfl rfl
end Go.Proofs.YtnapockikkbkcaaGreat
/-
  What the program's functions do, over plain data: drop, enter, leave. Own work.
-/
namespace Go.Proofs.YtnapockikkbkcaaGreat
open Go Go.Abs
attribute [local irreducible] exK opsK opK gK forkK kr acall callOp owhen obind

theorem FZ : (∀ M cs, AVal.frz M (.agg cs) = .agg (cs.map (AVal.frz0 M))) ∧ (∀ M i o, AVal.frz M (.ptr i o) = .ptr i o) ∧ (∀ M k n, AVal.frz M (.int k n) = .int k n) ∧ (∀ M s, AVal.frz M (.str s) = .str s) ∧
    (∀ M k n, AVal.frz0 M (.int k n) = .int k n) ∧ (∀ M s, AVal.frz0 M (.str s) = .str s) ∧ (∀ M tk xs, AVal.frz0 M (.slice tk xs) = .slice tk xs) ∧ (∀ M b, AVal.frz0 M (.bool b) = .bool b) ∧
    (∀ M id ver sz lo hi, AVal.frz0 M (.aref id ver sz lo hi) = match nth M id with
      | some (.arr _ v xs) => if v = ver then .slice .sh ((xs.take hi).drop lo) else .any
      | _ => .any) ∧ (∀ i a b c d, AVal.ids1 (.aref i a b c d) = [i]) := by
  refine ⟨?_, ?_, ?_, ?_, ?_, ?_, ?_, ?_, ?_, ?_⟩ <;> intros <;> rfl

theorem withoutN_del {nodes : List Node} (h : Asc nodes) {ino : Int} {o : Node} (ho : nodes[lowB nodes ino]? = some o) (he : o.ino = ino) : withoutN nodes ino = nodes.take (lowB nodes ino) ++ nodes.drop (lowB nodes ino + 1) := by
  have hl := lowI_of h ino
  have hlt := (List.getElem?_eq_some_iff.1 ho).1
  have hd : ∀ m, m ∈ nodes.drop (lowB nodes ino + 1) → ino < m.ino := fun m hm => by
    obtain ⟨k, hk⟩ := List.getElem?_of_mem hm
    rw [List.getElem?_drop] at hk
    have hkl := (List.getElem?_eq_some_iff.1 hk).1
    have h3 := List.pairwise_iff_getElem.1 h _ _ hlt hkl (by omega)
    have h4 : nodes[lowB nodes ino + 1 + k] = m := by rw [List.getElem?_eq_getElem hkl] at hk; injection hk
    have h5 : nodes[lowB nodes ino] = o := by rw [List.getElem?_eq_getElem hlt] at ho; injection ho
    rw [h4, h5] at h3
    omega
  have hdr : nodes.drop (lowB nodes ino) = o :: nodes.drop (lowB nodes ino + 1) := by
    rw [List.drop_eq_getElem_cons hlt]
    rw [List.getElem?_eq_getElem hlt] at ho; injection ho with ho; rw [ho]
  unfold withoutN
  rw [show nodes.filter (fun n => n.ino != ino) = (nodes.take (lowB nodes ino) ++ nodes.drop (lowB nodes ino)).filter (fun n => n.ino != ino) by rw [List.take_append_drop]]
  rw [List.filter_append, hdr, List.filter_cons]
  simp only [he, bne_self_eq_false, Bool.false_eq_true, if_false]
  rw [List.filter_eq_self.2 fun m hm => by have := take_low hl m hm; simp; omega, List.filter_eq_self.2 fun m hm => by have := hd m hm; simp; omega]
theorem withoutN_none {nodes : List Node} {ino : Int} (hf : find nodes ino = none) : withoutN nodes ino = nodes :=
  List.filter_eq_self.2 fun m hm => by simpa using List.find?_eq_none.1 hf m hm
theorem p109 {nodes : List Node} {b : Nat} (hb : b < nodes.length) (hn : nodes.length ≤ 100000) (c0 : ABox) :
    acall tab 109 [.aref 1 0 6 0 nodes.length, .int .i64 b, .int .i64 ((b + 1 : Nat) : Int)] [c0, .arr 6 0 (nodes.map eNode)] = some (.aref 1 1 6 0 (nodes.length - 1), [c0, .arr 6 1 ((nodes.take b ++ nodes.drop (b + 1)).map eNode)]) := by
  refine acall_prim (g := pDelete 6) rfl ?_
  unfold pDelete
  simp only [nth]
  rw [owhen_pos ⟨trivial, trivial, trivial, by simp, by omega, by simpa using hb, by omega, by simp; omega⟩]
  simp [setN]
theorem c75 (nodes : List Node) (next cookie ino : Int) (h : Asc nodes) (hn : nodes.length ≤ 100000) : acall tab 75 [.ptr 0 0, .int .i64 ino] [.cells [eNodes nodes, .int .i64 next, .int .i64 cookie]] =
    some (.tuple [], [.cells [eNodes (withoutN nodes ino), .int .i64 next, .int .i64 cookie]]) := by
  refine acall_ex rfl rfl rfl ?_
  have hk := fun M => k79 nodes next cookie ino h hn 0 (.cells [eNodes nodes, .int .i64 next, .int .i64 cookie] :: M) rfl
  simp only [fn75, E75, hk, EVT, finish, resAll, resOf, one, astep, aop, parsFrom, Opd.ev, getS, putS, keepS, nth, setN, abin, ↓reduceIte, Nat.reduceEqDiff, reduceCtorEq, Nat.reduceAdd, writeAt, Nat.reduceLeDiff, ne_eq, backE, backM, ABox.back, Nat.reduceLT, Int.reduceLT, Int.reduceLE, Int.reduceNeg, litsOf, sepAll, fillParts, AOp.argIds, ob, og, ox]
  rcases at_find h ino with ⟨h1, o, h2, h3, h4⟩ | ⟨h1, h2⟩
  · have hlt := (List.getElem?_eq_some_iff.1 h2).1
    have h0 : nodes ≠ [] := by rintro rfl; simp at h2
    have hp := fun M => p85 h0 hn M
    have hd := fun c0 => p109 hlt hn c0
    have hw : IntKind.i64.wrap ((lowB nodes ino : Int) + 1) = ((lowB nodes ino + 1 : Nat) : Int) := by rw [wrap_small (by omega) (by omega)]; rfl
    simp only [E75, h1, hp, hd, hw, List.getElem?_cons_zero, List.getElem?_cons_succ, EVT, finish, resAll, resOf, one, astep, aop, parsFrom, Opd.ev, getS, putS, keepS, nth, setN, abin, ↓reduceIte, Nat.reduceEqDiff, reduceCtorEq, Nat.reduceAdd, writeAt, Nat.reduceLeDiff, ne_eq, backE, backM, ABox.back, Nat.reduceLT, Int.reduceLT, Int.reduceLE, Int.reduceNeg, litsOf, sepAll, fillParts, AOp.argIds, ob, og, ox]
    rw [withoutN_del h h2 h4, List.take_of_length_le (by simp; omega)]
  · simp only [E75, h1, EVT, finish, resAll, resOf, one, astep, aop, parsFrom, Opd.ev, getS, putS, keepS, nth, setN, abin, ↓reduceIte, Nat.reduceEqDiff, reduceCtorEq, Nat.reduceAdd, writeAt, Nat.reduceLeDiff, ne_eq, backE, backM, ABox.back, Nat.reduceLT, Int.reduceLT, Int.reduceLE, Int.reduceNeg, litsOf, sepAll, fillParts, AOp.argIds, ob, og, ox]
    rw [withoutN_none h2]
theorem k75 (nodes : List Node) (next cookie ino : Int) (h : Asc nodes) (hn : nodes.length ≤ 100000) (p : Nat) (M : AMem) (hM : nth M p = some (.cells [eNodes nodes, .int .i64 next, .int .i64 cookie])) :
    callOp (acall tab) 75 [.ptr p 0, .int .i64 ino] M = some (.tuple [], setN M p (.cells [eNodes (withoutN nodes ino), .int .i64 next, .int .i64 cookie])) :=
  callOp1 hM (c75 nodes next cookie ino h hn) rfl rfl rfl rfl rfl rfl rfl rfl rfl rfl

/- entries -/
theorem strLt_asym {a b : Bytes} (h : strLt a b = true) : strLt b a = false := by
  cases hb : strLt b a with
  | false => rfl
  | true => have := strLt_trans h hb; rw [strLt_irrefl] at this; cases this
theorem strLt_total : ∀ (a b : Bytes), strLt a b = true ∨ a = b ∨ strLt b a = true
  | [], [] => .inr (.inl rfl)
  | [], _ :: _ => .inl rfl
  | _ :: _, [] => .inr (.inr rfl)
  | a :: x, b :: y => by
    simp only [strLt, Bool.or_eq_true, Bool.and_eq_true, decide_eq_true_eq, beq_iff_eq, List.cons.injEq, UInt8.lt_iff_toNat_lt]
    rcases strLt_total x y with h | h | h
    · rcases Nat.lt_trichotomy a.toNat b.toNat with h1 | h1 | h1
      · exact .inl (.inl h1)
      · exact .inl (.inr ⟨UInt8.toNat_inj.1 h1, h⟩)
      · exact .inr (.inr (.inl h1))
    · rcases Nat.lt_trichotomy a.toNat b.toNat with h1 | h1 | h1
      · exact .inl (.inl h1)
      · exact .inr (.inl ⟨UInt8.toNat_inj.1 h1, h⟩)
      · exact .inr (.inr (.inl h1))
    · rcases Nat.lt_trichotomy a.toNat b.toNat with h1 | h1 | h1
      · exact .inl (.inl h1)
      · exact .inr (.inr (.inr ⟨(UInt8.toNat_inj.1 h1).symm, h⟩))
      · exact .inr (.inr (.inl h1))
theorem gtB_of_lt {a b : Bytes} (h : strLt a b = true) : gtB a b = false := by simp [gtB, h]
theorem gtB_of_gt {a b : Bytes} (h : strLt b a = true) : gtB a b = true := by
  have h1 := strLt_asym h
  have h2 : ¬ a = b := by rintro rfl; rw [strLt_irrefl] at h; cases h
  simp [gtB, h1, h2]
theorem insL_pre (e : Ent) (rest : List Ent) : ∀ (pre out : List Ent), (∀ m, m ∈ pre → strLt m.name e.name = true) → insL e (pre ++ rest) out false = insL e rest (out ++ pre) false
  | [], out, _ => by simp
  | m :: r, out, h => by
    rw [List.cons_append, insL, gtB_of_lt (h m (List.mem_cons_self ..))]
    simp only [Bool.and_false, Bool.or_false, Bool.false_eq_true, if_false]
    rw [insL_pre e rest r _ fun x hx => h x (List.mem_cons_of_mem _ hx)]
    simp
theorem insL_post (e : Ent) : ∀ (rest out : List Ent), insL e rest out true = (out ++ rest, true)
  | [], out => by simp [insL]
  | m :: r, out => by
    rw [insL]
    simp only [Bool.not_true, Bool.false_and, Bool.true_or, Bool.false_eq_true, if_false]
    rw [insL_post e r]
    simp
theorem takeE_low {l : List Ent} {s : Bytes} {b : Nat} (h : LowE l s b) : ∀ m, m ∈ l.take b → strLt m.name s = true := fun m hm => by
  obtain ⟨k, hk⟩ := List.getElem?_of_mem hm
  rw [List.getElem?_take] at hk
  split at hk
  · rename_i hlt; exact (h.lt k m hk).2 hlt
  · cases hk
theorem dropE_high {l : List Ent} {s : Bytes} {b : Nat} (h : LowE l s b) : ∀ m, m ∈ l.drop b → strLt m.name s = false := fun m hm => by
  obtain ⟨k, hk⟩ := List.getElem?_of_mem hm
  rw [List.getElem?_drop] at hk
  have := h.lt _ m hk
  have hn : ¬ b + k < b := by omega
  cases hc : strLt m.name s with
  | false => rfl
  | true => exact absurd (this.1 hc) hn
theorem insE_ins {l : List Ent} (h : AscE l) {e : Ent} (hf : findE l e.name = none) : insE l e = l.take (lowE l e.name) ++ e :: l.drop (lowE l e.name) := by
  have hl := lowE_of h e.name
  have hd : ∀ m, m ∈ l.drop (lowE l e.name) → strLt e.name m.name = true := fun m hm => by
    have h1 := dropE_high hl m hm
    have h2 := List.find?_eq_none.1 hf m (List.mem_of_mem_drop hm)
    have h3 : ¬ m.name = e.name := by simpa using h2
    rcases strLt_total m.name e.name with h4 | h4 | h4
    · rw [h1] at h4; cases h4
    · exact absurd h4 h3
    · exact h4
  unfold insE
  rw [show insL e l [] false = insL e (l.take (lowE l e.name) ++ l.drop (lowE l e.name)) [] false by rw [List.take_append_drop]]
  rw [insL_pre e _ _ _ (takeE_low hl)]
  generalize l.drop (lowE l e.name) = rest at hd
  cases rest with
  | nil => simp [insL]
  | cons m r =>
    rw [insL, gtB_of_gt (hd m (List.mem_cons_self ..))]
    simp only [Bool.not_false, Bool.and_true, Bool.or_true, if_true]
    rw [insL_post]
    simp
theorem dropE_del {l : List Ent} (h : AscE l) {s : Bytes} {o : Ent} (ho : l[lowE l s]? = some o) (he : o.name = s) : dropE l s = l.take (lowE l s) ++ l.drop (lowE l s + 1) := by
  have hl := lowE_of h s
  have hlt := (List.getElem?_eq_some_iff.1 ho).1
  have hdr : l.drop (lowE l s) = o :: l.drop (lowE l s + 1) := by
    rw [List.drop_eq_getElem_cons hlt]
    rw [List.getElem?_eq_getElem hlt] at ho; injection ho with ho; rw [ho]
  have hd : ∀ m, m ∈ l.drop (lowE l s + 1) → strLt s m.name = true := fun m hm => by
    obtain ⟨k, hk⟩ := List.getElem?_of_mem hm
    rw [List.getElem?_drop] at hk
    have hkl := (List.getElem?_eq_some_iff.1 hk).1
    have h3 := List.pairwise_iff_getElem.1 h _ _ hlt hkl (by omega)
    have h4 : l[lowE l s + 1 + k] = m := by rw [List.getElem?_eq_getElem hkl] at hk; injection hk
    have h5 : l[lowE l s] = o := by rw [List.getElem?_eq_getElem hlt] at ho; injection ho
    rw [h4, h5, he] at h3
    exact h3
  have ne : ∀ {a b : Bytes}, strLt a b = true → ¬ a = b := fun {a b} h => by rintro rfl; rw [strLt_irrefl] at h; cases h
  unfold dropE
  rw [show l.filter (fun n => n.name != s) = (l.take (lowE l s) ++ l.drop (lowE l s)).filter (fun n => n.name != s) by rw [List.take_append_drop]]
  rw [List.filter_append, hdr, List.filter_cons]
  simp only [he, bne_self_eq_false, Bool.false_eq_true, if_false]
  rw [List.filter_eq_self.2 fun m hm => by simpa using ne (takeE_low hl m hm), List.filter_eq_self.2 fun m hm => by simpa using fun hc => ne (hd m hm) hc.symm]
theorem dropE_none {l : List Ent} {s : Bytes} (hf : findE l s = none) : dropE l s = l :=
  List.filter_eq_self.2 fun m hm => by simpa using List.find?_eq_none.1 hf m hm

/- the primitives at entries -/
theorem p58 {l : List Ent} (h0 : l ≠ []) (hn : l.length ≤ 100000) (M : AMem) : acall tab 58 [eEnts l] M = some (.aref M.length 0 3 0 l.length, M ++ [.arr 3 0 (l.map eEnt)]) := by
  refine acall_prim (g := pClone 3 32) rfl ?_
  obtain ⟨a, r, rfl⟩ := List.exists_cons_of_ne_nil h0
  have hw : wid ((a :: r).map eEnt) 3 := by have := wid_ents (a :: r); simpa using this
  have hr : roomOk ((a :: r).map eEnt).length 32 := by have := room_ok (a := (a :: r).length) (b := 32) (by omega) (by omega); simpa using this
  unfold pClone
  simp only [List.map_cons] at hw hr ⊢
  rw [owhen_pos ⟨hw, hr⟩]
  simp
theorem p58n (M : AMem) : acall tab 58 [.slice .sh []] M = some (.slice .c0 [], M) := acall_prim (g := pClone 3 32) rfl rfl
theorem p87 {l : List Ent} {b : Nat} (hb : b ≤ l.length) (hn : l.length ≤ 100000) (e : Ent) (c0 c1 : ABox) :
    acall tab 87 [.aref 2 0 3 0 l.length, .int .i64 b, .slice .sh [.agg (eEntC e)]] [c0, c1, .arr 3 0 (l.map eEnt)] = some (.aref 2 1 3 0 (l.length + 1), [c0, c1, .arr 3 1 ((l.take b ++ e :: l.drop b).map eEnt)]) := by
  refine acall_prim (g := pInsert 3 32) rfl ?_
  have hr : roomOk ((l.map eEnt).length + 1) 32 := by have := room_ok (a := l.length + 1) (b := 32) (by omega) (by omega); simpa using this
  unfold pInsert
  simp only [nth]
  rw [owhen_pos ⟨trivial, trivial, trivial, by simp, by omega, by simpa using hb, rfl, hr⟩]
  simp [setN, eEnt]
theorem p87n (e : Ent) (M : AMem) : acall tab 87 [.slice .c0 [], .int .i64 0, .slice .sh [.agg (eEntC e)]] M = some (.aref M.length 0 3 0 1, M ++ [.arr 3 0 [.agg (eEntC e)]]) := by
  refine acall_prim (g := pInsert 3 32) rfl ?_
  show owhen ((0 : Int) = 0 ∧ (AVal.agg (eEntC e)).cells.length = 3) _ = _
  exact owhen_pos ⟨rfl, rfl⟩
theorem p84 {l : List Ent} {b : Nat} (hb : b < l.length) (hn : l.length ≤ 100000) (c0 c1 : ABox) :
    acall tab 84 [.aref 2 0 3 0 l.length, .int .i64 b, .int .i64 ((b + 1 : Nat) : Int)] [c0, c1, .arr 3 0 (l.map eEnt)] = some (.aref 2 1 3 0 (l.length - 1), [c0, c1, .arr 3 1 ((l.take b ++ l.drop (b + 1)).map eEnt)]) := by
  refine acall_prim (g := pDelete 3) rfl ?_
  unfold pDelete
  simp only [nth]
  rw [owhen_pos ⟨trivial, trivial, trivial, by simp, by omega, by simpa using hb, by omega, by simp; omega⟩]
  simp [setN]
end Go.Proofs.YtnapockikkbkcaaGreat
/-
  What the program's functions do, over plain data: enter, leave, unnamed. Own work.
-/
namespace Go.Proofs.YtnapockikkbkcaaGreat
open Go Go.Abs
attribute [local irreducible] exK opsK opK gK forkK kr acall callOp owhen obind

theorem withN_self {nodes : List Node} (h : Asc nodes) {n : Node} (hf : find nodes n.ino = some n) : withN nodes n = nodes := by
  rcases at_find h n.ino with ⟨_, o, h2, h3, h4⟩ | ⟨_, h2⟩
  · rw [hf] at h3; injection h3 with h3; subst h3
    rw [withN_set h h2 rfl]
    apply List.ext_getElem?
    intro i
    by_cases e : lowB nodes n.ino = i
    · subst e; rw [List.getElem?_set_self (List.getElem?_eq_some_iff.1 h2).1, h2]
    · rw [List.getElem?_set_ne e]
  · rw [hf] at h2; cases h2

theorem c51 (nodes : List Node) (next cookie dir : Int) (s : Bytes) (ino : Int) (h : Asc nodes) (hn : nodes.length ≤ 100000) {n : Node} (hf : find nodes dir = some n) (hE : AscE n.ents) (hl : n.ents.length ≤ 99999) (hs : findE n.ents s = none) :
    acall tab 51 [.ptr 0 0, .int .i64 dir, .str s, .int .i64 ino] [.cells [eNodes nodes, .int .i64 next, .int .i64 cookie]] = some (.tuple [], [.cells (eTreeC (enteredN ⟨nodes, next, cookie⟩ dir s ino))]) := by
  refine acall_ex rfl rfl rfl ?_
  have h0 : nodes ≠ [] := by rintro rfl; simp [find] at hf
  have hnn : nodeN nodes dir = n := by simp [nodeN, hf]
  have hk := fun M => k43 nodes next cookie dir h hn 0 (.cells [eNodes nodes, .int .i64 next, .int .i64 cookie] :: M) rfl
  have hk2 := fun a b c d u M => k42 a b c d n.ents u s _ (lowE_of hE s) (by omega) M
  have hle := (lowE_of hE s).le
  have hres : enteredN ⟨nodes, next, cookie⟩ dir s ino = ⟨withN nodes { n with ents := n.ents.take (lowE n.ents s) ++ ⟨s, ino, cookie⟩ :: n.ents.drop (lowE n.ents s) }, next, w64 (cookie + 1)⟩ := by
    have := insE_ins hE (e := ⟨s, ino, cookie⟩) hs
    simp only [enteredN, hf, Option.getD_some, this]
  rw [hres, eTreeC]
  have hp := fun a b c d e u M => k50 nodes next (w64 (cookie + 1)) a b c d e u h h0 hn 0 (.cells [eNodes nodes, .int .i64 next, .int .i64 (w64 (cookie + 1))] :: M) rfl
  simp only [fn51, E51, hk, hnn, eNode, eNodeC, hk2, EVT, finish, resAll, resOf, one, astep, aop, parsFrom, Opd.ev, getS, putS, keepS, nth, setN, abin, ↓reduceIte, Nat.reduceEqDiff, reduceCtorEq, Nat.reduceAdd, writeAt, Nat.reduceLeDiff, ne_eq, backE, backM, ABox.back, Nat.reduceLT, Int.reduceLT, Int.reduceLE, Int.reduceNeg, litsOf, sepAll, fillParts, AOp.argIds, ob, og, ox]
  by_cases hne : n.ents = []
  · have hlow : lowE n.ents s = 0 := by rw [hne]; rfl
    have hi := fun M => p87n ⟨s, ino, cookie⟩ M
    simp only [eEntC] at hi
    have hlow0 : lowE [] s = 0 := rfl
    have hc0 : ((0 : Nat) : Int) = 0 := rfl
    simp only [E51, hne, hlow0, hc0, eEnts, List.map_nil, p58n, hi, FZ, frzM, List.take_nil, List.drop_nil, List.nil_append, EVT, finish, resAll, resOf, one, astep, aop, parsFrom, Opd.ev, getS, putS, keepS, nth, setN, abin, ↓reduceIte, Nat.reduceEqDiff, reduceCtorEq, Nat.reduceAdd, writeAt, Nat.reduceLeDiff, ne_eq, backE, backM, ABox.back, Nat.reduceLT, Int.reduceLT, Int.reduceLE, Int.reduceNeg, litsOf, sepAll, fillParts, AOp.argIds, ob, og, ox]
    rw [show AVal.slice .sh [AVal.agg [.str s, .int .i64 ino, .int .i64 cookie]] = eEnts [⟨s, ino, cookie⟩] from rfl]
    simp only [E51, hp, EVT, finish, resAll, resOf, one, astep, aop, parsFrom, Opd.ev, getS, putS, keepS, nth, setN, abin, ↓reduceIte, Nat.reduceEqDiff, reduceCtorEq, Nat.reduceAdd, writeAt, Nat.reduceLeDiff, ne_eq, backE, backM, ABox.back, Nat.reduceLT, Int.reduceLT, Int.reduceLE, Int.reduceNeg, litsOf, sepAll, fillParts, AOp.argIds, ob, og, ox]
  · have hc := fun M => p58 hne (show n.ents.length ≤ 100000 by omega) M
    have hi := fun c0 c1 => p87 hle (show n.ents.length ≤ 100000 by omega) ⟨s, ino, cookie⟩ c0 c1
    simp only [eEntC] at hi
    simp only [E51, hc, hi, FZ, frzM, EVT, finish, resAll, resOf, one, astep, aop, parsFrom, Opd.ev, getS, putS, keepS, nth, setN, abin, ↓reduceIte, Nat.reduceEqDiff, reduceCtorEq, Nat.reduceAdd, writeAt, Nat.reduceLeDiff, ne_eq, backE, backM, ABox.back, Nat.reduceLT, Int.reduceLT, Int.reduceLE, Int.reduceNeg, litsOf, sepAll, fillParts, AOp.argIds, ob, og, ox]
    have ht : List.take (n.ents.length + 1) (List.map eEnt (List.take (lowE n.ents s) n.ents ++ ⟨s, ino, cookie⟩ :: List.drop (lowE n.ents s) n.ents)) = List.map eEnt (List.take (lowE n.ents s) n.ents ++ ⟨s, ino, cookie⟩ :: List.drop (lowE n.ents s) n.ents) := List.take_of_length_le (by simp; omega)
    rw [ht]
    simp only [E51, hp, EVT, finish, resAll, resOf, one, astep, aop, parsFrom, Opd.ev, getS, putS, keepS, nth, setN, abin, ↓reduceIte, Nat.reduceEqDiff, reduceCtorEq, Nat.reduceAdd, writeAt, Nat.reduceLeDiff, ne_eq, backE, backM, ABox.back, Nat.reduceLT, Int.reduceLT, Int.reduceLE, Int.reduceNeg, litsOf, sepAll, fillParts, AOp.argIds, ob, og, ox]
theorem k51 (nodes : List Node) (next cookie dir : Int) (s : Bytes) (ino : Int) (h : Asc nodes) (hn : nodes.length ≤ 100000) {n : Node} (hf : find nodes dir = some n) (hE : AscE n.ents) (hl : n.ents.length ≤ 99999) (hs : findE n.ents s = none) (p : Nat) (M : AMem) (hM : nth M p = some (.cells [eNodes nodes, .int .i64 next, .int .i64 cookie])) :
    callOp (acall tab) 51 [.ptr p 0, .int .i64 dir, .str s, .int .i64 ino] M = some (.tuple [], setN M p (.cells (eTreeC (enteredN ⟨nodes, next, cookie⟩ dir s ino)))) :=
  callOp1 hM (c51 nodes next cookie dir s ino h hn hf hE hl hs) rfl rfl rfl rfl rfl rfl rfl rfl rfl rfl

theorem c48 (nodes : List Node) (next cookie dir : Int) (s : Bytes) (h : Asc nodes) (hn : nodes.length ≤ 100000) {n : Node} (hf : find nodes dir = some n) (hE : AscE n.ents) (hl : n.ents.length ≤ 99999) :
    acall tab 48 [.ptr 0 0, .int .i64 dir, .str s] [.cells [eNodes nodes, .int .i64 next, .int .i64 cookie]] = some (.tuple [], [.cells [eNodes (leftN nodes dir s), .int .i64 next, .int .i64 cookie]]) := by
  refine acall_ex rfl rfl rfl ?_
  have h0 : nodes ≠ [] := by rintro rfl; simp [find] at hf
  have hnn : nodeN nodes dir = n := by simp [nodeN, hf]
  have hino : n.ino = dir := (find_mem hf).2
  have hk := fun M => k43 nodes next cookie dir h hn 0 (.cells [eNodes nodes, .int .i64 next, .int .i64 cookie] :: M) rfl
  have hk2 := fun a b c d u M => k42 a b c d n.ents u s _ (lowE_of hE s) (by omega) M
  have hp := fun a b c d e u M => k50 nodes next cookie a b c d e u h h0 hn 0 (.cells [eNodes nodes, .int .i64 next, .int .i64 cookie] :: M) rfl
  have hres : leftN nodes dir s = withN nodes { n with ents := dropE n.ents s } := by simp only [leftN, hf, Option.getD_some]
  rw [hres]
  simp only [fn48, E48, hk, hnn, eNode, eNodeC, hk2, EVT, finish, resAll, resOf, one, astep, aop, parsFrom, Opd.ev, getS, putS, keepS, nth, setN, abin, ↓reduceIte, Nat.reduceEqDiff, reduceCtorEq, Nat.reduceAdd, writeAt, Nat.reduceLeDiff, ne_eq, backE, backM, ABox.back, Nat.reduceLT, Int.reduceLT, Int.reduceLE, Int.reduceNeg, litsOf, sepAll, fillParts, AOp.argIds, ob, og, ox]
  rcases at_findE hE s with ⟨h1, o, h2, h3, h4⟩ | ⟨h1, h2⟩
  · have hlt := (List.getElem?_eq_some_iff.1 h2).1
    have hne : n.ents ≠ [] := by intro hc; rw [hc] at h2; simp at h2
    have hc := fun M => p58 hne (show n.ents.length ≤ 100000 by omega) M
    have hd := fun c0 c1 => p84 hlt (show n.ents.length ≤ 100000 by omega) c0 c1
    have hw : IntKind.i64.wrap ((lowE n.ents s : Int) + 1) = ((lowE n.ents s + 1 : Nat) : Int) := by rw [wrap_small (by omega) (by omega)]; rfl
    simp only [E48, h1, hc, hd, hw, FZ, frzM, EVT, finish, resAll, resOf, one, astep, aop, parsFrom, Opd.ev, getS, putS, keepS, nth, setN, abin, ↓reduceIte, Nat.reduceEqDiff, reduceCtorEq, Nat.reduceAdd, writeAt, Nat.reduceLeDiff, ne_eq, backE, backM, ABox.back, Nat.reduceLT, Int.reduceLT, Int.reduceLE, Int.reduceNeg, litsOf, sepAll, fillParts, AOp.argIds, ob, og, ox]
    have ht : List.take (n.ents.length - 1) (List.map eEnt (List.take (lowE n.ents s) n.ents ++ List.drop (lowE n.ents s + 1) n.ents)) = List.map eEnt (List.take (lowE n.ents s) n.ents ++ List.drop (lowE n.ents s + 1) n.ents) := List.take_of_length_le (by simp; omega)
    rw [ht]
    simp only [E48, hp, EVT, finish, resAll, resOf, one, astep, aop, parsFrom, Opd.ev, getS, putS, keepS, nth, setN, abin, ↓reduceIte, Nat.reduceEqDiff, reduceCtorEq, Nat.reduceAdd, writeAt, Nat.reduceLeDiff, ne_eq, backE, backM, ABox.back, Nat.reduceLT, Int.reduceLT, Int.reduceLE, Int.reduceNeg, litsOf, sepAll, fillParts, AOp.argIds, ob, og, ox]
    rw [dropE_del hE h2 h4]
  · simp only [E48, h1, EVT, finish, resAll, resOf, one, astep, aop, parsFrom, Opd.ev, getS, putS, keepS, nth, setN, abin, ↓reduceIte, Nat.reduceEqDiff, reduceCtorEq, Nat.reduceAdd, writeAt, Nat.reduceLeDiff, ne_eq, backE, backM, ABox.back, Nat.reduceLT, Int.reduceLT, Int.reduceLE, Int.reduceNeg, litsOf, sepAll, fillParts, AOp.argIds, ob, og, ox]
    rw [dropE_none h2]
    have : withN nodes n = nodes := withN_self h (by rw [hino]; exact hf)
    rw [show ({ n with ents := n.ents } : Node) = n from rfl, this]
theorem k48 (nodes : List Node) (next cookie dir : Int) (s : Bytes) (h : Asc nodes) (hn : nodes.length ≤ 100000) {n : Node} (hf : find nodes dir = some n) (hE : AscE n.ents) (hl : n.ents.length ≤ 99999) (p : Nat) (M : AMem) (hM : nth M p = some (.cells [eNodes nodes, .int .i64 next, .int .i64 cookie])) :
    callOp (acall tab) 48 [.ptr p 0, .int .i64 dir, .str s] M = some (.tuple [], setN M p (.cells [eNodes (leftN nodes dir s), .int .i64 next, .int .i64 cookie])) :=
  callOp1 hM (c48 nodes next cookie dir s h hn hf hE hl) rfl rfl rfl rfl rfl rfl rfl rfl rfl rfl

/-- A node that was read has one name less. -/
def unnamedW (nodes : List Node) (n : Node) : List Node := if (n.kind == 2) = true then withoutN nodes n.ino else withN nodes { n with links := w64 (n.links - 1) }
theorem c49 (nodes : List Node) (next cookie : Int) (n : Node) (h : Asc nodes) (h0 : nodes ≠ []) (hn : nodes.length ≤ 100000) :
    acall tab 49 [.ptr 0 0, eNode n] [.cells [eNodes nodes, .int .i64 next, .int .i64 cookie]] = some (.tuple [], [.cells [eNodes (unnamedW nodes n), .int .i64 next, .int .i64 cookie]]) := by
  refine acall_ex rfl rfl rfl ?_
  have hp := fun a b c d e u M => k50 nodes next cookie a b c d e u h h0 hn 0 (.cells [eNodes nodes, .int .i64 next, .int .i64 cookie] :: M) rfl
  have hd := fun M => k75 nodes next cookie n.ino h hn 0 (.cells [eNodes nodes, .int .i64 next, .int .i64 cookie] :: M) rfl
  simp only [fn49, E49, eNode, eNodeC, EVT, finish, resAll, resOf, one, astep, aop, parsFrom, Opd.ev, getS, putS, keepS, nth, setN, abin, ↓reduceIte, Nat.reduceEqDiff, reduceCtorEq, Nat.reduceAdd, writeAt, Nat.reduceLeDiff, ne_eq, backE, backM, ABox.back, Nat.reduceLT, Int.reduceLT, Int.reduceLE, Int.reduceNeg, litsOf, sepAll, fillParts, AOp.argIds, ob, og, ox]
  unfold unnamedW
  refine fork_split (fun hb => ?_) (fun hb => ?_)
  · simp only [E49, hb, hd, EVT, finish, resAll, resOf, one, astep, aop, parsFrom, Opd.ev, getS, putS, keepS, nth, setN, abin, ↓reduceIte, Nat.reduceEqDiff, reduceCtorEq, Nat.reduceAdd, writeAt, Nat.reduceLeDiff, ne_eq, backE, backM, ABox.back, Nat.reduceLT, Int.reduceLT, Int.reduceLE, Int.reduceNeg, litsOf, sepAll, fillParts, AOp.argIds, ob, og, ox]
  · simp only [E49, hb, hp, Bool.false_eq_true, EVT, finish, resAll, resOf, one, astep, aop, parsFrom, Opd.ev, getS, putS, keepS, nth, setN, abin, ↓reduceIte, Nat.reduceEqDiff, reduceCtorEq, Nat.reduceAdd, writeAt, Nat.reduceLeDiff, ne_eq, backE, backM, ABox.back, Nat.reduceLT, Int.reduceLT, Int.reduceLE, Int.reduceNeg, litsOf, sepAll, fillParts, AOp.argIds, ob, og, ox]
theorem k49 (nodes : List Node) (next cookie a b c : Int) (d : Bytes) (e : List Ent) (u : Int) (h : Asc nodes) (h0 : nodes ≠ []) (hn : nodes.length ≤ 100000) (p : Nat) (M : AMem) (hM : nth M p = some (.cells [eNodes nodes, .int .i64 next, .int .i64 cookie])) :
    callOp (acall tab) 49 [.ptr p 0, .agg [.int .i64 a, .int .i64 b, .int .i64 c, eData d, eEnts e, .int .i64 u]] M = some (.tuple [], setN M p (.cells [eNodes (unnamedW nodes ⟨a, b, c, d, e, u⟩), .int .i64 next, .int .i64 cookie])) :=
  callOp1 hM (c49 nodes next cookie ⟨a, b, c, d, e, u⟩ h h0 hn) rfl rfl rfl rfl rfl rfl rfl rfl rfl rfl
end Go.Proofs.YtnapockikkbkcaaGreat
/-
  What the program's functions do, over plain data: may, Add, Ln, Un, Put, Free. Own work.
-/
namespace Go.Proofs.YtnapockikkbkcaaGreat
open Go Go.Abs
attribute [local irreducible] exK opsK opK gK forkK kr acall callOp owhen obind

def upDepth (nodes : List Node) (ino : Int) : Nat := (upsN nodes ino).length - 1
/-- The error of one more entry. -/
def mayErr (t : Tree) (dir : Int) (s : Bytes) : Int :=
  if ((dirN t.nodes dir).2 != 0) = true then (dirN t.nodes dir).2 else if (!nameOk s) = true then 60 else if (findE (dirN t.nodes dir).1.ents s).isSome = true then 71 else
  if (decide ((64 : Int) ≤ (dirN t.nodes dir).1.ents.length) || (decide ((12 : Int) ≤ upDepth t.nodes dir) || decide ((1099511627776 : Int) ≤ t.cookie))) = true then 76 else 0
theorem c70 (nodes : List Node) (next cookie dir : Int) (s : Bytes) (ht : Small ⟨nodes, next, cookie⟩) (hr : Srt ⟨nodes, next, cookie⟩) (hs : s.length ≤ 100000) (ha : Ascii s) :
    acall tab 70 [.ptr 0 0, .int .i64 dir, .str s] [.cells [eNodes nodes, .int .i64 next, .int .i64 cookie]] = some (.int .i64 (mayErr ⟨nodes, next, cookie⟩ dir s), [.cells [eNodes nodes, .int .i64 next, .int .i64 cookie]]) := by
  have hn : nodes.length ≤ 100000 := ht.nodes
  have hd : (dirN nodes dir).1.ents.length ≤ 100000 := dirN_ents ht dir
  have hE : AscE (dirN nodes dir).1.ents := hr.dir dir
  have hk := fun M => k40 nodes next cookie dir hr.asc hn 0 (.cells [eNodes nodes, .int .i64 next, .int .i64 cookie] :: M) rfl
  have hk2 := fun a b c d u M => k42 a b c d (dirN nodes dir).1.ents u s _ (lowE_of hE s) hd M
  have hk3 : ∀ M, callOp (acall tab) 81 [.ptr 0 0, .int .i64 dir] (.cells [eNodes nodes, .int .i64 next, .int .i64 cookie] :: M) = some (.int .i64 (upDepth nodes dir), .cells [eNodes nodes, .int .i64 next, .int .i64 cookie] :: M) := fun M => k81 nodes next cookie dir hr.asc hn 0 (.cells [eNodes nodes, .int .i64 next, .int .i64 cookie] :: M) rfl
  refine acall_ex rfl rfl rfl ?_
  simp only [fn70, E70, hk, eNode, eNodeC, EVT, finish, resAll, resOf, one, astep, aop, parsFrom, Opd.ev, getS, putS, keepS, nth, setN, abin, ↓reduceIte, Nat.reduceEqDiff, reduceCtorEq, Nat.reduceAdd, writeAt, Nat.reduceLeDiff, ne_eq, backE, backM, ABox.back, Nat.reduceLT, Int.reduceLT, Int.reduceLE, Int.reduceNeg, litsOf, sepAll, fillParts, AOp.argIds, ob, og, ox]
  refine fork_split (fun hb => ?_) (fun hb => ?_)
  · simp only [E70, hb, EVT, finish, resAll, resOf, one, astep, aop, parsFrom, Opd.ev, getS, putS, keepS, nth, setN, abin, ↓reduceIte, Nat.reduceEqDiff, reduceCtorEq, Nat.reduceAdd, writeAt, Nat.reduceLeDiff, ne_eq, backE, backM, ABox.back, Nat.reduceLT, Int.reduceLT, Int.reduceLE, Int.reduceNeg, litsOf, sepAll, fillParts, AOp.argIds, ob, og, ox]
    clear hk hk2 hk3
    simp_all only [mayErr, Bool.and_true, Bool.true_and, Bool.and_false, Bool.false_and, Bool.or_true, Bool.true_or, Bool.or_false, Bool.false_or, Bool.not_true, Bool.not_false, Bool.and_self, Bool.or_self, ↓reduceIte, Bool.false_eq_true, reduceCtorEq, beq_self_eq_true, bne_self_eq_false]
  simp only [E70, hb, k41, hs, ha, EVT, finish, resAll, resOf, one, astep, aop, parsFrom, Opd.ev, getS, putS, keepS, nth, setN, abin, ↓reduceIte, Nat.reduceEqDiff, reduceCtorEq, Nat.reduceAdd, writeAt, Nat.reduceLeDiff, ne_eq, backE, backM, ABox.back, Nat.reduceLT, Int.reduceLT, Int.reduceLE, Int.reduceNeg, litsOf, sepAll, fillParts, AOp.argIds, ob, og, ox]
  refine fork_split (fun hb1 => ?_) (fun hb1 => ?_)
  · simp only [E70, hb1, EVT, finish, resAll, resOf, one, astep, aop, parsFrom, Opd.ev, getS, putS, keepS, nth, setN, abin, ↓reduceIte, Nat.reduceEqDiff, reduceCtorEq, Nat.reduceAdd, writeAt, Nat.reduceLeDiff, ne_eq, backE, backM, ABox.back, Nat.reduceLT, Int.reduceLT, Int.reduceLE, Int.reduceNeg, litsOf, sepAll, fillParts, AOp.argIds, ob, og, ox]
    clear hk hk2 hk3
    simp_all only [mayErr, Bool.and_true, Bool.true_and, Bool.and_false, Bool.false_and, Bool.or_true, Bool.true_or, Bool.or_false, Bool.false_or, Bool.not_true, Bool.not_false, Bool.and_self, Bool.or_self, ↓reduceIte, Bool.false_eq_true, reduceCtorEq, beq_self_eq_true, bne_self_eq_false]
  simp only [E70, hb1, hk2, EVT, finish, resAll, resOf, one, astep, aop, parsFrom, Opd.ev, getS, putS, keepS, nth, setN, abin, ↓reduceIte, Nat.reduceEqDiff, reduceCtorEq, Nat.reduceAdd, writeAt, Nat.reduceLeDiff, ne_eq, backE, backM, ABox.back, Nat.reduceLT, Int.reduceLT, Int.reduceLE, Int.reduceNeg, litsOf, sepAll, fillParts, AOp.argIds, ob, og, ox]
  rcases at_findE hE s with ⟨h1, o, h2, h3, h4⟩ | ⟨h1, h2⟩
  · simp only [E70, h1, EVT, finish, resAll, resOf, one, astep, aop, parsFrom, Opd.ev, getS, putS, keepS, nth, setN, abin, ↓reduceIte, Nat.reduceEqDiff, reduceCtorEq, Nat.reduceAdd, writeAt, Nat.reduceLeDiff, ne_eq, backE, backM, ABox.back, Nat.reduceLT, Int.reduceLT, Int.reduceLE, Int.reduceNeg, litsOf, sepAll, fillParts, AOp.argIds, ob, og, ox]
    clear hk hk2 hk3
    simp_all only [mayErr, Option.isSome_some, Bool.and_true, Bool.true_and, Bool.and_false, Bool.false_and, Bool.or_true, Bool.true_or, Bool.or_false, Bool.false_or, Bool.not_true, Bool.not_false, Bool.and_self, Bool.or_self, ↓reduceIte, Bool.false_eq_true, reduceCtorEq, beq_self_eq_true, bne_self_eq_false]
  · simp only [E70, h1, EVT, finish, resAll, resOf, one, astep, aop, parsFrom, Opd.ev, getS, putS, keepS, nth, setN, abin, ↓reduceIte, Nat.reduceEqDiff, reduceCtorEq, Nat.reduceAdd, writeAt, Nat.reduceLeDiff, ne_eq, backE, backM, ABox.back, Nat.reduceLT, Int.reduceLT, Int.reduceLE, Int.reduceNeg, litsOf, sepAll, fillParts, AOp.argIds, ob, og, ox]
    repeat' (first | (refine fork_split (fun hb => ?_) (fun hb => ?_) <;> simp only [hb, E70, hk3, EVT, finish, resAll, resOf, one, astep, aop, parsFrom, Opd.ev, getS, putS, keepS, nth, setN, abin, ↓reduceIte, Nat.reduceEqDiff, reduceCtorEq, Nat.reduceAdd, writeAt, Nat.reduceLeDiff, ne_eq, backE, backM, ABox.back, Nat.reduceLT, Int.reduceLT, Int.reduceLE, Int.reduceNeg, litsOf, sepAll, fillParts, AOp.argIds, ob, og, ox]) | (refine guard_split (fun hb => ?_) (fun hb => ?_) <;> simp only [hb, E70, hk3, EVT, finish, resAll, resOf, one, astep, aop, parsFrom, Opd.ev, getS, putS, keepS, nth, setN, abin, ↓reduceIte, Nat.reduceEqDiff, reduceCtorEq, Nat.reduceAdd, writeAt, Nat.reduceLeDiff, ne_eq, backE, backM, ABox.back, Nat.reduceLT, Int.reduceLT, Int.reduceLE, Int.reduceNeg, litsOf, sepAll, fillParts, AOp.argIds, ob, og, ox]) | (refine opK_pick (fun hb => ?_) (fun hb => ?_) <;> simp only [hb, E70, hk3, EVT, finish, resAll, resOf, one, astep, aop, parsFrom, Opd.ev, getS, putS, keepS, nth, setN, abin, ↓reduceIte, Nat.reduceEqDiff, reduceCtorEq, Nat.reduceAdd, writeAt, Nat.reduceLeDiff, ne_eq, backE, backM, ABox.back, Nat.reduceLT, Int.reduceLT, Int.reduceLE, Int.reduceNeg, litsOf, sepAll, fillParts, AOp.argIds, ob, og, ox]))
    all_goals (clear hk hk2 hk3; simp_all only [mayErr, Option.isSome_none, Bool.and_true, Bool.true_and, Bool.and_false, Bool.false_and, Bool.or_true, Bool.true_or, Bool.or_false, Bool.false_or, Bool.not_true, Bool.not_false, Bool.and_self, Bool.or_self, ↓reduceIte, Bool.false_eq_true, reduceCtorEq, beq_self_eq_true, bne_self_eq_false]; done)
theorem k70 (nodes : List Node) (next cookie dir : Int) (s : Bytes) (ht : Small ⟨nodes, next, cookie⟩) (hr : Srt ⟨nodes, next, cookie⟩) (hs : s.length ≤ 100000) (ha : Ascii s) (p : Nat) (M : AMem) (hM : nth M p = some (.cells [eNodes nodes, .int .i64 next, .int .i64 cookie])) :
    callOp (acall tab) 70 [.ptr p 0, .int .i64 dir, .str s] M = some (.int .i64 (mayErr ⟨nodes, next, cookie⟩ dir s), M) := by
  have := callOp1 hM (c70 nodes next cookie dir s ht hr hs ha) rfl rfl rfl rfl rfl rfl rfl rfl rfl rfl
  rwa [set_nth hM] at this

/-- The error of a node that is moved onto another one. -/
def ontoN (x y : Node) : Int := if (x.kind == 2 && y.kind != 2) = true then 73 else if (x.kind != 2 && y.kind == 2) = true then 72 else if decide ((0 : Int) < y.ents.length) = true then 74 else 0
theorem c46 (x y : Node) : acall tab 46 [eNode x, eNode y] [] = some (.int .i64 (ontoN x y), []) := by
  refine acall_ex rfl rfl rfl ?_
  simp only [fn46, E46, eNode, eNodeC, EVT, finish, resAll, resOf, one, astep, aop, parsFrom, Opd.ev, getS, putS, keepS, nth, setN, abin, ↓reduceIte, Nat.reduceEqDiff, reduceCtorEq, Nat.reduceAdd, writeAt, Nat.reduceLeDiff, ne_eq, backE, backM, ABox.back, Nat.reduceLT, Int.reduceLT, Int.reduceLE, Int.reduceNeg, litsOf, sepAll, fillParts, AOp.argIds, ob, og, ox]
  repeat' (first | (refine fork_split (fun hb => ?_) (fun hb => ?_) <;> simp only [hb, E46, EVT, finish, resAll, resOf, one, astep, aop, parsFrom, Opd.ev, getS, putS, keepS, nth, setN, abin, ↓reduceIte, Nat.reduceEqDiff, reduceCtorEq, Nat.reduceAdd, writeAt, Nat.reduceLeDiff, ne_eq, backE, backM, ABox.back, Nat.reduceLT, Int.reduceLT, Int.reduceLE, Int.reduceNeg, litsOf, sepAll, fillParts, AOp.argIds, ob, og, ox]) | (refine guard_split (fun hb => ?_) (fun hb => ?_) <;> simp only [hb, E46, EVT, finish, resAll, resOf, one, astep, aop, parsFrom, Opd.ev, getS, putS, keepS, nth, setN, abin, ↓reduceIte, Nat.reduceEqDiff, reduceCtorEq, Nat.reduceAdd, writeAt, Nat.reduceLeDiff, ne_eq, backE, backM, ABox.back, Nat.reduceLT, Int.reduceLT, Int.reduceLE, Int.reduceNeg, litsOf, sepAll, fillParts, AOp.argIds, ob, og, ox]) | (refine opK_pick (fun hb => ?_) (fun hb => ?_) <;> simp only [hb, E46, EVT, finish, resAll, resOf, one, astep, aop, parsFrom, Opd.ev, getS, putS, keepS, nth, setN, abin, ↓reduceIte, Nat.reduceEqDiff, reduceCtorEq, Nat.reduceAdd, writeAt, Nat.reduceLeDiff, ne_eq, backE, backM, ABox.back, Nat.reduceLT, Int.reduceLT, Int.reduceLE, Int.reduceNeg, litsOf, sepAll, fillParts, AOp.argIds, ob, og, ox]))
  all_goals (simp_all only [ontoN, Bool.and_true, Bool.true_and, Bool.and_false, Bool.false_and, Bool.or_true, Bool.true_or, Bool.or_false, Bool.false_or, Bool.not_true, Bool.not_false, Bool.and_self, Bool.or_self, ↓reduceIte, Bool.false_eq_true, reduceCtorEq, beq_self_eq_true, bne_self_eq_false]; done)

/- Free, Put -/
theorem c35 (t : Tree) (ino : Int) (ht : Small t) (hr : Srt t) : acall tab 35 [eTree t, .int .i64 ino] [] = some (.tuple [eTree (freeN t ino).1, .int .i64 (freeN t ino).2], []) := by
  obtain ⟨nodes, next, cookie⟩ := t
  have hn : nodes.length ≤ 100000 := ht.nodes
  refine acall_ex rfl rfl rfl ?_
  have hk := fun b c M => k43 nodes next cookie ino hr.asc hn 2 (b :: c :: .cells [eNodes nodes, .int .i64 next, .int .i64 cookie] :: M) rfl
  have hd := fun b c M => k75 nodes next cookie ino hr.asc hn 2 (b :: c :: .cells [eNodes nodes, .int .i64 next, .int .i64 cookie] :: M) rfl
  simp only [fn35, E35, eTree, eTreeC, hk, eNode, eNodeC, EVT, finish, resAll, resOf, one, astep, aop, parsFrom, Opd.ev, getS, putS, keepS, nth, setN, abin, ↓reduceIte, Nat.reduceEqDiff, reduceCtorEq, Nat.reduceAdd, writeAt, Nat.reduceLeDiff, ne_eq, backE, backM, ABox.back, Nat.reduceLT, Int.reduceLT, Int.reduceLE, Int.reduceNeg, litsOf, sepAll, fillParts, AOp.argIds, ob, og, ox]
  repeat' (first | (refine fork_split (fun hb => ?_) (fun hb => ?_) <;> simp only [hb, E35, hd, EVT, finish, resAll, resOf, one, astep, aop, parsFrom, Opd.ev, getS, putS, keepS, nth, setN, abin, ↓reduceIte, Nat.reduceEqDiff, reduceCtorEq, Nat.reduceAdd, writeAt, Nat.reduceLeDiff, ne_eq, backE, backM, ABox.back, Nat.reduceLT, Int.reduceLT, Int.reduceLE, Int.reduceNeg, litsOf, sepAll, fillParts, AOp.argIds, ob, og, ox]) | (refine guard_split (fun hb => ?_) (fun hb => ?_) <;> simp only [hb, E35, hd, EVT, finish, resAll, resOf, one, astep, aop, parsFrom, Opd.ev, getS, putS, keepS, nth, setN, abin, ↓reduceIte, Nat.reduceEqDiff, reduceCtorEq, Nat.reduceAdd, writeAt, Nat.reduceLeDiff, ne_eq, backE, backM, ABox.back, Nat.reduceLT, Int.reduceLT, Int.reduceLE, Int.reduceNeg, litsOf, sepAll, fillParts, AOp.argIds, ob, og, ox]) | (refine opK_pick (fun hb => ?_) (fun hb => ?_) <;> simp only [hb, E35, hd, EVT, finish, resAll, resOf, one, astep, aop, parsFrom, Opd.ev, getS, putS, keepS, nth, setN, abin, ↓reduceIte, Nat.reduceEqDiff, reduceCtorEq, Nat.reduceAdd, writeAt, Nat.reduceLeDiff, ne_eq, backE, backM, ABox.back, Nat.reduceLT, Int.reduceLT, Int.reduceLE, Int.reduceNeg, litsOf, sepAll, fillParts, AOp.argIds, ob, og, ox]))
  all_goals (clear hk hd; simp_all only [freeN, eTree, eTreeC, Bool.and_true, Bool.true_and, Bool.and_false, Bool.false_and, Bool.or_true, Bool.true_or, Bool.or_false, Bool.false_or, Bool.not_true, Bool.not_false, Bool.and_self, Bool.or_self, ↓reduceIte, Bool.false_eq_true, reduceCtorEq, beq_self_eq_true, bne_self_eq_false]; done)
theorem k107 (data : Bytes) (hd : data.length ≤ 100000) (M : AMem) : callOp (acall tab) 107 [eData data] M = some (eData data, M) := by
  refine callOp0 (acall_prim (g := pCopy 1 1) rfl ?_) rfl rfl rfl rfl rfl M
  have hw : wid (data.map eByte) 1 := by have := wid_bytes data; simpa using this
  have hr : roomOk (data.map eByte).length 1 := by have := room_ok (a := data.length) (b := 1) (by omega) (by omega); simpa using this
  exact owhen_pos ⟨hw, hr⟩
theorem c71 (t : Tree) (ino : Int) (data : Bytes) (ht : Small t) (hr : Srt t) (hd : data.length ≤ 100000) : acall tab 71 [eTree t, .int .i64 ino, eData data] [] = some (.tuple [eTree (putN t ino data).1, .int .i64 (putN t ino data).2], []) := by
  obtain ⟨nodes, next, cookie⟩ := t
  have hn : nodes.length ≤ 100000 := ht.nodes
  refine acall_ex rfl rfl rfl ?_
  have hk := fun b c M => k43 nodes next cookie ino hr.asc hn 2 (b :: c :: .cells [eNodes nodes, .int .i64 next, .int .i64 cookie] :: M) rfl
  simp only [fn71, E71, eTree, eTreeC, hk, eNode, eNodeC, EVT, finish, resAll, resOf, one, astep, aop, parsFrom, Opd.ev, getS, putS, keepS, nth, setN, abin, ↓reduceIte, Nat.reduceEqDiff, reduceCtorEq, Nat.reduceAdd, writeAt, Nat.reduceLeDiff, ne_eq, backE, backM, ABox.back, Nat.reduceLT, Int.reduceLT, Int.reduceLE, Int.reduceNeg, litsOf, sepAll, fillParts, AOp.argIds, ob, og, ox]
  cases hf : find nodes ino with
  | none =>
    simp only [E71, Option.isSome_none, EVT, finish, resAll, resOf, one, astep, aop, parsFrom, Opd.ev, getS, putS, keepS, nth, setN, abin, ↓reduceIte, Nat.reduceEqDiff, reduceCtorEq, Nat.reduceAdd, writeAt, Nat.reduceLeDiff, ne_eq, backE, backM, ABox.back, Nat.reduceLT, Int.reduceLT, Int.reduceLE, Int.reduceNeg, litsOf, sepAll, fillParts, AOp.argIds, ob, og, ox]
    clear hk
    simp_all only [putN, eTree, eTreeC, Option.isSome_none, Bool.and_true, Bool.true_and, Bool.and_false, Bool.false_and, Bool.or_true, Bool.true_or, Bool.or_false, Bool.false_or, Bool.not_true, Bool.not_false, Bool.and_self, Bool.or_self, ↓reduceIte, Bool.false_eq_true, reduceCtorEq, beq_self_eq_true, bne_self_eq_false]
  | some n =>
    have h0 : nodes ≠ [] := by rintro rfl; simp [find] at hf
    have hp := fun x y a b c d e u M => k50 nodes next cookie a b c d e u hr.asc h0 hn 2 (x :: y :: .cells [eNodes nodes, .int .i64 next, .int .i64 cookie] :: M) rfl
    have hc := fun M => k107 data hd M
    simp only [E71, Option.isSome_some, EVT, finish, resAll, resOf, one, astep, aop, parsFrom, Opd.ev, getS, putS, keepS, nth, setN, abin, ↓reduceIte, Nat.reduceEqDiff, reduceCtorEq, Nat.reduceAdd, writeAt, Nat.reduceLeDiff, ne_eq, backE, backM, ABox.back, Nat.reduceLT, Int.reduceLT, Int.reduceLE, Int.reduceNeg, litsOf, sepAll, fillParts, AOp.argIds, ob, og, ox]
    repeat' (first | (refine fork_split (fun hb => ?_) (fun hb => ?_) <;> simp only [hb, E71, hp, hc, EVT, finish, resAll, resOf, one, astep, aop, parsFrom, Opd.ev, getS, putS, keepS, nth, setN, abin, ↓reduceIte, Nat.reduceEqDiff, reduceCtorEq, Nat.reduceAdd, writeAt, Nat.reduceLeDiff, ne_eq, backE, backM, ABox.back, Nat.reduceLT, Int.reduceLT, Int.reduceLE, Int.reduceNeg, litsOf, sepAll, fillParts, AOp.argIds, ob, og, ox]) | (refine guard_split (fun hb => ?_) (fun hb => ?_) <;> simp only [hb, E71, hp, hc, EVT, finish, resAll, resOf, one, astep, aop, parsFrom, Opd.ev, getS, putS, keepS, nth, setN, abin, ↓reduceIte, Nat.reduceEqDiff, reduceCtorEq, Nat.reduceAdd, writeAt, Nat.reduceLeDiff, ne_eq, backE, backM, ABox.back, Nat.reduceLT, Int.reduceLT, Int.reduceLE, Int.reduceNeg, litsOf, sepAll, fillParts, AOp.argIds, ob, og, ox]) | (refine opK_pick (fun hb => ?_) (fun hb => ?_) <;> simp only [hb, E71, hp, hc, EVT, finish, resAll, resOf, one, astep, aop, parsFrom, Opd.ev, getS, putS, keepS, nth, setN, abin, ↓reduceIte, Nat.reduceEqDiff, reduceCtorEq, Nat.reduceAdd, writeAt, Nat.reduceLeDiff, ne_eq, backE, backM, ABox.back, Nat.reduceLT, Int.reduceLT, Int.reduceLE, Int.reduceNeg, litsOf, sepAll, fillParts, AOp.argIds, ob, og, ox]))
    all_goals (clear hk hp hc; simp_all only [putN, eTree, eTreeC, Option.isSome_some, Bool.and_true, Bool.true_and, Bool.and_false, Bool.false_and, Bool.or_true, Bool.true_or, Bool.or_false, Bool.false_or, Bool.not_true, Bool.not_false, Bool.and_self, Bool.or_self, ↓reduceIte, Bool.false_eq_true, reduceCtorEq, beq_self_eq_true, bne_self_eq_false]; done)
end Go.Proofs.YtnapockikkbkcaaGreat
/-
  Rows that ascend, and what a change leaves of them. Own work.
-/
namespace Go.Proofs.YtnapockikkbkcaaGreat
open Go Go.Abs

theorem asc_unique {nodes : List Node} (h : Asc nodes) {a b : Node} (ha : a ∈ nodes) (hb : b ∈ nodes) (he : a.ino = b.ino) : a = b := by
  obtain ⟨i, hi⟩ := List.getElem?_of_mem ha
  obtain ⟨k, hk⟩ := List.getElem?_of_mem hb
  have hil := (List.getElem?_eq_some_iff.1 hi).1
  have hkl := (List.getElem?_eq_some_iff.1 hk).1
  have e1 : nodes[i] = a := by rw [List.getElem?_eq_getElem hil] at hi; injection hi
  have e2 : nodes[k] = b := by rw [List.getElem?_eq_getElem hkl] at hk; injection hk
  rcases Nat.lt_trichotomy i k with hlt | heq | hgt
  · have := List.pairwise_iff_getElem.1 h _ _ hil hkl hlt
    rw [e1, e2] at this; omega
  · subst heq; rw [← e1, ← e2]
  · have := List.pairwise_iff_getElem.1 h _ _ hkl hil hgt
    rw [e1, e2] at this; omega
theorem find_iff {nodes : List Node} (h : Asc nodes) {i : Int} {m : Node} : find nodes i = some m ↔ m ∈ nodes ∧ m.ino = i := by
  refine ⟨find_mem, fun ⟨h1, h2⟩ => ?_⟩
  cases hf : find nodes i with
  | none =>
    have := List.find?_eq_none.1 hf m h1
    simp [h2] at this
  | some k =>
    obtain ⟨k1, k2⟩ := find_mem hf
    rw [asc_unique h h1 k1 (by omega)]
theorem find_none_iff {nodes : List Node} {i : Int} : find nodes i = none ↔ ∀ m, m ∈ nodes → m.ino ≠ i := by
  unfold find
  rw [List.find?_eq_none]
  simp
theorem set_split {nodes : List Node} {b : Nat} {o n : Node} (ho : nodes[b]? = some o) : nodes = nodes.take b ++ o :: nodes.drop (b + 1) ∧ nodes.set b n = nodes.take b ++ n :: nodes.drop (b + 1) := by
  have hlt := (List.getElem?_eq_some_iff.1 ho).1
  constructor
  · rw [List.getElem?_eq_getElem hlt] at ho; injection ho with ho
    conv => lhs; rw [← List.take_append_drop b nodes]
    rw [List.drop_eq_getElem_cons hlt, ho]
  · rw [List.set_eq_take_append_cons_drop, if_pos hlt]
/-- What is with a node: it, and all others. -/
theorem mem_withN {nodes : List Node} (h : Asc nodes) {n m : Node} : m ∈ withN nodes n ↔ m = n ∨ (m ∈ nodes ∧ m.ino ≠ n.ino) := by
  rcases at_find h n.ino with ⟨_, o, h2, h3, h4⟩ | ⟨_, h2⟩
  · rw [withN_set h h2 h4]
    obtain ⟨s1, s2⟩ := set_split (n := n) h2
    have hon : o ∈ nodes := (find_mem h3).1
    constructor
    · intro hm
      rw [s2] at hm
      rcases List.mem_append.1 hm with hm | hm
      · have hmn := List.mem_of_mem_take hm
        have := take_low (lowI_of h n.ino) m hm
        exact .inr ⟨hmn, by omega⟩
      · rcases List.mem_cons.1 hm with rfl | hm
        · exact .inl rfl
        · refine .inr ⟨List.mem_of_mem_drop hm, fun he => ?_⟩
          have hp := h
          unfold Asc at hp
          rw [s1, List.pairwise_append] at hp
          have := (List.pairwise_cons.1 hp.2.1).1 m hm
          omega
    · rintro (rfl | ⟨hm, hne⟩)
      · rw [s2]; simp
      · rw [s1] at hm
        rw [s2]
        rcases List.mem_append.1 hm with hm | hm
        · exact List.mem_append_left _ hm
        · rcases List.mem_cons.1 hm with rfl | hm
          · exact absurd h4 hne
          · exact List.mem_append_right _ (List.mem_cons_of_mem _ hm)
  · rw [withN_ins h h2]
    rw [find_none_iff] at h2
    constructor
    · intro hm
      rcases List.mem_append.1 hm with hm | hm
      · have := List.mem_of_mem_take hm
        exact .inr ⟨this, h2 m this⟩
      · rcases List.mem_cons.1 hm with rfl | hm
        · exact .inl rfl
        · have := List.mem_of_mem_drop hm
          exact .inr ⟨this, h2 m this⟩
    · rintro (rfl | ⟨hm, _⟩)
      · simp
      · rw [← List.take_append_drop (lowB nodes n.ino) nodes] at hm
        rcases List.mem_append.1 hm with hm | hm
        · exact List.mem_append_left _ hm
        · exact List.mem_append_right _ (List.mem_cons_of_mem _ hm)
theorem withN_asc {nodes : List Node} (h : Asc nodes) (n : Node) : Asc (withN nodes n) := by
  have hl := lowI_of h n.ino
  rcases at_find h n.ino with ⟨_, o, h2, h3, h4⟩ | ⟨_, h2⟩
  · rw [withN_set h h2 h4]
    obtain ⟨s1, s2⟩ := set_split (n := n) h2
    have hp := h
    unfold Asc at hp ⊢
    rw [s1, List.pairwise_append] at hp
    obtain ⟨p1, p2, p3⟩ := hp
    obtain ⟨p4, p5⟩ := List.pairwise_cons.1 p2
    rw [s2, List.pairwise_append]
    refine ⟨p1, List.pairwise_cons.2 ⟨fun m hm => by have := p4 m hm; omega, p5⟩, fun a ha c hc => ?_⟩
    rcases List.mem_cons.1 hc with rfl | hc
    · exact take_low hl a ha
    · exact p3 a ha c (List.mem_cons_of_mem _ hc)
  · rw [withN_ins h h2]
    have hp := h
    unfold Asc at hp ⊢
    rw [← List.take_append_drop (lowB nodes n.ino) nodes, List.pairwise_append] at hp
    obtain ⟨p1, p2, p3⟩ := hp
    rw [find_none_iff] at h2
    rw [List.pairwise_append]
    refine ⟨p1, List.pairwise_cons.2 ⟨fun m hm => ?_, p2⟩, fun a ha c hc => ?_⟩
    · have k1 := drop_high hl m hm
      have k2 := h2 m (List.mem_of_mem_drop hm)
      omega
    · rcases List.mem_cons.1 hc with rfl | hc
      · exact take_low hl a ha
      · exact p3 a ha c hc
theorem find_withN {nodes : List Node} (h : Asc nodes) (n : Node) (i : Int) : find (withN nodes n) i = if i = n.ino then some n else find nodes i := by
  split
  · rename_i he
    exact (find_iff (withN_asc h n)).2 ⟨(mem_withN h).2 (.inl rfl), he.symm⟩
  · rename_i hne
    cases hf : find nodes i with
    | none =>
      rw [find_none_iff] at hf ⊢
      intro m hm
      rcases (mem_withN h).1 hm with rfl | ⟨hm, _⟩
      · exact fun he => hne he.symm
      · exact hf m hm
    | some m =>
      obtain ⟨h1, h2⟩ := find_mem hf
      exact (find_iff (withN_asc h n)).2 ⟨(mem_withN h).2 (.inr ⟨h1, by omega⟩), h2⟩
theorem withoutN_asc {nodes : List Node} (h : Asc nodes) (i : Int) : Asc (withoutN nodes i) := List.Pairwise.filter _ h
theorem find_withoutN {nodes : List Node} (h : Asc nodes) (k i : Int) : find (withoutN nodes k) i = if i = k then none else find nodes i := by
  split
  · rename_i he
    rw [find_none_iff]
    intro m hm
    have := (List.mem_filter.1 hm).2
    simp at this
    omega
  · rename_i hne
    cases hf : find nodes i with
    | none =>
      rw [find_none_iff] at hf ⊢
      exact fun m hm => hf m (List.mem_filter.1 hm).1
    | some m =>
      obtain ⟨h1, h2⟩ := find_mem hf
      exact (find_iff (withoutN_asc h k)).2 ⟨List.mem_filter.2 ⟨h1, by simp; omega⟩, h2⟩
theorem insE_asc {l : List Ent} (h : AscE l) {e : Ent} (hf : findE l e.name = none) : AscE (insE l e) := by
  rw [insE_ins h hf]
  have hl := lowE_of h e.name
  have hp := h
  unfold AscE at hp ⊢
  rw [← List.take_append_drop (lowE l e.name) l, List.pairwise_append] at hp
  obtain ⟨p1, p2, p3⟩ := hp
  rw [List.pairwise_append]
  refine ⟨p1, List.pairwise_cons.2 ⟨fun m hm => ?_, p2⟩, fun a ha c hc => ?_⟩
  · have k1 := dropE_high hl m hm
    have k2 : ¬ m.name = e.name := by simpa using List.find?_eq_none.1 hf m (List.mem_of_mem_drop hm)
    rcases strLt_total m.name e.name with h4 | h4 | h4
    · rw [k1] at h4; cases h4
    · exact absurd h4 k2
    · exact h4
  · rcases List.mem_cons.1 hc with rfl | hc
    · exact takeE_low hl a ha
    · exact p3 a ha c hc
theorem dropE_asc {l : List Ent} (h : AscE l) (s : Bytes) : AscE (dropE l s) := List.Pairwise.filter _ h
theorem Srt.with {t : Tree} (h : Srt t) {n : Node} (hn : AscE n.ents) (next cookie : Int) : Srt ⟨withN t.nodes n, next, cookie⟩ :=
  ⟨withN_asc h.asc n, fun m hm => by
    rcases (mem_withN h.asc).1 hm with rfl | ⟨hm, _⟩
    · exact hn
    · exact h.ents m hm⟩
theorem Srt.without {t : Tree} (h : Srt t) (i next cookie : Int) : Srt ⟨withoutN t.nodes i, next, cookie⟩ :=
  ⟨withoutN_asc h.asc i, fun m hm => h.ents m (List.mem_filter.1 hm).1⟩
theorem Srt.node {t : Tree} (h : Srt t) (i : Int) : AscE (nodeN t.nodes i).ents := by
  cases hf : find t.nodes i with
  | none => simp [nodeN, hf, Node.zero]; exact List.Pairwise.nil
  | some n => simp [nodeN, hf]; exact h.ents n (find_mem hf).1
theorem Srt.left {t : Tree} (h : Srt t) (i : Int) (s : Bytes) (next cookie : Int) : Srt ⟨leftN t.nodes i s, next, cookie⟩ :=
  h.with (n := { nodeN t.nodes i with ents := dropE (nodeN t.nodes i).ents s }) (dropE_asc (h.node i) s) next cookie
theorem Srt.entered {t : Tree} (h : Srt t) (i : Int) (s : Bytes) (of : Int) (hf : findE (nodeN t.nodes i).ents s = none) : Srt (enteredN t i s of) :=
  h.with (n := { nodeN t.nodes i with ents := insE (nodeN t.nodes i).ents ⟨s, of, t.cookie⟩ }) (insE_asc (h.node i) hf) t.next (w64 (t.cookie + 1))
end Go.Proofs.YtnapockikkbkcaaGreat
/-
  What the program's functions do, over plain data: Add, Ln, Un. Own work.
-/
namespace Go.Proofs.YtnapockikkbkcaaGreat
open Go Go.Abs
attribute [local irreducible] exK opsK opK gK forkK kr acall callOp owhen obind

theorem dir_ok {nodes : List Node} {dir : Int} (h : (dirN nodes dir).2 = 0) : ∃ d, find nodes dir = some d ∧ d.kind = 2 ∧ dirN nodes dir = (d, 0) := by
  unfold dirN at h ⊢
  split at h
  · cases h
  · rename_i d hd
    split at h
    · rename_i hk; exact ⟨d, hd, hk, by simp [hd, hk]⟩
    · cases h
theorem may_ok {t : Tree} {dir : Int} {s : Bytes} (h : (mayErr t dir s != 0) = false) : ∃ d, find t.nodes dir = some d ∧ d.kind = 2 ∧ nameOk s = true ∧ findE d.ents s = none ∧ d.ents.length < 64 ∧ upDepth t.nodes dir < 12 ∧ t.cookie < 1099511627776 := by
  have h : mayErr t dir s = 0 := by simpa using h
  unfold mayErr at h
  split at h
  · rename_i hc
    rw [h] at hc; cases hc
  · rename_i hc
    obtain ⟨d, h1, h2, h3⟩ := dir_ok (by simpa using hc)
    rw [h3] at h
    split at h
    · cases h
    · rename_i hk
      split at h
      · cases h
      · rename_i hf
        split at h
        · cases h
        · rename_i hm
          simp at hk hf hm
          exact ⟨d, h1, h2, hk, hf, by omega, by omega, by omega⟩

def addW (t : Tree) (ino : Int) (s : Bytes) (kind : Int) : Tree × Int × Int :=
  if (kind != 1 && kind != 2) = true then (t, 0, 1) else if (mayErr t ino s != 0) = true then (t, 0, mayErr t ino s) else
  if (decide ((200 : Int) ≤ t.nodes.length) || decide ((1099511627776 : Int) ≤ t.next)) = true then (t, 0, 76) else
  (enteredN ⟨withN t.nodes ⟨t.next, kind, 1, [], [], if (kind == 2) = true then ino else 0⟩, w64 (t.next + 1), t.cookie⟩ ino s t.next, t.next, 0)
theorem c28 (t : Tree) (dir : Int) (s : Bytes) (kind : Int) (hz : Sz 1000 t) (hr : Srt t) (hs : s.length ≤ 100000) (ha : Ascii s) (hnew : ∀ m, m ∈ t.nodes → m.ino < t.next) :
    acall tab 28 [eTree t, .int .i64 dir, .str s, .int .i64 kind] [] = some (.tuple [eTree (addW t dir s kind).1, .int .i64 (addW t dir s kind).2.1, .int .i64 (addW t dir s kind).2.2], []) := by
  obtain ⟨nodes, next, cookie⟩ := t
  have ht : Small ⟨nodes, next, cookie⟩ := hz.small (by omega)
  have hn : nodes.length ≤ 100000 := ht.nodes
  have hk := fun b c M => k70 nodes next cookie dir s ht hr hs ha 2 (b :: c :: .cells [eNodes nodes, .int .i64 next, .int .i64 cookie] :: M) rfl
  have last : (mayErr ⟨nodes, next, cookie⟩ dir s != 0) = false → ∀ u, nodes ≠ [] ∧ ∀ b c M, callOp (acall tab) 51 [.ptr 2 0, .int .i64 dir, .str s, .int .i64 next] (b :: c :: .cells [eNodes (withN nodes ⟨next, kind, 1, [], [], u⟩), .int .i64 (w64 (next + 1)), .int .i64 cookie] :: M) =
      some (.tuple [], b :: c :: .cells (eTreeC (enteredN ⟨withN nodes ⟨next, kind, 1, [], [], u⟩, w64 (next + 1), cookie⟩ dir s next)) :: M) := fun hm u => by
    obtain ⟨d, d1, d2, d3, d4, d5, d6, d7⟩ := may_ok hm
    have dm := find_mem d1
    have hlt := hnew d dm.1
    simp only at hlt
    refine ⟨by rintro rfl; simp [find] at d1, fun b c M => ?_⟩
    have hz1 : Sz 1001 ⟨withN nodes ⟨next, kind, 1, [], [], u⟩, w64 (next + 1), cookie⟩ := hz.with (n := ⟨next, kind, 1, [], [], u⟩) (by simp) (by simp) (w64 (next + 1)) cookie
    have hf : find (withN nodes ⟨next, kind, 1, [], [], u⟩) dir = some d := by rw [find_withN hr.asc, if_neg (by simp; omega)]; exact d1
    exact k51 (withN nodes ⟨next, kind, 1, [], [], u⟩) (w64 (next + 1)) cookie dir s next (withN_asc hr.asc _) (hz1.small (by omega)).nodes hf (hr.ents d dm.1) (by omega) d4 2 (b :: c :: .cells [eNodes (withN nodes ⟨next, kind, 1, [], [], u⟩), .int .i64 (w64 (next + 1)), .int .i64 cookie] :: M) rfl
  refine acall_ex rfl rfl rfl ?_
  simp only [fn28, E28, eTree, eTreeC, hk, EVT, finish, resAll, resOf, one, astep, aop, parsFrom, Opd.ev, getS, putS, keepS, nth, setN, abin, ↓reduceIte, Nat.reduceEqDiff, reduceCtorEq, Nat.reduceAdd, writeAt, Nat.reduceLeDiff, ne_eq, backE, backM, ABox.back, Nat.reduceLT, Int.reduceLT, Int.reduceLE, Int.reduceNeg, litsOf, sepAll, fillParts, AOp.argIds, ob, og, ox]
  repeat' (first | (refine fork_split (fun hb => ?_) (fun hb => ?_) <;> simp only [hb, E28, hk, EVT, finish, resAll, resOf, one, astep, aop, parsFrom, Opd.ev, getS, putS, keepS, nth, setN, abin, ↓reduceIte, Nat.reduceEqDiff, reduceCtorEq, Nat.reduceAdd, writeAt, Nat.reduceLeDiff, ne_eq, backE, backM, ABox.back, Nat.reduceLT, Int.reduceLT, Int.reduceLE, Int.reduceNeg, litsOf, sepAll, fillParts, AOp.argIds, ob, og, ox]) | (refine guard_split (fun hb => ?_) (fun hb => ?_) <;> simp only [hb, E28, hk, EVT, finish, resAll, resOf, one, astep, aop, parsFrom, Opd.ev, getS, putS, keepS, nth, setN, abin, ↓reduceIte, Nat.reduceEqDiff, reduceCtorEq, Nat.reduceAdd, writeAt, Nat.reduceLeDiff, ne_eq, backE, backM, ABox.back, Nat.reduceLT, Int.reduceLT, Int.reduceLE, Int.reduceNeg, litsOf, sepAll, fillParts, AOp.argIds, ob, og, ox]) | (refine opK_pick (fun hb => ?_) (fun hb => ?_) <;> simp only [hb, E28, hk, EVT, finish, resAll, resOf, one, astep, aop, parsFrom, Opd.ev, getS, putS, keepS, nth, setN, abin, ↓reduceIte, Nat.reduceEqDiff, reduceCtorEq, Nat.reduceAdd, writeAt, Nat.reduceLeDiff, ne_eq, backE, backM, ABox.back, Nat.reduceLT, Int.reduceLT, Int.reduceLE, Int.reduceNeg, litsOf, sepAll, fillParts, AOp.argIds, ob, og, ox]))
  all_goals try (clear hk last; simp_all only [addW, eTree, eTreeC, Bool.and_true, Bool.true_and, Bool.and_false, Bool.false_and, Bool.or_true, Bool.true_or, Bool.or_false, Bool.false_or, Bool.not_true, Bool.not_false, Bool.and_self, Bool.or_self, ↓reduceIte, Bool.false_eq_true, reduceCtorEq, beq_self_eq_true, bne_self_eq_false]; done)
  all_goals
    have hm : (mayErr ⟨nodes, next, cookie⟩ dir s != 0) = false := by assumption
    have h0 := (last hm 0).1
    have hp : ∀ u b c M, callOp (acall tab) 50 [.ptr 2 0, .agg [.int .i64 next, .int .i64 kind, .int .i64 1, .slice .sh [], .slice .sh [], .int .i64 u]] (b :: c :: .cells [eNodes nodes, .int .i64 (w64 (next + 1)), .int .i64 cookie] :: M) =
        some (.tuple [], b :: c :: .cells [eNodes (withN nodes ⟨next, kind, 1, [], [], u⟩), .int .i64 (w64 (next + 1)), .int .i64 cookie] :: M) := fun u b c M => k50 nodes (w64 (next + 1)) cookie next kind 1 [] [] u hr.asc h0 hn 2 (b :: c :: .cells [eNodes nodes, .int .i64 (w64 (next + 1)), .int .i64 cookie] :: M) rfl
    have hl := fun u => (last hm u).2
    simp only [E28, hp, hl, eTreeC, EVT, finish, resAll, resOf, one, astep, aop, parsFrom, Opd.ev, getS, putS, keepS, nth, setN, abin, ↓reduceIte, Nat.reduceEqDiff, reduceCtorEq, Nat.reduceAdd, writeAt, Nat.reduceLeDiff, ne_eq, backE, backM, ABox.back, Nat.reduceLT, Int.reduceLT, Int.reduceLE, Int.reduceNeg, litsOf, sepAll, fillParts, AOp.argIds, ob, og, ox]
    clear hk last hp hl
    simp_all only [addW, eTree, eTreeC, Bool.and_true, Bool.true_and, Bool.and_false, Bool.false_and, Bool.or_true, Bool.true_or, Bool.or_false, Bool.false_or, Bool.not_true, Bool.not_false, Bool.and_self, Bool.or_self, ↓reduceIte, Bool.false_eq_true, reduceCtorEq, beq_self_eq_true, bne_self_eq_false]
theorem k28 (nodes : List Node) (next cookie dir : Int) (s : Bytes) (kind : Int) (hz : Sz 1000 ⟨nodes, next, cookie⟩) (hr : Srt ⟨nodes, next, cookie⟩) (hs : s.length ≤ 100000) (ha : Ascii s) (hnew : ∀ m, m ∈ nodes → m.ino < next) (M : AMem) : callOp (acall tab) 28 [.agg [eNodes nodes, .int .i64 next, .int .i64 cookie], .int .i64 dir, .str s, .int .i64 kind] M =
    some (.tuple [eTree (addW ⟨nodes, next, cookie⟩ dir s kind).1, .int .i64 (addW ⟨nodes, next, cookie⟩ dir s kind).2.1, .int .i64 (addW ⟨nodes, next, cookie⟩ dir s kind).2.2], M) := callOp0 (c28 ⟨nodes, next, cookie⟩ dir s kind hz hr hs ha hnew) rfl rfl rfl rfl rfl M

/- Ln -/
def lnW (t : Tree) (ino to : Int) (s : Bytes) : Tree × Int :=
  if (!(find t.nodes ino).isSome || ((nodeN t.nodes ino).kind == 1 && (nodeN t.nodes ino).links == 0)) = true then (t, 70) else if ((nodeN t.nodes ino).kind == 2) = true then (t, 72) else
  if (mayErr t to s != 0) = true then (t, mayErr t to s) else
  (enteredN ⟨withN t.nodes { nodeN t.nodes ino with links := w64 ((nodeN t.nodes ino).links + 1) }, t.next, t.cookie⟩ to s ino, 0)
theorem c37 (t : Tree) (ino dir : Int) (s : Bytes) (hz : Sz 1000 t) (hr : Srt t) (hs : s.length ≤ 100000) (ha : Ascii s) :
    acall tab 37 [eTree t, .int .i64 ino, .int .i64 dir, .str s] [] = some (.tuple [eTree (lnW t ino dir s).1, .int .i64 (lnW t ino dir s).2], []) := by
  obtain ⟨nodes, next, cookie⟩ := t
  have ht : Small ⟨nodes, next, cookie⟩ := hz.small (by omega)
  have hn : nodes.length ≤ 100000 := ht.nodes
  have hg := fun b c M => k43 nodes next cookie ino hr.asc hn 2 (b :: c :: .cells [eNodes nodes, .int .i64 next, .int .i64 cookie] :: M) rfl
  have hk := fun b c M => k70 nodes next cookie dir s ht hr hs ha 2 (b :: c :: .cells [eNodes nodes, .int .i64 next, .int .i64 cookie] :: M) rfl
  have last : (mayErr ⟨nodes, next, cookie⟩ dir s != 0) = false → (find nodes ino).isSome = true → ((nodeN nodes ino).kind == 2) = false → ∀ l, nodes ≠ [] ∧ ∀ b c M, callOp (acall tab) 51 [.ptr 2 0, .int .i64 dir, .str s, .int .i64 ino] (b :: c :: .cells [eNodes (withN nodes { nodeN nodes ino with links := l }), .int .i64 next, .int .i64 cookie] :: M) =
      some (.tuple [], b :: c :: .cells (eTreeC (enteredN ⟨withN nodes { nodeN nodes ino with links := l }, next, cookie⟩ dir s ino)) :: M) := fun hm hi hkd l => by
    obtain ⟨d, d1, d2, d3, d4, d5, d6, d7⟩ := may_ok hm
    have dm := find_mem d1
    refine ⟨by rintro rfl; simp [find] at d1, fun b c M => ?_⟩
    have hfd := hz.find ino
    have hz1 : Sz 1001 ⟨withN nodes { nodeN nodes ino with links := l }, next, cookie⟩ := hz.with (n := { nodeN nodes ino with links := l }) (Nat.le_succ_of_le hfd.1) hfd.2 next cookie
    obtain ⟨n, hfn⟩ := Option.isSome_iff_exists.1 hi
    have hnn : nodeN nodes ino = n := by simp [nodeN, hfn]
    have hne : ¬ dir = (nodeN nodes ino).ino := fun he => by
      rw [hnn] at he hkd
      have h1 := (find_mem hfn).2
      rw [he, h1, hfn] at d1
      injection d1 with d1
      subst d1
      simp [d2] at hkd
    have hf : find (withN nodes { nodeN nodes ino with links := l }) dir = some d := by rw [find_withN hr.asc, if_neg hne]; exact d1
    exact k51 (withN nodes { nodeN nodes ino with links := l }) next cookie dir s ino (withN_asc hr.asc _) (hz1.small (by omega)).nodes hf (hr.ents d dm.1) (by omega) d4 2 (b :: c :: .cells [eNodes (withN nodes { nodeN nodes ino with links := l }), .int .i64 next, .int .i64 cookie] :: M) rfl
  refine acall_ex rfl rfl rfl ?_
  simp only [fn37, E37, eTree, eTreeC, hg, eNode, eNodeC, EVT, finish, resAll, resOf, one, astep, aop, parsFrom, Opd.ev, getS, putS, keepS, nth, setN, abin, ↓reduceIte, Nat.reduceEqDiff, reduceCtorEq, Nat.reduceAdd, writeAt, Nat.reduceLeDiff, ne_eq, backE, backM, ABox.back, Nat.reduceLT, Int.reduceLT, Int.reduceLE, Int.reduceNeg, litsOf, sepAll, fillParts, AOp.argIds, ob, og, ox]
  repeat' (first | (refine fork_split (fun hb => ?_) (fun hb => ?_) <;> simp only [hb, E37, hk, EVT, finish, resAll, resOf, one, astep, aop, parsFrom, Opd.ev, getS, putS, keepS, nth, setN, abin, ↓reduceIte, Nat.reduceEqDiff, reduceCtorEq, Nat.reduceAdd, writeAt, Nat.reduceLeDiff, ne_eq, backE, backM, ABox.back, Nat.reduceLT, Int.reduceLT, Int.reduceLE, Int.reduceNeg, litsOf, sepAll, fillParts, AOp.argIds, ob, og, ox]) | (refine guard_split (fun hb => ?_) (fun hb => ?_) <;> simp only [hb, E37, hk, EVT, finish, resAll, resOf, one, astep, aop, parsFrom, Opd.ev, getS, putS, keepS, nth, setN, abin, ↓reduceIte, Nat.reduceEqDiff, reduceCtorEq, Nat.reduceAdd, writeAt, Nat.reduceLeDiff, ne_eq, backE, backM, ABox.back, Nat.reduceLT, Int.reduceLT, Int.reduceLE, Int.reduceNeg, litsOf, sepAll, fillParts, AOp.argIds, ob, og, ox]) | (refine opK_pick (fun hb => ?_) (fun hb => ?_) <;> simp only [hb, E37, hk, EVT, finish, resAll, resOf, one, astep, aop, parsFrom, Opd.ev, getS, putS, keepS, nth, setN, abin, ↓reduceIte, Nat.reduceEqDiff, reduceCtorEq, Nat.reduceAdd, writeAt, Nat.reduceLeDiff, ne_eq, backE, backM, ABox.back, Nat.reduceLT, Int.reduceLT, Int.reduceLE, Int.reduceNeg, litsOf, sepAll, fillParts, AOp.argIds, ob, og, ox]))
  all_goals try (clear hk hg last; simp_all only [lnW, eTree, eTreeC, Bool.and_true, Bool.true_and, Bool.and_false, Bool.false_and, Bool.or_true, Bool.true_or, Bool.or_false, Bool.false_or, Bool.not_true, Bool.not_false, Bool.and_self, Bool.or_self, ↓reduceIte, Bool.false_eq_true, reduceCtorEq, beq_self_eq_true, bne_self_eq_false]; done)
  all_goals
    have hm : (mayErr ⟨nodes, next, cookie⟩ dir s != 0) = false := by assumption
    have h2 : ((nodeN nodes ino).kind == 2) = false := by assumption
    have h3 : (!(find nodes ino).isSome) = false := by assumption
    have h3 : (find nodes ino).isSome = true := by simpa using h3
    have h0 := (last hm h3 h2 0).1
    have hp := fun a b c d e u x y M => k50 nodes next cookie a b c d e u hr.asc h0 hn 2 (x :: y :: .cells [eNodes nodes, .int .i64 next, .int .i64 cookie] :: M) rfl
    have hl := fun l => (last hm h3 h2 l).2
    simp only [E37, hp, hl, eTreeC, EVT, finish, resAll, resOf, one, astep, aop, parsFrom, Opd.ev, getS, putS, keepS, nth, setN, abin, ↓reduceIte, Nat.reduceEqDiff, reduceCtorEq, Nat.reduceAdd, writeAt, Nat.reduceLeDiff, ne_eq, backE, backM, ABox.back, Nat.reduceLT, Int.reduceLT, Int.reduceLE, Int.reduceNeg, litsOf, sepAll, fillParts, AOp.argIds, ob, og, ox]
    clear hk hg last hp hl
    simp_all only [lnW, eTree, eTreeC, Bool.and_true, Bool.true_and, Bool.and_false, Bool.false_and, Bool.or_true, Bool.true_or, Bool.or_false, Bool.false_or, Bool.not_true, Bool.not_false, Bool.and_self, Bool.or_self, ↓reduceIte, Bool.false_eq_true, reduceCtorEq, beq_self_eq_true, bne_self_eq_false]
end Go.Proofs.YtnapockikkbkcaaGreat
/-
  What the program's functions do, over plain data: Un; what is at or below. Own work.
-/
namespace Go.Proofs.YtnapockikkbkcaaGreat
open Go Go.Abs
attribute [local irreducible] exK opsK opK gK forkK kr acall callOp owhen obind

theorem look_ok {nodes : List Node} {dir : Int} {s : Bytes} (h : ((lookN nodes dir s).2 != 0) = false) : ∃ d e, find nodes dir = some d ∧ d.kind = 2 ∧ nameOk s = true ∧ findE d.ents s = some e ∧ lookN nodes dir s = (e.ino, 0) := by
  have h : (lookN nodes dir s).2 = 0 := by simpa using h
  have h' := h
  unfold lookN at h
  split at h
  · rename_i hc; exact absurd h hc
  · rename_i hc
    obtain ⟨d, h1, h2, h3⟩ := dir_ok (by simpa using hc)
    rw [h3] at h
    split at h
    · cases h
    · rename_i hk
      split at h
      · cases h
      · rename_i e he
        have hk : nameOk s = true := by simpa using hk
        refine ⟨d, e, h1, h2, hk, he, ?_⟩
        unfold lookN
        rw [h3]
        simp [hk, he]

def unW (t : Tree) (dir : Int) (s : Bytes) : Tree × Int × Int :=
  if ((lookN t.nodes dir s).2 != 0) = true then (t, 0, (lookN t.nodes dir s).2) else if decide ((0 : Int) < (nodeN t.nodes (lookN t.nodes dir s).1).ents.length) = true then (t, 0, 74) else
  (⟨unnamedW (leftN t.nodes dir s) (nodeN t.nodes (lookN t.nodes dir s).1), t.next, t.cookie⟩, (lookN t.nodes dir s).1, 0)
theorem leftN_ne {nodes : List Node} (h : Asc nodes) {dir : Int} {s : Bytes} {d : Node} (hf : find nodes dir = some d) : leftN nodes dir s ≠ [] := by
  intro hc
  have : ({ d with ents := dropE d.ents s } : Node) ∈ leftN nodes dir s := by
    unfold leftN
    rw [hf]
    exact (mem_withN h).2 (.inl rfl)
  rw [hc] at this
  cases this
theorem c38 (t : Tree) (dir : Int) (s : Bytes) (hz : Sz 1000 t) (hr : Srt t) (hs : s.length ≤ 100000) (ha : Ascii s) :
    acall tab 38 [eTree t, .int .i64 dir, .str s] [] = some (.tuple [eTree (unW t dir s).1, .int .i64 (unW t dir s).2.1, .int .i64 (unW t dir s).2.2], []) := by
  obtain ⟨nodes, next, cookie⟩ := t
  have ht : Small ⟨nodes, next, cookie⟩ := hz.small (by omega)
  have hn : nodes.length ≤ 100000 := ht.nodes
  have hg := fun b c M => k43 nodes next cookie (lookN nodes dir s).1 hr.asc hn 2 (b :: c :: .cells [eNodes nodes, .int .i64 next, .int .i64 cookie] :: M) rfl
  have hl := fun M => k15 nodes next cookie dir s ht hr hs ha M
  refine acall_ex rfl rfl rfl ?_
  simp only [fn38, E38, eTree, eTreeC, hl, EVT, finish, resAll, resOf, one, astep, aop, parsFrom, Opd.ev, getS, putS, keepS, nth, setN, abin, ↓reduceIte, Nat.reduceEqDiff, reduceCtorEq, Nat.reduceAdd, writeAt, Nat.reduceLeDiff, ne_eq, backE, backM, ABox.back, Nat.reduceLT, Int.reduceLT, Int.reduceLE, Int.reduceNeg, litsOf, sepAll, fillParts, AOp.argIds, ob, og, ox]
  refine fork_split (fun hb => ?_) (fun hb => ?_)
  · simp only [E38, hb, EVT, finish, resAll, resOf, one, astep, aop, parsFrom, Opd.ev, getS, putS, keepS, nth, setN, abin, ↓reduceIte, Nat.reduceEqDiff, reduceCtorEq, Nat.reduceAdd, writeAt, Nat.reduceLeDiff, ne_eq, backE, backM, ABox.back, Nat.reduceLT, Int.reduceLT, Int.reduceLE, Int.reduceNeg, litsOf, sepAll, fillParts, AOp.argIds, ob, og, ox]
    clear hg hl
    simp_all only [unW, eTree, eTreeC, Bool.and_true, Bool.true_and, Bool.and_false, Bool.false_and, Bool.or_true, Bool.true_or, Bool.or_false, Bool.false_or, Bool.not_true, Bool.not_false, Bool.and_self, Bool.or_self, ↓reduceIte, Bool.false_eq_true, reduceCtorEq, beq_self_eq_true, bne_self_eq_false]
  obtain ⟨d, e, d1, d2, d3, d4, d5⟩ := look_ok hb
  have dm := find_mem d1
  have hde : d.ents.length ≤ 1000 := hz.ents d dm.1
  have hsz : Sz 1001 ⟨leftN nodes dir s, next, cookie⟩ := hz.left dir s next cookie
  have hv := fun x y M => k48 nodes next cookie dir s hr.asc hn d1 (hr.ents d dm.1) (by omega) 2 (x :: y :: .cells [eNodes nodes, .int .i64 next, .int .i64 cookie] :: M) rfl
  have hu := fun a b c d' e' u x y M => k49 (leftN nodes dir s) next cookie a b c d' e' u (hr.left dir s next cookie).asc (leftN_ne hr.asc d1) (hsz.small (by omega)).nodes 2 (x :: y :: .cells [eNodes (leftN nodes dir s), .int .i64 next, .int .i64 cookie] :: M) rfl
  simp only [E38, hb, hg, eNode, eNodeC, EVT, finish, resAll, resOf, one, astep, aop, parsFrom, Opd.ev, getS, putS, keepS, nth, setN, abin, ↓reduceIte, Nat.reduceEqDiff, reduceCtorEq, Nat.reduceAdd, writeAt, Nat.reduceLeDiff, ne_eq, backE, backM, ABox.back, Nat.reduceLT, Int.reduceLT, Int.reduceLE, Int.reduceNeg, litsOf, sepAll, fillParts, AOp.argIds, ob, og, ox]
  refine fork_split (fun hb1 => ?_) (fun hb1 => ?_)
  · simp only [E38, hb1, EVT, finish, resAll, resOf, one, astep, aop, parsFrom, Opd.ev, getS, putS, keepS, nth, setN, abin, ↓reduceIte, Nat.reduceEqDiff, reduceCtorEq, Nat.reduceAdd, writeAt, Nat.reduceLeDiff, ne_eq, backE, backM, ABox.back, Nat.reduceLT, Int.reduceLT, Int.reduceLE, Int.reduceNeg, litsOf, sepAll, fillParts, AOp.argIds, ob, og, ox]
    clear hg hl hv hu
    simp_all only [unW, eTree, eTreeC, Bool.and_true, Bool.true_and, Bool.and_false, Bool.false_and, Bool.or_true, Bool.true_or, Bool.or_false, Bool.false_or, Bool.not_true, Bool.not_false, Bool.and_self, Bool.or_self, ↓reduceIte, Bool.false_eq_true, reduceCtorEq, beq_self_eq_true, bne_self_eq_false]
  · simp only [E38, hb1, hv, hu, EVT, finish, resAll, resOf, one, astep, aop, parsFrom, Opd.ev, getS, putS, keepS, nth, setN, abin, ↓reduceIte, Nat.reduceEqDiff, reduceCtorEq, Nat.reduceAdd, writeAt, Nat.reduceLeDiff, ne_eq, backE, backM, ABox.back, Nat.reduceLT, Int.reduceLT, Int.reduceLE, Int.reduceNeg, litsOf, sepAll, fillParts, AOp.argIds, ob, og, ox]
    clear hg hl hv hu d5
    simp_all only [unW, eTree, eTreeC, Bool.and_true, Bool.true_and, Bool.and_false, Bool.false_and, Bool.or_true, Bool.true_or, Bool.or_false, Bool.false_or, Bool.not_true, Bool.not_false, Bool.and_self, Bool.or_self, ↓reduceIte, Bool.false_eq_true, reduceCtorEq, beq_self_eq_true, bne_self_eq_false]
theorem k38 (nodes : List Node) (next cookie dir : Int) (s : Bytes) (hz : Sz 1000 ⟨nodes, next, cookie⟩) (hr : Srt ⟨nodes, next, cookie⟩) (hs : s.length ≤ 100000) (ha : Ascii s) (M : AMem) : callOp (acall tab) 38 [.agg [eNodes nodes, .int .i64 next, .int .i64 cookie], .int .i64 dir, .str s] M =
    some (.tuple [eTree (unW ⟨nodes, next, cookie⟩ dir s).1, .int .i64 (unW ⟨nodes, next, cookie⟩ dir s).2.1, .int .i64 (unW ⟨nodes, next, cookie⟩ dir s).2.2], M) := callOp0 (c38 ⟨nodes, next, cookie⟩ dir s hz hr hs ha) rfl rfl rfl rfl rfl M
end Go.Proofs.YtnapockikkbkcaaGreat
/-
  What the program's functions do, over plain data: deep. Own work.
-/
namespace Go.Proofs.YtnapockikkbkcaaGreat
open Go Go.Abs

section
attribute [local irreducible] exK opsK opK gK forkK kr acall callOp owhen obind
def idxI (x : Int) : List Int → Nat → Int
  | [], _ => -1
  | n :: r, i => if (x == n) = true then i else idxI x r (i + 1)
theorem idxI_ge (x : Int) : ∀ (l : List Int) (i : Nat), decide ((0 : Int) ≤ idxI x l i) = l.contains x
  | [], i => by simp [idxI]
  | n :: r, i => by
    unfold idxI
    by_cases h : x = n
    · simp [h]
    · simp only [beq_iff_eq, h, if_false, idxI_ge x r (i + 1), List.contains_cons]
      simp [h]
theorem loop80 {l0 : List Int} {x : Int} (hl : l0.length ≤ 100000) {k : List K} {R : Int → Option (AVal × AMem)}
    (hx : ∀ e, kr (acall tab) [.tmp 4] 0 k ⟨.exit 0, e, []⟩ = R (-1)) (hr : ∀ (i : Nat), kr (acall tab) [.tmp 4] 0 k ⟨.ret, [(4, .int .i64 i)], []⟩ = R i) :
    ∀ (l pre : List Int), l0 = pre ++ l → exK (acall tab) [.tmp 4] 0 k (.loop [0, 1, 7, 8] lb80_0) [(0, .slice .sh (l0.map eInt)), (1, .int .i64 x), (7, .int .i64 l0.length), (8, .int .i64 pre.length)] [] = R (idxI x l pre.length) := by
  intro l
  induction l with
  | nil =>
    intro pre h
    rw [exK_loop]
    simp only [E80, lt_end h, EVT, finish, resAll, resOf, one, astep, aop, parsFrom, Opd.ev, getS, putS, keepS, nth, setN, abin, ↓reduceIte, Nat.reduceEqDiff, reduceCtorEq, Nat.reduceAdd, writeAt, Nat.reduceLeDiff, ne_eq, backE, backM, ABox.back, Nat.reduceLT, Int.reduceLT, Int.reduceLE, Int.reduceNeg, litsOf, sepAll, fillParts, AOp.argIds, ob, og, ox]
    exact hx _
  | cons n r ih =>
    intro pre h
    rw [exK_loop]
    have hlen : pre.length + 1 ≤ 100000 := by rw [h] at hl; simp at hl; omega
    have hw : IntKind.i64.wrap ((pre.length : Int) + 1) = ((pre ++ [n]).length : Int) := by rw [wrap_small (by omega) (by omega)]; exact step_len
    have hi := ih (pre ++ [n]) (by rw [h]; simp)
    simp only [List.length_append, List.length_cons, List.length_nil, Nat.zero_add] at hi
    rw [idxI]
    simp only [E80, lt_mid h, at_mid h, EVT, finish, resAll, resOf, one, astep, aop, parsFrom, Opd.ev, getS, putS, keepS, nth, setN, abin, ↓reduceIte, Nat.reduceEqDiff, reduceCtorEq, Nat.reduceAdd, writeAt, Nat.reduceLeDiff, ne_eq, backE, backM, ABox.back, Nat.reduceLT, Int.reduceLT, Int.reduceLE, Int.reduceNeg, litsOf, sepAll, fillParts, AOp.argIds, ob, og, ox]
    refine fork_split (fun hb => ?_) (fun hb => ?_)
    · simp only [E80, hb, EVT, finish, resAll, resOf, one, astep, aop, parsFrom, Opd.ev, getS, putS, keepS, nth, setN, abin, ↓reduceIte, Nat.reduceEqDiff, reduceCtorEq, Nat.reduceAdd, writeAt, Nat.reduceLeDiff, ne_eq, backE, backM, ABox.back, Nat.reduceLT, Int.reduceLT, Int.reduceLE, Int.reduceNeg, litsOf, sepAll, fillParts, AOp.argIds, ob, og, ox]
      exact hr _
    · simp only [E80, hb, hw, Bool.false_eq_true, EVT, finish, resAll, resOf, one, astep, aop, parsFrom, Opd.ev, getS, putS, keepS, nth, setN, abin, ↓reduceIte, Nat.reduceEqDiff, reduceCtorEq, Nat.reduceAdd, writeAt, Nat.reduceLeDiff, ne_eq, backE, backM, ABox.back, Nat.reduceLT, Int.reduceLT, Int.reduceLE, Int.reduceNeg, litsOf, sepAll, fillParts, AOp.argIds, ob, og, ox]
      exact hi
theorem c80 (l : List Int) (x : Int) (hl : l.length ≤ 100000) : acall tab 80 [.slice .sh (l.map eInt), .int .i64 x] [] = some (.int .i64 (idxI x l 0), []) := by
  refine acall_ex rfl rfl rfl ?_
  simp only [fn80, E80, EVT, finish, resAll, resOf, one, astep, aop, parsFrom, Opd.ev, getS, putS, keepS, nth, setN, abin, ↓reduceIte, Nat.reduceEqDiff, reduceCtorEq, Nat.reduceAdd, writeAt, Nat.reduceLeDiff, ne_eq, backE, backM, ABox.back, Nat.reduceLT, Int.reduceLT, Int.reduceLE, Int.reduceNeg, litsOf, sepAll, fillParts, AOp.argIds, ob, og, ox]
  exact loop80 (R := fun z => some (.int .i64 z, [])) hl (fun e => by simp only [E80, EVT, finish, resAll, resOf, one, astep, aop, parsFrom, Opd.ev, getS, putS, keepS, nth, setN, abin, ↓reduceIte, Nat.reduceEqDiff, reduceCtorEq, Nat.reduceAdd, writeAt, Nat.reduceLeDiff, ne_eq, backE, backM, ABox.back, Nat.reduceLT, Int.reduceLT, Int.reduceLE, Int.reduceNeg, litsOf, sepAll, fillParts, AOp.argIds, ob, og, ox]) (fun i => by simp only [E80, EVT, finish, resAll, resOf, one, astep, aop, parsFrom, Opd.ev, getS, putS, keepS, nth, setN, abin, ↓reduceIte, Nat.reduceEqDiff, reduceCtorEq, Nat.reduceAdd, writeAt, Nat.reduceLeDiff, ne_eq, backE, backM, ABox.back, Nat.reduceLT, Int.reduceLT, Int.reduceLE, Int.reduceNeg, litsOf, sepAll, fillParts, AOp.argIds, ob, og, ox]) l [] rfl
theorem k80 (l : List Int) (x : Int) (hl : l.length ≤ 100000) (M : AMem) : callOp (acall tab) 80 [.slice .sh (l.map eInt), .int .i64 x] M = some (.int .i64 (idxI x l 0), M) := callOp0 (c80 l x hl) rfl rfl rfl rfl rfl M
theorem c45 (l : List Int) (x : Int) (hl : l.length ≤ 100000) : acall tab 45 [.slice .sh (l.map eInt), .int .i64 x] [] = some (.bool (l.contains x), []) := by
  refine acall_ex rfl rfl rfl ?_
  simp only [fn45, E45, k80, hl, idxI_ge, EVT, finish, resAll, resOf, one, astep, aop, parsFrom, Opd.ev, getS, putS, keepS, nth, setN, abin, ↓reduceIte, Nat.reduceEqDiff, reduceCtorEq, Nat.reduceAdd, writeAt, Nat.reduceLeDiff, ne_eq, backE, backM, ABox.back, Nat.reduceLT, Int.reduceLT, Int.reduceLE, Int.reduceNeg, litsOf, sepAll, fillParts, AOp.argIds, ob, og, ox]
theorem k45 (l : List Int) (x : Int) (hl : l.length ≤ 100000) (M : AMem) : callOp (acall tab) 45 [.slice .sh (l.map eInt), .int .i64 x] M = some (.bool (l.contains x), M) := callOp0 (c45 l x hl) rfl rfl rfl rfl rfl M

/-- Would this node be too deep? -/
def deepAt (nodes : List Node) (at' own ino : Int) (n : Node) : Bool :=
  n.kind == 2 && ((upsN nodes n.ino).contains ino && (decide ((12 : Int) < w64 (w64 (w64 (at' + (upsN nodes n.ino).length) - 1) - own)) || (w64 (w64 (w64 (at' + (upsN nodes n.ino).length) - 1) - own) == 12 && decide ((0 : Int) < n.ents.length))))
abbrev deepM (nodes : List Node) (next cookie at' own ino : Int) : AMem := [.cells [.ptr 4 0], .cells [.int .i64 at'], .cells [.int .i64 own], .cells [.int .i64 ino], .cells [eNodes nodes, .int .i64 next, .int .i64 cookie]]
theorem c83 (nodes : List Node) (next cookie at' own ino : Int) (n : Node) (h : Asc nodes) (hn : nodes.length ≤ 99999) :
    acall tab 83 [eNode n, .ptr 0 0, .ptr 1 0, .ptr 2 0, .ptr 3 0] (deepM nodes next cookie at' own ino) = some (.bool (deepAt nodes at' own ino n), deepM nodes next cookie at' own ino) := by
  refine acall_ex rfl rfl rfl ?_
  have hk := fun a b c d M => k44 nodes next cookie n.ino h (by omega) 4 (a :: b :: c :: d :: .cells [eNodes nodes, .int .i64 next, .int .i64 cookie] :: M) rfl
  have hl := upsN_len nodes n.ino
  have hc := fun M => k45 (upsN nodes n.ino) ino (by omega) M
  simp only [fn83, E83, deepM, eNode, eNodeC, EVT, finish, resAll, resOf, one, astep, aop, parsFrom, Opd.ev, getS, putS, keepS, nth, setN, abin, ↓reduceIte, Nat.reduceEqDiff, reduceCtorEq, Nat.reduceAdd, writeAt, Nat.reduceLeDiff, ne_eq, backE, backM, ABox.back, Nat.reduceLT, Int.reduceLT, Int.reduceLE, Int.reduceNeg, litsOf, sepAll, fillParts, AOp.argIds, ob, og, ox]
  repeat' (first | (refine fork_split (fun hb => ?_) (fun hb => ?_) <;> simp only [hb, E83, hk, hc, EVT, finish, resAll, resOf, one, astep, aop, parsFrom, Opd.ev, getS, putS, keepS, nth, setN, abin, ↓reduceIte, Nat.reduceEqDiff, reduceCtorEq, Nat.reduceAdd, writeAt, Nat.reduceLeDiff, ne_eq, backE, backM, ABox.back, Nat.reduceLT, Int.reduceLT, Int.reduceLE, Int.reduceNeg, litsOf, sepAll, fillParts, AOp.argIds, ob, og, ox]) | (refine guard_split (fun hb => ?_) (fun hb => ?_) <;> simp only [hb, E83, hk, hc, EVT, finish, resAll, resOf, one, astep, aop, parsFrom, Opd.ev, getS, putS, keepS, nth, setN, abin, ↓reduceIte, Nat.reduceEqDiff, reduceCtorEq, Nat.reduceAdd, writeAt, Nat.reduceLeDiff, ne_eq, backE, backM, ABox.back, Nat.reduceLT, Int.reduceLT, Int.reduceLE, Int.reduceNeg, litsOf, sepAll, fillParts, AOp.argIds, ob, og, ox]) | (refine opK_pick (fun hb => ?_) (fun hb => ?_) <;> simp only [hb, E83, hk, hc, EVT, finish, resAll, resOf, one, astep, aop, parsFrom, Opd.ev, getS, putS, keepS, nth, setN, abin, ↓reduceIte, Nat.reduceEqDiff, reduceCtorEq, Nat.reduceAdd, writeAt, Nat.reduceLeDiff, ne_eq, backE, backM, ABox.back, Nat.reduceLT, Int.reduceLT, Int.reduceLE, Int.reduceNeg, litsOf, sepAll, fillParts, AOp.argIds, ob, og, ox]))
  all_goals (clear hk hc; simp_all only [deepAt, w64, bne, Bool.not_eq_true', Bool.not_eq_false', Bool.and_true, Bool.true_and, Bool.and_false, Bool.false_and, Bool.or_true, Bool.true_or, Bool.or_false, Bool.false_or, Bool.not_true, Bool.not_false, Bool.and_self, Bool.or_self, ↓reduceIte, Bool.false_eq_true, reduceCtorEq, beq_self_eq_true, bne_self_eq_false]; done)
end
end Go.Proofs.YtnapockikkbkcaaGreat
/-
  What the program's functions do, over plain data: deep, whole. Own work.
-/
namespace Go.Proofs.YtnapockikkbkcaaGreat
open Go Go.Abs

theorem callF {C : CallF} {f : Nat} {args args' : List AVal} {M B : AMem} {ids : List Nat} {r r' : AVal} {B' M' : AMem} (h1 : args.all AVal.flat = true) (h2 : reach M (args.flatMap AVal.ids) = ids) (h3 : pickM M (idxN ids) ids = some B) (h4 : reach1 M ids = ids)
    (h5 : args.map (AVal.ren (idxN ids)) = args') (h : C f args' B = some (r, B')) (h6 : B'.length = B.length) (h7 : r.flatR = true) (h8 : B'.all ABox.flat = true) (h9 : r.renR (atN ids) = r') (h10 : wback ids M ids B' = M') : callOp C f args M = some (r', M') := by
  unfold callOp
  rw [if_pos h1, h2, h3]
  simp only [obind_some]
  rw [if_pos h4, h5, h]
  simp only [obind_some]
  rw [if_pos ⟨h6, h7, h8⟩, h9, h10]
theorem pick1 (nodes : List Node) (next cookie at' own ino : Int) : pickM (deepM nodes next cookie at' own ino) (idxN [0, 1, 2, 3, 4]) [0, 1, 2, 3, 4] = some (deepM nodes next cookie at' own ino) := rfl
theorem pick2 (nodes : List Node) (next cookie at' own ino : Int) : pickM [.cells [eNodes nodes, .int .i64 next, .int .i64 cookie], .cells [.ptr 0 0], .cells [.int .i64 ino], .cells [.int .i64 at'], .cells [.int .i64 own]] (idxN [1, 3, 4, 2, 0]) [1, 3, 4, 2, 0] = some (deepM nodes next cookie at' own ino) := rfl
section
attribute [local irreducible] exK opsK opK gK forkK kr acall callOp owhen obind
theorem k83 (nodes : List Node) (next cookie at' own ino : Int) (n : Node) (h : Asc nodes) (hn : nodes.length ≤ 99999) :
    callOp (acall tab) 83 [.agg (eNodeC n), .ptr 0 0, .ptr 1 0, .ptr 2 0, .ptr 3 0] (deepM nodes next cookie at' own ino) = some (.bool (deepAt nodes at' own ino n), deepM nodes next cookie at' own ino) :=
  callF (ids := [0, 1, 2, 3, 4]) rfl rfl (pick1 ..) rfl rfl (c83 nodes next cookie at' own ino n h hn) rfl rfl rfl rfl rfl

def idxD (p : Node → Bool) : List Node → Nat → Int
  | [], _ => -1
  | n :: r, i => if p n = true then i else idxD p r (i + 1)
theorem idxD_ge (p : Node → Bool) : ∀ (l : List Node) (i : Nat), decide ((0 : Int) ≤ idxD p l i) = l.any p
  | [], i => by simp [idxD]
  | n :: r, i => by
    unfold idxD
    cases h : p n with
    | true => simp [h]
    | false => simp only [Bool.false_eq_true, if_false, idxD_ge p r (i + 1), List.any_cons, h, Bool.false_or]
theorem loop113 {nodes : List Node} {next cookie at' own ino : Int} (h : Asc nodes) (hn : nodes.length ≤ 99999) {k : List K} {R : Int → Option (AVal × AMem)}
    (hx : ∀ e, kr (acall tab) [.tmp 4] 5 k ⟨.exit 0, e, deepM nodes next cookie at' own ino⟩ = R (-1)) (hr : ∀ (i : Nat), kr (acall tab) [.tmp 4] 5 k ⟨.ret, [(4, .int .i64 i)], deepM nodes next cookie at' own ino⟩ = R i) :
    ∀ (l pre : List Node), nodes = pre ++ l → exK (acall tab) [.tmp 4] 5 k (.loop [0, 1, 7, 8] lb113_0) [(0, eNodes nodes), (1, .func 83 [.ptr 0 0, .ptr 1 0, .ptr 2 0, .ptr 3 0]), (7, .int .i64 nodes.length), (8, .int .i64 pre.length)] (deepM nodes next cookie at' own ino) = R (idxD (deepAt nodes at' own ino) l pre.length) := by
  intro l
  induction l with
  | nil =>
    intro pre h
    rw [exK_loop]
    simp only [E113, lt_end h, EVT, finish, resAll, resOf, one, astep, aop, parsFrom, Opd.ev, getS, putS, keepS, nth, setN, abin, ↓reduceIte, Nat.reduceEqDiff, reduceCtorEq, Nat.reduceAdd, writeAt, Nat.reduceLeDiff, ne_eq, backE, backM, ABox.back, Nat.reduceLT, Int.reduceLT, Int.reduceLE, Int.reduceNeg, litsOf, sepAll, fillParts, AOp.argIds, ob, og, ox]
    exact hx _
  | cons n r ih =>
    intro pre hp
    rw [exK_loop]
    have hlen : pre.length + 1 ≤ 100000 := by rw [hp] at hn; simp at hn; omega
    have hw : IntKind.i64.wrap ((pre.length : Int) + 1) = ((pre ++ [n]).length : Int) := by rw [wrap_small (by omega) (by omega)]; exact step_len
    have hi := ih (pre ++ [n]) (by rw [hp]; simp)
    have hk := k83 nodes next cookie at' own ino n h hn
    simp only [List.length_append, List.length_cons, List.length_nil, Nat.zero_add, deepM] at hi
    simp only [deepM] at hk
    rw [idxD]
    simp only [E113, deepM, lt_mid hp, at_mid hp, hk, tkN, shN, EVT, finish, resAll, resOf, one, astep, aop, parsFrom, Opd.ev, getS, putS, keepS, nth, setN, abin, ↓reduceIte, Nat.reduceEqDiff, reduceCtorEq, Nat.reduceAdd, writeAt, Nat.reduceLeDiff, ne_eq, backE, backM, ABox.back, Nat.reduceLT, Int.reduceLT, Int.reduceLE, Int.reduceNeg, litsOf, sepAll, fillParts, AOp.argIds, ob, og, ox]
    refine fork_split (fun hb => ?_) (fun hb => ?_)
    · simp only [E113, hb, EVT, finish, resAll, resOf, one, astep, aop, parsFrom, Opd.ev, getS, putS, keepS, nth, setN, abin, ↓reduceIte, Nat.reduceEqDiff, reduceCtorEq, Nat.reduceAdd, writeAt, Nat.reduceLeDiff, ne_eq, backE, backM, ABox.back, Nat.reduceLT, Int.reduceLT, Int.reduceLE, Int.reduceNeg, litsOf, sepAll, fillParts, AOp.argIds, ob, og, ox]
      exact hr _
    · simp only [E113, hb, hw, Bool.false_eq_true, EVT, finish, resAll, resOf, one, astep, aop, parsFrom, Opd.ev, getS, putS, keepS, nth, setN, abin, ↓reduceIte, Nat.reduceEqDiff, reduceCtorEq, Nat.reduceAdd, writeAt, Nat.reduceLeDiff, ne_eq, backE, backM, ABox.back, Nat.reduceLT, Int.reduceLT, Int.reduceLE, Int.reduceNeg, litsOf, sepAll, fillParts, AOp.argIds, ob, og, ox]
      exact hi
theorem c113 (nodes : List Node) (next cookie at' own ino : Int) (h : Asc nodes) (hn : nodes.length ≤ 99999) : acall tab 113 [eNodes nodes, .func 83 [.ptr 0 0, .ptr 1 0, .ptr 2 0, .ptr 3 0]] (deepM nodes next cookie at' own ino) =
    some (.int .i64 (idxD (deepAt nodes at' own ino) nodes 0), deepM nodes next cookie at' own ino) := by
  refine acall_ex rfl rfl rfl ?_
  simp only [fn113, E113, EVT, finish, resAll, resOf, one, astep, aop, parsFrom, Opd.ev, getS, putS, keepS, nth, setN, abin, ↓reduceIte, Nat.reduceEqDiff, reduceCtorEq, Nat.reduceAdd, writeAt, Nat.reduceLeDiff, ne_eq, backE, backM, ABox.back, Nat.reduceLT, Int.reduceLT, Int.reduceLE, Int.reduceNeg, litsOf, sepAll, fillParts, AOp.argIds, ob, og, ox]
  exact loop113 (R := fun z => some (.int .i64 z, deepM nodes next cookie at' own ino)) h hn (fun e => by simp only [E113, deepM, EVT, finish, resAll, resOf, one, astep, aop, parsFrom, Opd.ev, getS, putS, keepS, nth, setN, abin, ↓reduceIte, Nat.reduceEqDiff, reduceCtorEq, Nat.reduceAdd, writeAt, Nat.reduceLeDiff, ne_eq, backE, backM, ABox.back, Nat.reduceLT, Int.reduceLT, Int.reduceLE, Int.reduceNeg, litsOf, sepAll, fillParts, AOp.argIds, ob, og, ox]) (fun i => by simp only [E113, deepM, EVT, finish, resAll, resOf, one, astep, aop, parsFrom, Opd.ev, getS, putS, keepS, nth, setN, abin, ↓reduceIte, Nat.reduceEqDiff, reduceCtorEq, Nat.reduceAdd, writeAt, Nat.reduceLeDiff, ne_eq, backE, backM, ABox.back, Nat.reduceLT, Int.reduceLT, Int.reduceLE, Int.reduceNeg, litsOf, sepAll, fillParts, AOp.argIds, ob, og, ox]) nodes [] rfl
theorem k113 (nodes : List Node) (next cookie at' own ino : Int) (h : Asc nodes) (hn : nodes.length ≤ 99999) : callOp (acall tab) 113 [eNodes nodes, .func 83 [.ptr 0 0, .ptr 1 0, .ptr 2 0, .ptr 3 0]] (deepM nodes next cookie at' own ino) =
    some (.int .i64 (idxD (deepAt nodes at' own ino) nodes 0), deepM nodes next cookie at' own ino) :=
  callF (ids := [0, 1, 2, 3, 4]) rfl rfl (pick1 ..) rfl rfl (c113 nodes next cookie at' own ino h hn) rfl rfl rfl rfl rfl
theorem c82 (nodes : List Node) (next cookie at' own ino : Int) (h : Asc nodes) (hn : nodes.length ≤ 99999) : acall tab 82 [eNodes nodes, .func 83 [.ptr 0 0, .ptr 1 0, .ptr 2 0, .ptr 3 0]] (deepM nodes next cookie at' own ino) =
    some (.bool (nodes.any (deepAt nodes at' own ino)), deepM nodes next cookie at' own ino) := by
  refine acall_ex rfl rfl rfl ?_
  have hk := k113 nodes next cookie at' own ino h hn
  simp only [deepM] at hk
  simp only [fn82, E82, deepM, hk, idxD_ge, EVT, finish, resAll, resOf, one, astep, aop, parsFrom, Opd.ev, getS, putS, keepS, nth, setN, abin, ↓reduceIte, Nat.reduceEqDiff, reduceCtorEq, Nat.reduceAdd, writeAt, Nat.reduceLeDiff, ne_eq, backE, backM, ABox.back, Nat.reduceLT, Int.reduceLT, Int.reduceLE, Int.reduceNeg, litsOf, sepAll, fillParts, AOp.argIds, ob, og, ox]
theorem k82 (nodes : List Node) (next cookie at' own ino : Int) (h : Asc nodes) (hn : nodes.length ≤ 99999) :
    callOp (acall tab) 82 [eNodes nodes, .func 83 [.ptr 1 0, .ptr 3 0, .ptr 4 0, .ptr 2 0]] [.cells [eNodes nodes, .int .i64 next, .int .i64 cookie], .cells [.ptr 0 0], .cells [.int .i64 ino], .cells [.int .i64 at'], .cells [.int .i64 own]] =
    some (.bool (nodes.any (deepAt nodes at' own ino)), [.cells [eNodes nodes, .int .i64 next, .int .i64 cookie], .cells [.ptr 0 0], .cells [.int .i64 ino], .cells [.int .i64 at'], .cells [.int .i64 own]]) :=
  callF (ids := [1, 3, 4, 2, 0]) rfl rfl (pick2 ..) rfl rfl (c82 nodes next cookie at' own ino h hn) rfl rfl rfl rfl rfl
def deepN (nodes : List Node) (ino at' : Int) : Bool := nodes.any (deepAt nodes at' (upDepth nodes ino) ino)
theorem c47 (nodes : List Node) (next cookie ino at' : Int) (h : Asc nodes) (hn : nodes.length ≤ 99999) : acall tab 47 [.ptr 0 0, .int .i64 ino, .int .i64 at'] [.cells [eNodes nodes, .int .i64 next, .int .i64 cookie]] =
    some (.bool (deepN nodes ino at'), [.cells [eNodes nodes, .int .i64 next, .int .i64 cookie]]) := by
  refine acall_ex rfl rfl rfl ?_
  have hk : ∀ M, callOp (acall tab) 81 [.ptr 0 0, .int .i64 ino] (.cells [eNodes nodes, .int .i64 next, .int .i64 cookie] :: M) = some (.int .i64 (upDepth nodes ino), .cells [eNodes nodes, .int .i64 next, .int .i64 cookie] :: M) := fun M => k81 nodes next cookie ino h (by omega) 0 (.cells [eNodes nodes, .int .i64 next, .int .i64 cookie] :: M) rfl
  have hd := k82 nodes next cookie at' (upDepth nodes ino) ino h hn
  unfold deepN
  simp only [fn47, E47, hk, hd, EVT, finish, resAll, resOf, one, astep, aop, parsFrom, Opd.ev, getS, putS, keepS, nth, setN, abin, ↓reduceIte, Nat.reduceEqDiff, reduceCtorEq, Nat.reduceAdd, writeAt, Nat.reduceLeDiff, ne_eq, backE, backM, ABox.back, Nat.reduceLT, Int.reduceLT, Int.reduceLE, Int.reduceNeg, litsOf, sepAll, fillParts, AOp.argIds, ob, og, ox]
theorem k47 (nodes : List Node) (next cookie ino at' : Int) (h : Asc nodes) (hn : nodes.length ≤ 99999) (p : Nat) (M : AMem) (hM : nth M p = some (.cells [eNodes nodes, .int .i64 next, .int .i64 cookie])) :
    callOp (acall tab) 47 [.ptr p 0, .int .i64 ino, .int .i64 at'] M = some (.bool (deepN nodes ino at'), M) := by
  have := callOp1 hM (c47 nodes next cookie ino at' h hn) rfl rfl rfl rfl rfl rfl rfl rfl rfl rfl
  rwa [set_nth hM] at this
end
end Go.Proofs.YtnapockikkbkcaaGreat
/-
  What the program's functions do, over plain data: the changes that Mv makes. Own work.
-/
namespace Go.Proofs.YtnapockikkbkcaaGreat
open Go Go.Abs
attribute [local irreducible] exK opsK opK gK forkK kr acall callOp owhen obind

theorem findE_dropE (l : List Ent) (s : Bytes) : findE (dropE l s) s = none := by
  unfold findE dropE
  rw [List.find?_eq_none]
  intro e he
  have := (List.mem_filter.1 he).2
  simpa using this
theorem findE_dropE_none {l : List Ent} {s r : Bytes} (h : findE l r = none) : findE (dropE l s) r = none := by
  unfold findE dropE at *
  rw [List.find?_eq_none] at *
  exact fun e he => h e (List.mem_filter.1 he).1
theorem find_leftN {nodes : List Node} (h : Asc nodes) {dir : Int} {s : Bytes} {d : Node} (hf : find nodes dir = some d) (i : Int) : find (leftN nodes dir s) i = if i = dir then some { d with ents := dropE d.ents s } else find nodes i := by
  have hd := (find_mem hf).2
  unfold leftN
  rw [hf]
  simp only [Option.getD_some]
  rw [find_withN h, show ({ d with ents := dropE d.ents s } : Node).ino = dir from hd]
theorem unnamedW_asc {nodes : List Node} (h : Asc nodes) (n : Node) : Asc (unnamedW nodes n) := by
  unfold unnamedW
  split
  · exact withoutN_asc h _
  · exact withN_asc h _
theorem find_unnamedW {nodes : List Node} (h : Asc nodes) (n : Node) {i : Int} (hi : i ≠ n.ino) : find (unnamedW nodes n) i = find nodes i := by
  unfold unnamedW
  split
  · rw [find_withoutN h, if_neg hi]
  · rw [find_withN h, if_neg hi]
theorem Sz.unnamedW {b : Nat} {t : Tree} (h : Sz b t) {n : Node} (h1 : n.ents.length ≤ b + 1) (h2 : n.data.length ≤ 100000) (next cookie : Int) : Sz (b + 1) ⟨unnamedW t.nodes n, next, cookie⟩ := by
  unfold Go.Proofs.YtnapockikkbkcaaGreat.unnamedW
  split
  · exact (h.without _ next cookie).up (by omega)
  · exact h.with (n := { n with links := w64 (n.links - 1) }) h1 h2 next cookie

def moveW (t : Tree) (dir : Int) (s : Bytes) (to : Int) (nm : Bytes) (ino : Int) (x y : Node) (there : Bool) : Tree :=
  enteredN ⟨if (x.kind == 2) = true then withN (if there = true then unnamedW (leftN (leftN t.nodes dir s) to nm) y else leftN t.nodes dir s) { x with up := to }
    else if there = true then unnamedW (leftN (leftN t.nodes dir s) to nm) y else leftN t.nodes dir s, t.next, t.cookie⟩ to nm ino
set_option maxHeartbeats 1000000 in
theorem tail17 (nodes : List Node) (next cookie dir : Int) (s : Bytes) (to : Int) (nm : Bytes) (ino : Int) (x y : Node) (there : Bool) (v5 v140 : AVal) (B0 Bd : ABox) (yr : List AVal) (hyr : there = true → AVal.int .i64 y.ino :: yr = eNodeC y) (hz : Sz 1000 ⟨nodes, next, cookie⟩) (hr : Srt ⟨nodes, next, cookie⟩) {dd dt : Node} (hdir : find nodes dir = some dd) (hto : find nodes to = some dt)
    (hth : there = false → findE dt.ents nm = none) (hx : (x.kind == 2) = true → x.ino ≠ to) (hy : there = true → y.ino ≠ to) (hx1 : x.ents.length ≤ 1000) (hx2 : x.data.length ≤ 100000) (hy1 : y.ents.length ≤ 1000) (hy2 : y.data.length ≤ 100000) :
    exK (acall tab) [.cellA 10 3, .tmp 11, .tmp 12] 0 [] q17_18 [(1, .int .i64 dir), (2, .str s), (3, .int .i64 to), (4, .str nm), (5, v5), (10, .ptr 1 0), (13, .int .i64 ino), (15, .ptr 2 0), (17, .ptr 4 0), (19, .ptr 5 0), (21, .bool there), (140, v140)]
      [B0, .cells zT, .cells [eNodes nodes, .int .i64 next, .int .i64 cookie], Bd, .cells (eNodeC x), .cells (.int .i64 y.ino :: yr)] = some (.tuple [eTree (moveW ⟨nodes, next, cookie⟩ dir s to nm ino x y there), .int .i64 y.ino, .int .i64 0], []) := by
  have hasc : Asc nodes := hr.asc
  have n1 := hz.left dir s next cookie
  have a1 : Asc (leftN nodes dir s) := (hr.left dir s next cookie).asc
  have e1 : AscE dd.ents := hr.ents dd (find_mem hdir).1
  have e2 : AscE dt.ents := hr.ents dt (find_mem hto).1
  have l1 : dd.ents.length ≤ 1000 := hz.ents dd (find_mem hdir).1
  have l2 : dt.ents.length ≤ 1000 := hz.ents dt (find_mem hto).1
  obtain ⟨d1, f1, g1, m1, q1⟩ : ∃ d1, find (leftN nodes dir s) to = some d1 ∧ AscE d1.ents ∧ d1.ents.length ≤ 1000 ∧ (findE dt.ents nm = none → findE d1.ents nm = none) := by
    rw [find_leftN hasc hdir]
    split
    · rename_i he
      subst he
      rw [hdir] at hto; injection hto with hto; subst hto
      exact ⟨_, rfl, dropE_asc e1 s, Nat.le_trans (dropE_len _ _) l1, findE_dropE_none⟩
    · exact ⟨dt, hto, e2, l2, id⟩
  have hv1 := fun a b M => k48 nodes next cookie dir s hasc (hz.small (by omega)).nodes hdir e1 (by omega) 2 (a :: b :: .cells [eNodes nodes, .int .i64 next, .int .i64 cookie] :: M) rfl
  have fin : ∀ (n3 : List Node) (d3 : Node), Asc n3 → Sz 1003 ⟨n3, next, cookie⟩ → find n3 to = some d3 → AscE d3.ents → d3.ents.length ≤ 1000 → findE d3.ents nm = none →
      (∀ a b M, callOp (acall tab) 51 [.ptr 2 0, .int .i64 to, .str nm, .int .i64 ino] (a :: b :: .cells [eNodes n3, .int .i64 next, .int .i64 cookie] :: M) = some (.tuple [], a :: b :: .cells (eTreeC (enteredN ⟨n3, next, cookie⟩ to nm ino)) :: M)) ∧
      ((x.kind == 2) = true → (∀ a b M, callOp (acall tab) 50 [.ptr 2 0, .agg [.int .i64 x.ino, .int .i64 x.kind, .int .i64 x.links, eData x.data, eEnts x.ents, .int .i64 to]] (a :: b :: .cells [eNodes n3, .int .i64 next, .int .i64 cookie] :: M) =
          some (.tuple [], a :: b :: .cells [eNodes (withN n3 { x with up := to }), .int .i64 next, .int .i64 cookie] :: M)) ∧
        ∀ a b M, callOp (acall tab) 51 [.ptr 2 0, .int .i64 to, .str nm, .int .i64 ino] (a :: b :: .cells [eNodes (withN n3 { x with up := to }), .int .i64 next, .int .i64 cookie] :: M) = some (.tuple [], a :: b :: .cells (eTreeC (enteredN ⟨withN n3 { x with up := to }, next, cookie⟩ to nm ino)) :: M)) := by
    intro n3 d3 b1 b2 b3 b4 b5 b6
    have h0 : n3 ≠ [] := by rintro rfl; simp [find] at b3
    refine ⟨fun a b M => k51 n3 next cookie to nm ino b1 (b2.small (by omega)).nodes b3 b4 (by omega) b6 2 (a :: b :: .cells [eNodes n3, .int .i64 next, .int .i64 cookie] :: M) rfl, fun hk => ⟨fun a b M => k50 n3 next cookie x.ino x.kind x.links x.data x.ents to b1 h0 (b2.small (by omega)).nodes 2 (a :: b :: .cells [eNodes n3, .int .i64 next, .int .i64 cookie] :: M) rfl, fun a b M => ?_⟩⟩
    have b7 : Sz 1004 ⟨withN n3 { x with up := to }, next, cookie⟩ := b2.with (n := { x with up := to }) (Nat.le_trans hx1 (by omega)) hx2 next cookie
    have b8 : find (withN n3 { x with up := to }) to = some d3 := by rw [find_withN b1, if_neg (fun he => hx hk he.symm)]; exact b3
    exact k51 (withN n3 { x with up := to }) next cookie to nm ino (withN_asc b1 _) (b7.small (by omega)).nodes b8 b4 (by omega) b6 2 (a :: b :: .cells [eNodes (withN n3 { x with up := to }), .int .i64 next, .int .i64 cookie] :: M) rfl
  cases hth' : there with
  | false =>
    obtain ⟨w1, w2⟩ := fin (leftN nodes dir s) d1 a1 (n1.up (by omega)) f1 g1 m1 (q1 (hth hth'))
    cases hkx : (x.kind == 2) with
    | false =>
      simp only [E17, hv1, zT, eNodeC, hkx, w1, eTreeC, EVT, finish, resAll, resOf, one, astep, aop, parsFrom, Opd.ev, getS, putS, keepS, nth, setN, abin, ↓reduceIte, Nat.reduceEqDiff, reduceCtorEq, Nat.reduceAdd, writeAt, Nat.reduceLeDiff, ne_eq, backE, backM, ABox.back, Nat.reduceLT, Int.reduceLT, Int.reduceLE, Int.reduceNeg, litsOf, sepAll, fillParts, AOp.argIds, ob, og, ox]
      simp only [moveW, hkx, eTree, eTreeC, Bool.and_true, Bool.true_and, Bool.and_false, Bool.false_and, Bool.or_true, Bool.true_or, Bool.or_false, Bool.false_or, Bool.not_true, Bool.not_false, Bool.and_self, Bool.or_self, ↓reduceIte, Bool.false_eq_true, reduceCtorEq, beq_self_eq_true, bne_self_eq_false]
    | true =>
      obtain ⟨w3, w4⟩ := w2 hkx
      simp only [E17, hv1, zT, eNodeC, hkx, w3, w4, eTreeC, EVT, finish, resAll, resOf, one, astep, aop, parsFrom, Opd.ev, getS, putS, keepS, nth, setN, abin, ↓reduceIte, Nat.reduceEqDiff, reduceCtorEq, Nat.reduceAdd, writeAt, Nat.reduceLeDiff, ne_eq, backE, backM, ABox.back, Nat.reduceLT, Int.reduceLT, Int.reduceLE, Int.reduceNeg, litsOf, sepAll, fillParts, AOp.argIds, ob, og, ox]
      simp only [moveW, hkx, eTree, eTreeC, Bool.and_true, Bool.true_and, Bool.and_false, Bool.false_and, Bool.or_true, Bool.true_or, Bool.or_false, Bool.false_or, Bool.not_true, Bool.not_false, Bool.and_self, Bool.or_self, ↓reduceIte, Bool.false_eq_true, reduceCtorEq, beq_self_eq_true, bne_self_eq_false]
  | true =>
    have hyr' : yr = [.int .i64 y.kind, .int .i64 y.links, eData y.data, eEnts y.ents, .int .i64 y.up] := by have := hyr hth'; simpa [eNodeC] using this
    subst hyr'
    have a2 : Asc (leftN (leftN nodes dir s) to nm) := (Srt.left (t := ⟨leftN nodes dir s, next, cookie⟩) (hr.left dir s next cookie) to nm next cookie).asc
    have n2 := n1.left to nm next cookie
    have f2 : find (leftN (leftN nodes dir s) to nm) to = some { d1 with ents := dropE d1.ents nm } := by rw [find_leftN a1 f1, if_pos rfl]
    have hv2 := fun a b M => k48 (leftN nodes dir s) next cookie to nm a1 (n1.small (by omega)).nodes f1 g1 (by omega) 2 (a :: b :: .cells [eNodes (leftN nodes dir s), .int .i64 next, .int .i64 cookie] :: M) rfl
    have hu := fun a b M => k49 (leftN (leftN nodes dir s) to nm) next cookie y.ino y.kind y.links y.data y.ents y.up a2 (leftN_ne a1 f1) (n2.small (by omega)).nodes 2 (a :: b :: .cells [eNodes (leftN (leftN nodes dir s) to nm), .int .i64 next, .int .i64 cookie] :: M) rfl
    have f3 : find (unnamedW (leftN (leftN nodes dir s) to nm) y) to = some { d1 with ents := dropE d1.ents nm } := by rw [find_unnamedW a2 y (fun he => hy hth' he.symm)]; exact f2
    obtain ⟨w1, w2⟩ := fin (unnamedW (leftN (leftN nodes dir s) to nm) y) { d1 with ents := dropE d1.ents nm } (unnamedW_asc a2 y) (n2.unnamedW (Nat.le_trans hy1 (by omega)) hy2 next cookie) f3 (dropE_asc g1 nm) (Nat.le_trans (dropE_len _ _) m1) (findE_dropE _ _)
    cases hkx : (x.kind == 2) with
    | false =>
      simp only [E17, hv1, hv2, hu, zT, eNodeC, hkx, w1, eTreeC, EVT, finish, resAll, resOf, one, astep, aop, parsFrom, Opd.ev, getS, putS, keepS, nth, setN, abin, ↓reduceIte, Nat.reduceEqDiff, reduceCtorEq, Nat.reduceAdd, writeAt, Nat.reduceLeDiff, ne_eq, backE, backM, ABox.back, Nat.reduceLT, Int.reduceLT, Int.reduceLE, Int.reduceNeg, litsOf, sepAll, fillParts, AOp.argIds, ob, og, ox]
      simp only [moveW, hkx, eTree, eTreeC, Bool.and_true, Bool.true_and, Bool.and_false, Bool.false_and, Bool.or_true, Bool.true_or, Bool.or_false, Bool.false_or, Bool.not_true, Bool.not_false, Bool.and_self, Bool.or_self, ↓reduceIte, Bool.false_eq_true, reduceCtorEq, beq_self_eq_true, bne_self_eq_false]
    | true =>
      obtain ⟨w3, w4⟩ := w2 hkx
      simp only [E17, hv1, hv2, hu, zT, eNodeC, hkx, w3, w4, eTreeC, EVT, finish, resAll, resOf, one, astep, aop, parsFrom, Opd.ev, getS, putS, keepS, nth, setN, abin, ↓reduceIte, Nat.reduceEqDiff, reduceCtorEq, Nat.reduceAdd, writeAt, Nat.reduceLeDiff, ne_eq, backE, backM, ABox.back, Nat.reduceLT, Int.reduceLT, Int.reduceLE, Int.reduceNeg, litsOf, sepAll, fillParts, AOp.argIds, ob, og, ox]
      simp only [moveW, hkx, eTree, eTreeC, Bool.and_true, Bool.true_and, Bool.and_false, Bool.false_and, Bool.or_true, Bool.true_or, Bool.or_false, Bool.false_or, Bool.not_true, Bool.not_false, Bool.and_self, Bool.or_self, ↓reduceIte, Bool.false_eq_true, reduceCtorEq, beq_self_eq_true, bne_self_eq_false]
end Go.Proofs.YtnapockikkbkcaaGreat
/-
  What the program's functions do, over plain data: Mv. Own work.
-/
namespace Go.Proofs.YtnapockikkbkcaaGreat
open Go Go.Abs
attribute [local irreducible] exK opsK opK gK forkK kr acall callOp owhen obind

set_option linter.defProp false in
def E17a := And.intro (exK_head q17_0.eq_1) (And.intro (exK_head q17_1.eq_1) (And.intro (exK_head q17_2.eq_1) (And.intro (exK_head q17_3.eq_1) (And.intro (exK_head q17_4.eq_1) (And.intro (exK_head q17_5.eq_1) (And.intro (exK_head q17_6.eq_1) (And.intro (exK_head q17_7.eq_1) (And.intro (exK_head q17_8.eq_1) (And.intro (exK_head q17_9.eq_1) (And.intro (exK_head q17_10.eq_1) (And.intro (exK_head q17_11.eq_1) (And.intro (exK_head q17_12.eq_1) (And.intro (exK_head q17_13.eq_1) (And.intro (exK_head q17_14.eq_1) (And.intro (exK_head q17_15.eq_1) (And.intro (exK_head q17_16.eq_1) (And.intro (exK_head q17_17.eq_1) (And.intro (exK_head q17_19.eq_1) (And.intro (exK_head q17_20.eq_1) (And.intro (exK_head q17_21.eq_1) (And.intro (exK_head q17_22.eq_1) (And.intro (exK_head q17_23.eq_1) (And.intro (exK_head q17_24.eq_1) (And.intro (exK_head q17_25.eq_1) (And.intro (exK_head q17_26.eq_1) (And.intro (exK_head q17_27.eq_1) (And.intro (exK_head q17_28.eq_1) (And.intro (exK_head q17_29.eq_1) (And.intro (exK_head q17_30.eq_1) (And.intro (exK_head q17_31.eq_1) (And.intro (exK_head q17_32.eq_1) (And.intro (exK_head q17_33.eq_1) (exK_head q17_34.eq_1)))))))))))))))))))))))))))))))))
/-- What stands under a name. -/
def nodeUnder (nodes : List Node) (l : List Ent) (s : Bytes) : Node := match findE l s with
  | none => Node.zero
  | some e => nodeN nodes e.ino
def manyW (t : Tree) (dir to : Int) (ents : List Ent) (there : Bool) (kind ino : Int) : Bool :=
  ((!there && to != dir) && decide ((64 : Int) ≤ ents.length)) || (decide ((12 : Int) < (upsN t.nodes to).length) || ((kind == 2 && deepN t.nodes ino (upsN t.nodes to).length) || decide ((1099511627776 : Int) ≤ t.cookie)))
def mvW (t : Tree) (dir : Int) (s : Bytes) (to : Int) (nm : Bytes) : Tree × Int × Int :=
  if ((lookN t.nodes dir s).2 != 0) = true then (t, 0, (lookN t.nodes dir s).2) else
  if ((dirN t.nodes to).2 != 0) = true then (t, 0, (dirN t.nodes to).2) else
  if (!nameOk nm) = true then (t, 0, 60) else
  if ((nodeUnder t.nodes (dirN t.nodes to).1.ents nm).ino == (lookN t.nodes dir s).1) = true then (t, 0, 0) else
  if ((nodeN t.nodes (lookN t.nodes dir s).1).kind == 2 && (upsN t.nodes to).contains (lookN t.nodes dir s).1) = true then (t, 0, 75) else
  if ((findE (dirN t.nodes to).1.ents nm).isSome && ontoN (nodeN t.nodes (lookN t.nodes dir s).1) (nodeUnder t.nodes (dirN t.nodes to).1.ents nm) != 0) = true then (t, 0, ontoN (nodeN t.nodes (lookN t.nodes dir s).1) (nodeUnder t.nodes (dirN t.nodes to).1.ents nm)) else
  if manyW t dir to (dirN t.nodes to).1.ents (findE (dirN t.nodes to).1.ents nm).isSome (nodeN t.nodes (lookN t.nodes dir s).1).kind (lookN t.nodes dir s).1 = true then (t, 0, 76) else
  (moveW t dir s to nm (lookN t.nodes dir s).1 (nodeN t.nodes (lookN t.nodes dir s).1) (nodeUnder t.nodes (dirN t.nodes to).1.ents nm) (findE (dirN t.nodes to).1.ents nm).isSome, (nodeUnder t.nodes (dirN t.nodes to).1.ents nm).ino, 0)
theorem k46 (a b c : Int) (d : Bytes) (e : List Ent) (u : Int) (a' b' c' : Int) (d' : Bytes) (e' : List Ent) (u' : Int) (M : AMem) : callOp (acall tab) 46 [.agg [.int .i64 a, .int .i64 b, .int .i64 c, eData d, eEnts e, .int .i64 u], .agg [.int .i64 a', .int .i64 b', .int .i64 c', eData d', eEnts e', .int .i64 u']] M = some (.int .i64 (ontoN ⟨a, b, c, d, e, u⟩ ⟨a', b', c', d', e', u'⟩), M) :=
  callOp0 (c46 ⟨a, b, c, d, e, u⟩ ⟨a', b', c', d', e', u'⟩) rfl rfl rfl rfl rfl M
theorem ups_self (nodes : List Node) (to : Int) : (upsN nodes to).contains to = true := by
  have key : ∀ (m : Nat) (ino : Int) (out : List Int), out.contains to = true → (upsGo nodes m ino out).contains to = true := by
    intro m
    induction m with
    | zero => intro ino out h; exact h
    | succ m ih =>
      intro ino out h
      rw [upsGo]
      split
      · split
        · exact h
        · exact ih _ _ (by simp at h ⊢; exact .inl h)
      · exact h
  exact key _ _ _ (by simp)
theorem node_ino {nodes : List Node} {i : Int} (h : (nodeN nodes i).kind = 2) : (nodeN nodes i).ino = i := by
  cases hf : find nodes i with
  | none => simp [nodeN, hf, Node.zero] at h
  | some n => simp [nodeN, hf]; exact (find_mem hf).2
set_option maxHeartbeats 4000000 in
theorem c17 (t : Tree) (dir : Int) (s : Bytes) (to : Int) (nm : Bytes) (hz : Sz 1000 t) (hr : Srt t) (hs : s.length ≤ 100000) (ha : Ascii s) (hs' : nm.length ≤ 100000) (ha' : Ascii nm)
    (hun : ∀ e, findE (dirN t.nodes to).1.ents nm = some e → (nodeN t.nodes e.ino).ino ≠ to) :
    acall tab 17 [eTree t, .int .i64 dir, .str s, .int .i64 to, .str nm] [] = some (.tuple [eTree (mvW t dir s to nm).1, .int .i64 (mvW t dir s to nm).2.1, .int .i64 (mvW t dir s to nm).2.2], []) := by
  obtain ⟨nodes, next, cookie⟩ := t
  have ht : Small ⟨nodes, next, cookie⟩ := hz.small (by omega)
  have hn : nodes.length ≤ 100000 := ht.nodes
  have hasc : Asc nodes := hr.asc
  have hl := fun M => k15 nodes next cookie dir s ht hr hs ha M
  have hg := fun i b c M => k43 nodes next cookie i hasc hn 2 (b :: c :: .cells [eNodes nodes, .int .i64 next, .int .i64 cookie] :: M) rfl
  have hd := fun b c M => k40 nodes next cookie to hasc hn 2 (b :: c :: .cells [eNodes nodes, .int .i64 next, .int .i64 cookie] :: M) rfl
  have hup := fun b c M => k44 nodes next cookie to hasc hn 2 (b :: c :: .cells [eNodes nodes, .int .i64 next, .int .i64 cookie] :: M) rfl
  have hul := upsN_len nodes to
  have hn1 : nodes.length ≤ 1000 := hz.nodes
  have hc := fun x M => k45 (upsN nodes to) x (by omega) M
  have hdp := fun i a b c M => k47 nodes next cookie i a hasc (by omega) 2 (b :: c :: .cells [eNodes nodes, .int .i64 next, .int .i64 cookie] :: M) rfl
  have hE : AscE (dirN nodes to).1.ents := hr.dir to
  have hde : (dirN nodes to).1.ents.length ≤ 100000 := dirN_ents ht to
  have hen := fun a b c d u M => k42 a b c d (dirN nodes to).1.ents u nm _ (lowE_of hE nm) hde M
  refine acall_ex rfl rfl rfl ?_
  simp only [fn17, E17a, eTree, eTreeC, hl, EVT, finish, resAll, resOf, one, astep, aop, parsFrom, Opd.ev, getS, putS, keepS, nth, setN, abin, ↓reduceIte, Nat.reduceEqDiff, reduceCtorEq, Nat.reduceAdd, writeAt, Nat.reduceLeDiff, ne_eq, backE, backM, ABox.back, Nat.reduceLT, Int.reduceLT, Int.reduceLE, Int.reduceNeg, litsOf, sepAll, fillParts, AOp.argIds, ob, og, ox]
  refine fork_split (fun hb0 => ?_) (fun hb0 => ?_)
  · simp only [E17a, hb0, EVT, finish, resAll, resOf, one, astep, aop, parsFrom, Opd.ev, getS, putS, keepS, nth, setN, abin, ↓reduceIte, Nat.reduceEqDiff, reduceCtorEq, Nat.reduceAdd, writeAt, Nat.reduceLeDiff, ne_eq, backE, backM, ABox.back, Nat.reduceLT, Int.reduceLT, Int.reduceLE, Int.reduceNeg, litsOf, sepAll, fillParts, AOp.argIds, ob, og, ox]
    clear hl hg hd hup hc hdp hen hun
    simp_all only [mvW, eTree, eTreeC, Bool.and_true, Bool.true_and, Bool.and_false, Bool.false_and, Bool.or_true, Bool.true_or, Bool.or_false, Bool.false_or, Bool.not_true, Bool.not_false, Bool.and_self, Bool.or_self, ↓reduceIte, Bool.false_eq_true, reduceCtorEq, beq_self_eq_true, bne_self_eq_false]
  simp only [E17a, hb0, hd, eNode, eNodeC, EVT, finish, resAll, resOf, one, astep, aop, parsFrom, Opd.ev, getS, putS, keepS, nth, setN, abin, ↓reduceIte, Nat.reduceEqDiff, reduceCtorEq, Nat.reduceAdd, writeAt, Nat.reduceLeDiff, ne_eq, backE, backM, ABox.back, Nat.reduceLT, Int.reduceLT, Int.reduceLE, Int.reduceNeg, litsOf, sepAll, fillParts, AOp.argIds, ob, og, ox]
  refine fork_split (fun hb1 => ?_) (fun hb1 => ?_)
  · simp only [E17a, hb1, EVT, finish, resAll, resOf, one, astep, aop, parsFrom, Opd.ev, getS, putS, keepS, nth, setN, abin, ↓reduceIte, Nat.reduceEqDiff, reduceCtorEq, Nat.reduceAdd, writeAt, Nat.reduceLeDiff, ne_eq, backE, backM, ABox.back, Nat.reduceLT, Int.reduceLT, Int.reduceLE, Int.reduceNeg, litsOf, sepAll, fillParts, AOp.argIds, ob, og, ox]
    clear hl hg hd hup hc hdp hen hun
    simp_all only [mvW, eTree, eTreeC, Bool.and_true, Bool.true_and, Bool.and_false, Bool.false_and, Bool.or_true, Bool.true_or, Bool.or_false, Bool.false_or, Bool.not_true, Bool.not_false, Bool.and_self, Bool.or_self, ↓reduceIte, Bool.false_eq_true, reduceCtorEq, beq_self_eq_true, bne_self_eq_false]
  simp only [E17a, hb1, k41, hs', ha', EVT, finish, resAll, resOf, one, astep, aop, parsFrom, Opd.ev, getS, putS, keepS, nth, setN, abin, ↓reduceIte, Nat.reduceEqDiff, reduceCtorEq, Nat.reduceAdd, writeAt, Nat.reduceLeDiff, ne_eq, backE, backM, ABox.back, Nat.reduceLT, Int.reduceLT, Int.reduceLE, Int.reduceNeg, litsOf, sepAll, fillParts, AOp.argIds, ob, og, ox]
  refine fork_split (fun hb2 => ?_) (fun hb2 => ?_)
  · simp only [E17a, hb2, EVT, finish, resAll, resOf, one, astep, aop, parsFrom, Opd.ev, getS, putS, keepS, nth, setN, abin, ↓reduceIte, Nat.reduceEqDiff, reduceCtorEq, Nat.reduceAdd, writeAt, Nat.reduceLeDiff, ne_eq, backE, backM, ABox.back, Nat.reduceLT, Int.reduceLT, Int.reduceLE, Int.reduceNeg, litsOf, sepAll, fillParts, AOp.argIds, ob, og, ox]
    clear hl hg hd hup hc hdp hen hun
    simp_all only [mvW, eTree, eTreeC, Bool.and_true, Bool.true_and, Bool.and_false, Bool.false_and, Bool.or_true, Bool.true_or, Bool.or_false, Bool.false_or, Bool.not_true, Bool.not_false, Bool.and_self, Bool.or_self, ↓reduceIte, Bool.false_eq_true, reduceCtorEq, beq_self_eq_true, bne_self_eq_false]
  simp only [E17a, hb2, hg, hen, eNode, eNodeC, EVT, finish, resAll, resOf, one, astep, aop, parsFrom, Opd.ev, getS, putS, keepS, nth, setN, abin, ↓reduceIte, Nat.reduceEqDiff, reduceCtorEq, Nat.reduceAdd, writeAt, Nat.reduceLeDiff, ne_eq, backE, backM, ABox.back, Nat.reduceLT, Int.reduceLT, Int.reduceLE, Int.reduceNeg, litsOf, sepAll, fillParts, AOp.argIds, ob, og, ox]
  obtain ⟨dd, de, e1, e2, e3, e4, e5⟩ := look_ok hb0
  obtain ⟨dt, g1, g2, g3⟩ := dir_ok (show (dirN nodes to).2 = 0 by simpa using hb1)
  have hx0 := hz.find (lookN nodes dir s).1
  have tail := fun there y yr hyr hth hy hy1 hy2 v5 v140 B0 Bd hxx => tail17 nodes next cookie dir s to nm (lookN nodes dir s).1 (nodeN nodes (lookN nodes dir s).1) y there v5 v140 B0 Bd yr hyr hz hr e1 g1 hth hxx hy hx0.1 hx0.2 hy1 hy2
  have hxne : ((nodeN nodes (lookN nodes dir s).1).kind == 2) = true → (upsN nodes to).contains (lookN nodes dir s).1 = false → (nodeN nodes (lookN nodes dir s).1).ino ≠ to := fun h1 h2 h3 => by
    rw [node_ino (by simpa using h1)] at h3
    rw [h3, ups_self] at h2; cases h2
  have hdte : dt.ents = (dirN nodes to).1.ents := by rw [g3]
  rcases at_findE hE nm with ⟨h1, o, h2, h3, h4⟩ | ⟨h1, h2⟩
  · have hnu : nodeUnder nodes (dirN nodes to).1.ents nm = nodeN nodes o.ino := by simp [nodeUnder, h3]
    have hy0 := hz.find o.ino
    have tl := tail true (nodeN nodes o.ino) _ (fun _ => rfl) (by simp) (fun _ => hun o h3) hy0.1 hy0.2
    simp only [eNodeC, zT] at tl
    simp only [E17a, h1, h2, hg, eNode, eNodeC, eEntC, EVT, finish, resAll, resOf, one, astep, aop, parsFrom, Opd.ev, getS, putS, keepS, nth, setN, abin, ↓reduceIte, Nat.reduceEqDiff, reduceCtorEq, Nat.reduceAdd, writeAt, Nat.reduceLeDiff, ne_eq, backE, backM, ABox.back, Nat.reduceLT, Int.reduceLT, Int.reduceLE, Int.reduceNeg, litsOf, sepAll, fillParts, AOp.argIds, ob, og, ox]
    repeat' (first | (refine fork_split (fun hb => ?_) (fun hb => ?_) <;> simp only [hb, E17a, hup, hc, hdp, k46, EVT, finish, resAll, resOf, one, astep, aop, parsFrom, Opd.ev, getS, putS, keepS, nth, setN, abin, ↓reduceIte, Nat.reduceEqDiff, reduceCtorEq, Nat.reduceAdd, writeAt, Nat.reduceLeDiff, ne_eq, backE, backM, ABox.back, Nat.reduceLT, Int.reduceLT, Int.reduceLE, Int.reduceNeg, litsOf, sepAll, fillParts, AOp.argIds, ob, og, ox]) | (refine guard_split (fun hb => ?_) (fun hb => ?_) <;> simp only [hb, E17a, hup, hc, hdp, k46, EVT, finish, resAll, resOf, one, astep, aop, parsFrom, Opd.ev, getS, putS, keepS, nth, setN, abin, ↓reduceIte, Nat.reduceEqDiff, reduceCtorEq, Nat.reduceAdd, writeAt, Nat.reduceLeDiff, ne_eq, backE, backM, ABox.back, Nat.reduceLT, Int.reduceLT, Int.reduceLE, Int.reduceNeg, litsOf, sepAll, fillParts, AOp.argIds, ob, og, ox]) | (refine opK_pick (fun hb => ?_) (fun hb => ?_) <;> simp only [hb, E17a, hup, hc, hdp, k46, EVT, finish, resAll, resOf, one, astep, aop, parsFrom, Opd.ev, getS, putS, keepS, nth, setN, abin, ↓reduceIte, Nat.reduceEqDiff, reduceCtorEq, Nat.reduceAdd, writeAt, Nat.reduceLeDiff, ne_eq, backE, backM, ABox.back, Nat.reduceLT, Int.reduceLT, Int.reduceLE, Int.reduceNeg, litsOf, sepAll, fillParts, AOp.argIds, ob, og, ox]))
    all_goals try (clear hl hg hd hup hc hdp hen hun tail tl hxne e5 g3; simp_all only [mvW, manyW, eTree, eTreeC, Option.isSome_some, Bool.and_true, Bool.true_and, Bool.and_false, Bool.false_and, Bool.or_true, Bool.true_or, Bool.or_false, Bool.false_or, Bool.not_true, Bool.not_false, Bool.and_self, Bool.or_self, ↓reduceIte, Bool.false_eq_true, reduceCtorEq, beq_self_eq_true, bne_self_eq_false]; done)
    all_goals
      refine (tl _ _ _ _ (fun hk => by first | exact hxne hk (by assumption) | (exfalso; simp_all; done))).trans ?_
      have hmv : mvW ⟨nodes, next, cookie⟩ dir s to nm = (moveW ⟨nodes, next, cookie⟩ dir s to nm (lookN nodes dir s).1 (nodeN nodes (lookN nodes dir s).1) (nodeN nodes o.ino) true, (nodeN nodes o.ino).ino, 0) := by
        clear hl hg hd hup hc hdp hen hun tail tl hxne e5 g3
        simp_all only [mvW, manyW, Option.isSome_some, Bool.and_true, Bool.true_and, Bool.and_false, Bool.false_and, Bool.or_true, Bool.true_or, Bool.or_false, Bool.false_or, Bool.not_true, Bool.not_false, Bool.and_self, Bool.or_self, ↓reduceIte, Bool.false_eq_true, reduceCtorEq, beq_self_eq_true, bne_self_eq_false]
      rw [hmv]
      rfl
  · have hnu : nodeUnder nodes (dirN nodes to).1.ents nm = Node.zero := by simp [nodeUnder, h2]
    have tl := tail false Node.zero [.int .i64 0, .int .i64 0, .slice .c0 [], .slice .c0 [], .int .i64 0] (by simp) (fun _ => by rw [hdte]; exact h2) (by simp) (by simp [Node.zero]) (by simp [Node.zero])
    have hz0 : Node.zero.ino = 0 := rfl
    simp only [eNodeC, zT, hz0] at tl
    simp only [E17a, h1, EVT, finish, resAll, resOf, one, astep, aop, parsFrom, Opd.ev, getS, putS, keepS, nth, setN, abin, ↓reduceIte, Nat.reduceEqDiff, reduceCtorEq, Nat.reduceAdd, writeAt, Nat.reduceLeDiff, ne_eq, backE, backM, ABox.back, Nat.reduceLT, Int.reduceLT, Int.reduceLE, Int.reduceNeg, litsOf, sepAll, fillParts, AOp.argIds, ob, og, ox]
    repeat' (first | (refine fork_split (fun hb => ?_) (fun hb => ?_) <;> simp only [hb, E17a, hup, hc, hdp, k46, EVT, finish, resAll, resOf, one, astep, aop, parsFrom, Opd.ev, getS, putS, keepS, nth, setN, abin, ↓reduceIte, Nat.reduceEqDiff, reduceCtorEq, Nat.reduceAdd, writeAt, Nat.reduceLeDiff, ne_eq, backE, backM, ABox.back, Nat.reduceLT, Int.reduceLT, Int.reduceLE, Int.reduceNeg, litsOf, sepAll, fillParts, AOp.argIds, ob, og, ox]) | (refine guard_split (fun hb => ?_) (fun hb => ?_) <;> simp only [hb, E17a, hup, hc, hdp, k46, EVT, finish, resAll, resOf, one, astep, aop, parsFrom, Opd.ev, getS, putS, keepS, nth, setN, abin, ↓reduceIte, Nat.reduceEqDiff, reduceCtorEq, Nat.reduceAdd, writeAt, Nat.reduceLeDiff, ne_eq, backE, backM, ABox.back, Nat.reduceLT, Int.reduceLT, Int.reduceLE, Int.reduceNeg, litsOf, sepAll, fillParts, AOp.argIds, ob, og, ox]) | (refine opK_pick (fun hb => ?_) (fun hb => ?_) <;> simp only [hb, E17a, hup, hc, hdp, k46, EVT, finish, resAll, resOf, one, astep, aop, parsFrom, Opd.ev, getS, putS, keepS, nth, setN, abin, ↓reduceIte, Nat.reduceEqDiff, reduceCtorEq, Nat.reduceAdd, writeAt, Nat.reduceLeDiff, ne_eq, backE, backM, ABox.back, Nat.reduceLT, Int.reduceLT, Int.reduceLE, Int.reduceNeg, litsOf, sepAll, fillParts, AOp.argIds, ob, og, ox]))
    all_goals try (clear hl hg hd hup hc hdp hen hun tail tl hxne e5 g3; simp_all only [mvW, manyW, eTree, eTreeC, Option.isSome_none, Bool.and_true, Bool.true_and, Bool.and_false, Bool.false_and, Bool.or_true, Bool.true_or, Bool.or_false, Bool.false_or, Bool.not_true, Bool.not_false, Bool.and_self, Bool.or_self, ↓reduceIte, Bool.false_eq_true, reduceCtorEq, beq_self_eq_true, bne_self_eq_false]; done)
    all_goals
      refine (tl _ _ _ _ (fun hk => by first | exact hxne hk (by assumption) | (exfalso; simp_all; done))).trans ?_
      have hmv : mvW ⟨nodes, next, cookie⟩ dir s to nm = (moveW ⟨nodes, next, cookie⟩ dir s to nm (lookN nodes dir s).1 (nodeN nodes (lookN nodes dir s).1) Node.zero false, 0, 0) := by
        clear hl hg hd hup hc hdp hen hun tail tl hxne e5 g3
        simp_all only [mvW, manyW, Option.isSome_none, Bool.and_true, Bool.true_and, Bool.and_false, Bool.false_and, Bool.or_true, Bool.true_or, Bool.or_false, Bool.false_or, Bool.not_true, Bool.not_false, Bool.and_self, Bool.or_self, ↓reduceIte, Bool.false_eq_true, reduceCtorEq, beq_self_eq_true, bne_self_eq_false]
      rw [hmv]
      rfl
end Go.Proofs.YtnapockikkbkcaaGreat
/-
  How many entries name a node; what a change of one node makes of that. Own work.
-/
namespace Go.Proofs.YtnapockikkbkcaaGreat
open Go Go.Abs

def cntE (l : List Ent) (i : Int) : Nat := l.countP fun e => e.ino == i
def cnt (ns : List Node) (i : Int) : Nat := (ns.map fun n => cntE n.ents i).sum
theorem cntE_nil (i : Int) : cntE [] i = 0 := rfl
theorem cntE_app (a b : List Ent) (i : Int) : cntE (a ++ b) i = cntE a i + cntE b i := List.countP_append
theorem cntE_cons (e : Ent) (l : List Ent) (i : Int) : cntE (e :: l) i = cntE l i + (if e.ino = i then 1 else 0) := by simp [cntE, List.countP_cons]
theorem cnt_app (a b : List Node) (i : Int) : cnt (a ++ b) i = cnt a i + cnt b i := by simp [cnt]
theorem cnt_cons (n : Node) (l : List Node) (i : Int) : cnt (n :: l) i = cntE n.ents i + cnt l i := by simp [cnt]
theorem cnt_withN {ns : List Node} (h : Asc ns) (n : Node) (i : Int) : cnt (withN ns n) i + cntE (nodeN ns n.ino).ents i = cnt ns i + cntE n.ents i := by
  rcases at_find h n.ino with ⟨_, o, h2, h3, h4⟩ | ⟨_, h2⟩
  · rw [withN_set h h2 h4]
    obtain ⟨s1, s2⟩ := set_split (n := n) h2
    have e1 : cnt ns i = cnt (ns.take (lowB ns n.ino)) i + (cntE o.ents i + cnt (ns.drop (lowB ns n.ino + 1)) i) := by
      rw [← cnt_cons, ← cnt_app, ← s1]
    rw [s2, cnt_app, cnt_cons, e1]
    simp only [nodeN, h3, Option.getD_some]
    omega
  · rw [withN_ins h h2]
    have e1 : cnt ns i = cnt (ns.take (lowB ns n.ino)) i + cnt (ns.drop (lowB ns n.ino)) i := by
      rw [← cnt_app, List.take_append_drop]
    rw [cnt_app, cnt_cons, e1]
    simp only [nodeN, h2, Option.getD_none, Node.zero, cntE_nil]
    omega
theorem cnt_withoutN {ns : List Node} (h : Asc ns) (k i : Int) : cnt (withoutN ns k) i + cntE (nodeN ns k).ents i = cnt ns i := by
  rcases at_find h k with ⟨_, o, h2, h3, h4⟩ | ⟨_, h2⟩
  · rw [withoutN_del h h2 h4]
    obtain ⟨s1, _⟩ := set_split (n := o) h2
    have e1 : cnt ns i = cnt (ns.take (lowB ns k)) i + (cntE o.ents i + cnt (ns.drop (lowB ns k + 1)) i) := by
      rw [← cnt_cons, ← cnt_app, ← s1]
    rw [cnt_app, e1]
    simp only [nodeN, h3, Option.getD_some]
    omega
  · rw [withoutN_none h2]
    simp only [nodeN, h2, Option.getD_none, Node.zero, cntE_nil]
    omega
theorem cntE_pos {l : List Ent} {i : Int} : 0 < cntE l i ↔ ∃ e, e ∈ l ∧ e.ino = i := by simp [cntE, List.countP_pos_iff]
theorem cnt_pos {i : Int} : ∀ {ns : List Node}, 0 < cnt ns i ↔ ∃ n e, n ∈ ns ∧ e ∈ n.ents ∧ e.ino = i
  | [] => by simp [cnt]
  | n :: ns => by
    rw [cnt_cons]
    constructor
    · intro h
      rcases Nat.eq_zero_or_pos (cntE n.ents i) with h0 | h0
      · obtain ⟨m, e, h1, h2, h3⟩ := (cnt_pos (i := i) (ns := ns)).1 (by omega)
        exact ⟨m, e, List.mem_cons_of_mem _ h1, h2, h3⟩
      · obtain ⟨e, h1, h2⟩ := cntE_pos.1 h0
        exact ⟨n, e, List.mem_cons_self, h1, h2⟩
    · rintro ⟨m, e, h1, h2, h3⟩
      rcases List.mem_cons.1 h1 with rfl | h1
      · have := cntE_pos.2 ⟨e, h2, h3⟩; omega
      · have := (cnt_pos (i := i) (ns := ns)).2 ⟨m, e, h1, h2, h3⟩; omega
theorem mem_insE {l : List Ent} (h : AscE l) {e : Ent} (hf : findE l e.name = none) {x : Ent} : x ∈ insE l e ↔ x = e ∨ x ∈ l := by
  rw [insE_ins h hf]
  have : x ∈ l ↔ x ∈ l.take (lowE l e.name) ∨ x ∈ l.drop (lowE l e.name) := by rw [← List.mem_append, List.take_append_drop]
  rw [this, List.mem_append, List.mem_cons]
  constructor
  · rintro (h | h | h)
    · exact .inr (.inl h)
    · exact .inl h
    · exact .inr (.inr h)
  · rintro (h | h | h)
    · exact .inr (.inl h)
    · exact .inl h
    · exact .inr (.inr h)
theorem cntE_insE {l : List Ent} (h : AscE l) {e : Ent} (hf : findE l e.name = none) (i : Int) : cntE (insE l e) i = cntE l i + (if e.ino = i then 1 else 0) := by
  rw [insE_ins h hf, cntE_app, cntE_cons]
  have : cntE l i = cntE (l.take (lowE l e.name)) i + cntE (l.drop (lowE l e.name)) i := by rw [← cntE_app, List.take_append_drop]
  omega
theorem len_insE {l : List Ent} (h : AscE l) {e : Ent} (hf : findE l e.name = none) : (insE l e).length = l.length + 1 := by
  rw [insE_ins h hf]
  have : l.length = (l.take (lowE l e.name)).length + (l.drop (lowE l e.name)).length := by rw [← List.length_append, List.take_append_drop]
  simp only [List.length_append, List.length_cons]
  omega
theorem mem_dropE {l : List Ent} {s : Bytes} {x : Ent} : x ∈ dropE l s ↔ x ∈ l ∧ x.name ≠ s := by simp [dropE, List.mem_filter]
theorem setE_split {l : List Ent} {b : Nat} {o : Ent} (ho : l[b]? = some o) : l = l.take b ++ o :: l.drop (b + 1) := by
  have hlt := (List.getElem?_eq_some_iff.1 ho).1
  rw [List.getElem?_eq_getElem hlt] at ho; injection ho with ho
  conv => lhs; rw [← List.take_append_drop b l]
  rw [List.drop_eq_getElem_cons hlt, ho]
theorem cntE_dropE {l : List Ent} (h : AscE l) {s : Bytes} {o : Ent} (hf : findE l s = some o) (i : Int) : cntE (dropE l s) i + (if o.ino = i then 1 else 0) = cntE l i := by
  rcases at_findE h s with ⟨_, o', h2, h3, h4⟩ | ⟨_, h2⟩
  · rw [hf] at h3; injection h3 with h3; subst h3
    rw [dropE_del h h2 h4]
    have e1 : cntE l i = cntE (l.take (lowE l s)) i + (cntE (l.drop (lowE l s + 1)) i + (if o.ino = i then 1 else 0)) := by
      rw [← cntE_cons, ← cntE_app, ← setE_split h2]
    rw [cntE_app, e1]
    omega
  · rw [hf] at h2; cases h2
theorem len_dropE {l : List Ent} (h : AscE l) {s : Bytes} {o : Ent} (hf : findE l s = some o) : (dropE l s).length + 1 = l.length := by
  rcases at_findE h s with ⟨_, o', h2, h3, h4⟩ | ⟨_, h2⟩
  · rw [dropE_del h h2 h4]
    have e1 : l.length = (l.take (lowE l s)).length + ((l.drop (lowE l s + 1)).length + 1) := by
      rw [← List.length_cons (a := o'), ← List.length_append, ← setE_split h2]
    rw [List.length_append]
    omega
  · rw [hf] at h2; cases h2
theorem len_withN {ns : List Node} (h : Asc ns) {n o : Node} (hf : find ns n.ino = some o) : (withN ns n).length = ns.length := by
  rcases at_find h n.ino with ⟨_, o, h2, h3, h4⟩ | ⟨_, h2⟩
  · rw [withN_set h h2 h4, List.length_set]
  · rw [hf] at h2; cases h2

end Go.Proofs.YtnapockikkbkcaaGreat
/-
  Right trees, but for a node that has one name less than its links say; what single changes make of them. Own work.
-/
namespace Go.Proofs.YtnapockikkbkcaaGreat
open Go Go.Abs

def Nm (s : Bytes) : Prop := s = [97] ∨ s = [98] ∨ s = [99] ∨ s = [100] ∨ s = [101]
/-- A right tree of the laws' names, by a depth; the node x has one link more than names. -/
structure GInv (t : Tree) (dep : Int → Nat) (x : Int) : Prop where
  srt : Srt t
  root : ∃ r, find t.nodes 1 = some r ∧ r.kind = 2 ∧ r.up = 1
  num : ∀ i n, find t.nodes i = some n → 1 ≤ i ∧ i < t.next
  kind : ∀ i n, find t.nodes i = some n → n.kind = 1 ∨ n.kind = 2
  file : ∀ i n, find t.nodes i = some n → n.kind = 1 → n.ents = [] ∧ n.up = 0 ∧ n.data.length ≤ 4096
  dir : ∀ i n, find t.nodes i = some n → n.kind = 2 → n.data = []
  ent : ∀ i n e, find t.nodes i = some n → e ∈ n.ents → 1 ≤ e.cookie ∧ e.cookie < t.cookie ∧ e.ino ≠ 1 ∧ Nm e.name ∧ ∃ m, find t.nodes e.ino = some m ∧ (m.kind = 2 → m.up = i)
  cook : ∀ i n, find t.nodes i = some n → n.ents.Pairwise fun a b => a.cookie ≠ b.cookie
  links : ∀ i n, find t.nodes i = some n → n.links = (cnt t.nodes i : Int) + (if i = x then 1 else 0)
  one : ∀ i n, find t.nodes i = some n → n.kind = 2 → i ≠ 1 → n.links = 1
  dep1 : dep 1 = 0
  deps : ∀ i n, find t.nodes i = some n → n.kind = 2 → i ≠ 1 → dep i = dep n.up + 1 ∧ ∃ p, find t.nodes n.up = some p ∧ p.kind = 2
  deep : ∀ i n, find t.nodes i = some n → n.kind = 2 → dep i ≤ 12 ∧ (dep i = 12 → n.ents = [])
  nodes : t.nodes.length ≤ 200
  next : t.next ≤ 1099511627776
  cookie : 1 ≤ t.cookie ∧ t.cookie ≤ 1099511627776

theorem GInv.ino {t : Tree} {dep : Int → Nat} {x : Int} (_ : GInv t dep x) {i : Int} {n : Node} (hf : find t.nodes i = some n) : n.ino = i := (find_mem hf).2

/-- One node is another, of the same kind, in the same place. -/
theorem GInv.upd {t t' : Tree} {dep : Int → Nat} {x x' d : Int} {n n' : Node} (h : GInv t dep x) (hs : Srt t') (hd : find t.nodes d = some n)
    (hf : ∀ i, find t'.nodes i = if i = d then some n' else find t.nodes i) (hk : n'.kind = n.kind) (hu : n'.up = n.up)
    (hfile : n.kind = 1 → n'.ents = [] ∧ n'.data.length ≤ 4096) (hdir : n.kind = 2 → n'.data = [])
    (hent : ∀ e, e ∈ n'.ents → 1 ≤ e.cookie ∧ e.cookie < t'.cookie ∧ e.ino ≠ 1 ∧ Nm e.name ∧ ∃ m, find t.nodes e.ino = some m ∧ (m.kind = 2 → m.up = d))
    (hcook : n'.ents.Pairwise fun a b => a.cookie ≠ b.cookie)
    (hc : ∀ i, 1 ≤ i → (cnt t'.nodes i : Int) + (if i = x' then 1 else 0) = cnt t.nodes i + (if i = x then 1 else 0) + (if i = d then n'.links - n.links else 0))
    (h1 : n.kind = 2 → n'.links = n.links) (hdeep : dep d = 12 → n'.ents = []) (hn : t'.nodes.length ≤ 200) (hnx : t'.next = t.next) (hck : t.cookie ≤ t'.cookie) (hck' : t'.cookie ≤ 1099511627776) : GInv t' dep x' := by
  have keep : ∀ j m, find t.nodes j = some m → ∃ m', find t'.nodes j = some m' ∧ m'.kind = m.kind ∧ m'.up = m.up := by
    intro j m hm
    rw [hf]
    split
    · rename_i he
      subst he
      rw [hd] at hm; injection hm with hm; subst hm
      exact ⟨n', rfl, hk, hu⟩
    · exact ⟨m, hm, rfl, rfl⟩
  have back : ∀ j m', find t'.nodes j = some m' → (j = d ∧ m' = n') ∨ (j ≠ d ∧ find t.nodes j = some m') := by
    intro j m' hm
    rw [hf] at hm
    split at hm
    · rename_i he; injection hm with hm; exact .inl ⟨he, hm.symm⟩
    · rename_i he; exact .inr ⟨he, hm⟩
  refine ⟨hs, ?_, ?_, ?_, ?_, ?_, ?_, ?_, ?_, ?_, h.dep1, ?_, ?_, hn, by rw [hnx]; exact h.next, ⟨by have := h.cookie.1; omega, hck'⟩⟩
  · obtain ⟨r, h1, h2, h3⟩ := h.root
    obtain ⟨r', k1, k2, k3⟩ := keep _ _ h1
    exact ⟨r', k1, by omega, by omega⟩
  · intro i m hm
    rw [hnx]
    rcases back i m hm with ⟨rfl, rfl⟩ | ⟨_, hm⟩
    · exact h.num _ _ hd
    · exact h.num _ _ hm
  · intro i m hm
    rcases back i m hm with ⟨rfl, rfl⟩ | ⟨_, hm⟩
    · rw [hk]; exact h.kind _ _ hd
    · exact h.kind _ _ hm
  · intro i m hm hk1
    rcases back i m hm with ⟨rfl, rfl⟩ | ⟨_, hm⟩
    · rw [hk] at hk1
      exact ⟨(hfile hk1).1, by rw [hu]; exact (h.file _ _ hd hk1).2.1, (hfile hk1).2⟩
    · exact h.file _ _ hm hk1
  · intro i m hm hk1
    rcases back i m hm with ⟨rfl, rfl⟩ | ⟨_, hm⟩
    · rw [hk] at hk1
      exact hdir hk1
    · exact h.dir _ _ hm hk1
  · intro i m e hm he
    have key : ∀ m, find t.nodes e.ino = some m ∧ (m.kind = 2 → m.up = i) → ∃ m, find t'.nodes e.ino = some m ∧ (m.kind = 2 → m.up = i) := by
      rintro m ⟨k1, k2⟩
      obtain ⟨m', j1, j2, j3⟩ := keep _ _ k1
      exact ⟨m', j1, fun hk => by rw [j3]; exact k2 (by omega)⟩
    rcases back i m hm with ⟨rfl, rfl⟩ | ⟨_, hm⟩
    · obtain ⟨a1, a2, a3, a4, k, a5⟩ := hent e he
      exact ⟨a1, a2, a3, a4, key k a5⟩
    · obtain ⟨a1, a2, a3, a4, k, a5⟩ := h.ent _ _ e hm he
      exact ⟨a1, by omega, a3, a4, key k a5⟩
  · intro i m hm
    rcases back i m hm with ⟨rfl, rfl⟩ | ⟨_, hm⟩
    · exact hcook
    · exact h.cook _ _ hm
  · intro i m hm
    rcases back i m hm with ⟨rfl, rfl⟩ | ⟨hne, hm⟩
    · have := hc i (h.num _ _ hd).1
      have := h.links _ _ hd
      simp only [↓reduceIte] at *
      omega
    · have := hc i (h.num _ _ hm).1
      have := h.links _ _ hm
      simp only [hne, ↓reduceIte] at *
      omega
  · intro i m hm hk1 hi
    rcases back i m hm with ⟨rfl, rfl⟩ | ⟨_, hm⟩
    · rw [hk] at hk1
      rw [h1 hk1]; exact h.one _ _ hd hk1 hi
    · exact h.one _ _ hm hk1 hi
  · intro i m hm hk1 hi
    rcases back i m hm with ⟨rfl, rfl⟩ | ⟨_, hm⟩
    · rw [hk] at hk1
      obtain ⟨a, p, b, c⟩ := h.deps _ _ hd hk1 hi
      obtain ⟨p', k1, k2, _⟩ := keep _ _ b
      rw [hu]; exact ⟨a, p', k1, by omega⟩
    · obtain ⟨a, p, b, c⟩ := h.deps _ _ hm hk1 hi
      obtain ⟨p', k1, k2, _⟩ := keep _ _ b
      exact ⟨a, p', k1, by omega⟩
  · intro i m hm hk1
    rcases back i m hm with ⟨rfl, rfl⟩ | ⟨_, hm⟩
    · rw [hk] at hk1
      exact ⟨(h.deep _ _ hd hk1).1, hdeep⟩
    · exact h.deep _ _ hm hk1

/-- An entry leaves. -/
theorem GInv.left {t : Tree} {dep : Int → Nat} {d : Int} {n : Node} {s : Bytes} {e : Ent} (h : GInv t dep 0) (hd : find t.nodes d = some n) (he : findE n.ents s = some e) : GInv ⟨leftN t.nodes d s, t.next, t.cookie⟩ dep e.ino := by
  have hE : AscE n.ents := h.srt.ents n (find_mem hd).1
  have hi : n.ino = d := h.ino hd
  have hem := findE_mem he
  have hw : leftN t.nodes d s = withN t.nodes { n with ents := dropE n.ents s } := by simp [leftN, hd]
  have hc : ∀ i, cnt (leftN t.nodes d s) i + (if e.ino = i then 1 else 0) = cnt t.nodes i := by
    intro i
    have h1 := cnt_withN h.srt.asc { n with ents := dropE n.ents s } i
    have h2 := cntE_dropE hE he i
    rw [hw]
    have h3 : nodeN t.nodes n.ino = n := by simp only [nodeN, hi, hd, Option.getD_some]
    simp only [h3] at h1
    omega
  refine h.upd (h.srt.left d s t.next t.cookie) hd (find_leftN h.srt.asc hd) rfl rfl ?_ ?_ ?_ ?_ ?_ (fun _ => rfl) ?_ ?_ rfl (Int.le_refl _) h.cookie.2
  · intro hk
    obtain ⟨h1, _, h3⟩ := h.file _ _ hd hk
    exact ⟨by simp [h1, dropE], h3⟩
  · exact h.dir _ _ hd
  · intro x hx
    exact h.ent _ _ x hd (mem_dropE.1 hx).1
  · exact List.Pairwise.filter _ (h.cook _ _ hd)
  · intro i h0
    have h1 := hc i
    rw [if_neg (show i ≠ 0 by omega)]
    have e1 : (if i = d then (n.links - n.links : Int) else 0) = 0 := by split <;> omega
    simp only [e1]
    by_cases h0 : i = e.ino
    · subst h0
      simp only [↓reduceIte] at h1 ⊢
      omega
    · rw [if_neg (fun hh => h0 hh.symm)] at h1
      rw [if_neg h0]
      omega
  · intro h12
    have := (h.deep _ _ hd ?_).2 h12
    · simp [this, dropE]
    · rcases h.kind _ _ hd with hk | hk
      · have := (h.file _ _ hd hk).1
        rw [this] at hem; cases hem.1
      · exact hk
  · show (leftN t.nodes d s).length ≤ 200
    rw [hw, len_withN h.srt.asc (o := n) (by simp only [hi]; exact hd)]
    exact h.nodes

/-- An entry is made. -/
theorem GInv.entered {t : Tree} {dep : Int → Nat} {x d : Int} {n m : Node} {s : Bytes} (h : GInv t dep x) (hd : find t.nodes d = some n) (hk : n.kind = 2) (he : findE n.ents s = none) (hnm : Nm s)
    (hx : find t.nodes x = some m) (hx1 : x ≠ 1) (hup : m.kind = 2 → m.up = d) (hdp : dep d < 12) (hck : t.cookie < 1099511627776) : GInv (enteredN t d s x) dep 0 := by
  have hE : AscE n.ents := h.srt.ents n (find_mem hd).1
  have hi : n.ino = d := h.ino hd
  have hcw : w64 (t.cookie + 1) = t.cookie + 1 := wrap_small (by have := h.cookie; omega) (by omega)
  have hw : enteredN t d s x = ⟨withN t.nodes { n with ents := insE n.ents ⟨s, x, t.cookie⟩ }, t.next, t.cookie + 1⟩ := by simp only [enteredN, hd, Option.getD_some, hcw]
  have hfn : findE n.ents (Ent.mk s x t.cookie).name = none := he
  have hc : ∀ i, cnt (enteredN t d s x).nodes i = cnt t.nodes i + (if x = i then 1 else 0) := by
    intro i
    have h1 := cnt_withN h.srt.asc { n with ents := insE n.ents ⟨s, x, t.cookie⟩ } i
    have h2 := cntE_insE hE hfn i
    rw [hw]
    have h3 : nodeN t.nodes n.ino = n := by simp only [nodeN, hi, hd, Option.getD_some]
    simp only [h3] at h1 h2 ⊢
    omega
  have hff : ∀ i, find (enteredN t d s x).nodes i = if i = d then some { n with ents := insE n.ents ⟨s, x, t.cookie⟩ } else find t.nodes i := by
    intro i
    rw [hw]
    have := find_withN h.srt.asc { n with ents := insE n.ents ⟨s, x, t.cookie⟩ } i
    rw [this]
    simp only [hi]
  refine h.upd (h.srt.entered d s x (by simp [nodeN, hd, he])) hd hff rfl rfl ?_ ?_ ?_ ?_ ?_ (fun _ => rfl) ?_ ?_ ?_ ?_ ?_
  · intro hk1; omega
  · exact h.dir _ _ hd
  · intro e hem
    rw [hw]
    rcases (mem_insE hE hfn).1 hem with rfl | hem
    · exact ⟨h.cookie.1, by simp only; omega, hx1, hnm, m, hx, hup⟩
    · obtain ⟨a1, a2, a3, a4, a5⟩ := h.ent _ _ e hd hem
      exact ⟨a1, by simp only; omega, a3, a4, a5⟩
  · rw [insE_ins hE hfn]
    have hp := h.cook _ _ hd
    rw [← List.take_append_drop (lowE n.ents s) n.ents, List.pairwise_append] at hp
    obtain ⟨p1, p2, p3⟩ := hp
    rw [List.pairwise_append]
    refine ⟨p1, List.pairwise_cons.2 ⟨fun a ha => ?_, p2⟩, fun a ha c hc => ?_⟩
    · have := (h.ent _ _ a hd (List.mem_of_mem_drop ha)).2.1
      simp only; omega
    · rcases List.mem_cons.1 hc with rfl | hc
      · have := (h.ent _ _ a hd (List.mem_of_mem_take ha)).2.1
        simp only; omega
      · exact p3 a ha c hc
  · intro i h0
    have h1 := hc i
    rw [if_neg (show i ≠ 0 by omega)]
    have e1 : (if i = d then (n.links - n.links : Int) else 0) = 0 := by split <;> omega
    simp only [e1]
    by_cases h0 : i = x
    · subst h0
      simp only [↓reduceIte] at h1 ⊢
      omega
    · rw [if_neg (fun hh => h0 hh.symm)] at h1
      rw [if_neg h0]
      omega
  · intro h12; omega
  · rw [hw]
    simp only
    rw [len_withN h.srt.asc (o := n) (by simp only [hi]; exact hd)]
    exact h.nodes
  · rw [hw]
  · rw [hw]; simp only; omega
  · rw [hw]; simp only; omega

/-- A file has other links, or bytes. -/
theorem GInv.file' {t : Tree} {dep : Int → Nat} {x x' d : Int} {n n' : Node} (h : GInv t dep x) (hd : find t.nodes d = some n) (hk : n.kind = 1) (hi' : n'.ino = d) (hk' : n'.kind = 1) (hu : n'.up = n.up) (he : n'.ents = n.ents) (hda : n'.data.length ≤ 4096)
    (hx : ∀ i : Int, 1 ≤ i → (if i = x' then 1 else 0 : Int) = (if i = x then 1 else 0) + (if i = d then n'.links - n.links else 0)) : GInv ⟨withN t.nodes n', t.next, t.cookie⟩ dep x' := by
  have hi : n.ino = d := h.ino hd
  have hE : AscE n'.ents := by rw [he]; exact h.srt.ents n (find_mem hd).1
  have hff : ∀ i, find (withN t.nodes n') i = if i = d then some n' else find t.nodes i := by
    intro i
    rw [find_withN h.srt.asc n' i, hi']
  obtain ⟨f1, f2, f3⟩ := h.file _ _ hd hk
  refine h.upd (h.srt.with hE t.next t.cookie) hd hff (by omega) hu ?_ ?_ ?_ ?_ ?_ ?_ ?_ ?_ rfl (Int.le_refl _) h.cookie.2
  · intro _; exact ⟨by rw [he]; exact f1, hda⟩
  · intro h2; omega
  · intro e hem; rw [he, f1] at hem; cases hem
  · rw [he, f1]; exact List.Pairwise.nil
  · intro i h0
    have h1 := cnt_withN h.srt.asc n' i
    have h2 := hx i h0
    simp only [nodeN, hi', hd, Option.getD_some, he] at h1
    simp only
    omega
  · intro h2; omega
  · intro _; rw [he, f1]
  · simp only
    rw [len_withN h.srt.asc (o := n) (by simp only [hi']; exact hd)]
    exact h.nodes

/-- A directory stands as an entry in its up. -/
theorem GInv.named {t : Tree} {dep : Int → Nat} {x : Int} (h : GInv t dep x) {i : Int} {n : Node} (hi : find t.nodes i = some n) (hk : n.kind = 2) (h1 : i ≠ 1) (hx : i ≠ x) : ∃ p e, find t.nodes n.up = some p ∧ p.kind = 2 ∧ e ∈ p.ents ∧ e.ino = i := by
  have a := h.links _ _ hi
  have b := h.one _ _ hi hk h1
  rw [if_neg hx] at a
  obtain ⟨m, e, e1, e2, e3⟩ := cnt_pos.1 (show 0 < cnt t.nodes i by omega)
  have hm : find t.nodes m.ino = some m := (find_iff h.srt.asc).2 ⟨e1, rfl⟩
  obtain ⟨_, _, _, _, k, k1, k2⟩ := h.ent _ _ e hm e2
  rw [e3, hi] at k1; injection k1 with k1; subst k1
  obtain ⟨_, p, p1, p2⟩ := h.deps _ _ hi hk h1
  rw [k2 hk] at p1 ⊢
  rw [hm] at p1; injection p1 with p1; subst p1
  exact ⟨m, e, hm, p2, e2, e3⟩

/-- A node that no entry names, and that has none, goes. -/
theorem GInv.drop {t : Tree} {dep : Int → Nat} {x k : Int} {n : Node} (h : GInv t dep x) (hx : x = k ∨ x = 0) (hk : find t.nodes k = some n) (he : n.ents = []) (h1 : k ≠ 1) (hc : cnt t.nodes k = 0) : GInv ⟨withoutN t.nodes k, t.next, t.cookie⟩ dep 0 := by
  have hff : ∀ i m, find (withoutN t.nodes k) i = some m ↔ i ≠ k ∧ find t.nodes i = some m := by
    intro i m
    rw [find_withoutN h.srt.asc]
    split <;> simp_all
  have hcn : ∀ i, cnt (withoutN t.nodes k) i = cnt t.nodes i := by
    intro i
    have := cnt_withoutN h.srt.asc k i
    simp only [nodeN, hk, Option.getD_some, he, cntE_nil] at this
    omega
  have hno : ∀ i m e, find t.nodes i = some m → e ∈ m.ents → e.ino ≠ k := by
    intro i m e hm hem hh
    have := cnt_pos.2 ⟨m, e, (find_mem hm).1, hem, hh⟩
    omega
  refine ⟨h.srt.without k t.next t.cookie, ?_, ?_, ?_, ?_, ?_, ?_, ?_, ?_, ?_, h.dep1, ?_, ?_, ?_, h.next, h.cookie⟩
  · obtain ⟨r, r1, r2⟩ := h.root
    exact ⟨r, (hff _ _).2 ⟨fun hh => h1 hh.symm, r1⟩, r2⟩
  · intro i m hm; exact h.num _ _ ((hff _ _).1 hm).2
  · intro i m hm; exact h.kind _ _ ((hff _ _).1 hm).2
  · intro i m hm; exact h.file _ _ ((hff _ _).1 hm).2
  · intro i m hm; exact h.dir _ _ ((hff _ _).1 hm).2
  · intro i m e hm hem
    have hm' := ((hff _ _).1 hm).2
    obtain ⟨a1, a2, a3, a4, q, a5, a6⟩ := h.ent _ _ e hm' hem
    exact ⟨a1, a2, a3, a4, q, (hff _ _).2 ⟨hno _ _ e hm' hem, a5⟩, a6⟩
  · intro i m hm; exact h.cook _ _ ((hff _ _).1 hm).2
  · intro i m hm
    obtain ⟨m1, m2⟩ := (hff _ _).1 hm
    have := h.links _ _ m2
    have h0 := (h.num _ _ m2).1
    rw [if_neg (show i ≠ 0 by omega)]
    rw [if_neg (by rcases hx with rfl | rfl <;> omega)] at this
    simp only [hcn]
    exact this
  · intro i m hm; exact h.one _ _ ((hff _ _).1 hm).2
  · intro i m hm hk2 hi1
    obtain ⟨m1, m2⟩ := (hff _ _).1 hm
    obtain ⟨a, p, b, c⟩ := h.deps _ _ m2 hk2 hi1
    refine ⟨a, p, (hff _ _).2 ⟨fun hh => ?_, b⟩, c⟩
    have h0 := (h.num _ _ m2).1
    obtain ⟨q, e, q1, _, q3, _⟩ := h.named m2 hk2 hi1 (by rcases hx with rfl | rfl <;> omega)
    rw [hh, hk] at q1; injection q1 with q1; subst q1
    rw [he] at q3; cases q3
  · intro i m hm; exact h.deep _ _ ((hff _ _).1 hm).2
  · exact Nat.le_trans (List.length_filter_le _ _) h.nodes

/-- A directory that no entry names stands elsewhere. -/
theorem GInv.setUp {t : Tree} {dep dep' : Int → Nat} {x to : Int} {n p : Node} (h : GInv t dep x) (hx : find t.nodes x = some n) (hk : n.kind = 2) (hx1 : x ≠ 1) (hp : find t.nodes to = some p) (hpk : p.kind = 2)
    (h1 : dep' 1 = 0) (hds : ∀ i m, find t.nodes i = some m → m.kind = 2 → i ≠ 1 → i ≠ x → dep' i = dep' m.up + 1) (hdx : dep' x = dep' to + 1)
    (hdeep : ∀ i m, find t.nodes i = some m → m.kind = 2 → dep' i ≤ 12 ∧ (dep' i = 12 → m.ents = [])) : GInv ⟨withN t.nodes { n with up := to }, t.next, t.cookie⟩ dep' x := by
  have hi : n.ino = x := h.ino hx
  have hff : ∀ i, find (withN t.nodes { n with up := to }) i = if i = x then some { n with up := to } else find t.nodes i := by
    intro i
    rw [find_withN h.srt.asc { n with up := to } i]
    simp only [hi]
  have keep : ∀ j m, find t.nodes j = some m → ∃ m', find (withN t.nodes { n with up := to }) j = some m' ∧ m'.kind = m.kind ∧ (j ≠ x → m'.up = m.up) := by
    intro j m hm
    rw [hff]
    split
    · rename_i he
      subst he
      rw [hx] at hm; injection hm with hm; subst hm
      exact ⟨_, rfl, rfl, fun hh => absurd rfl hh⟩
    · exact ⟨m, hm, rfl, fun _ => rfl⟩
  have back : ∀ j m', find (withN t.nodes { n with up := to }) j = some m' → (j = x ∧ m' = { n with up := to }) ∨ (j ≠ x ∧ find t.nodes j = some m') := by
    intro j m' hm
    rw [hff] at hm
    split at hm
    · rename_i he; injection hm with hm; exact .inl ⟨he, hm.symm⟩
    · rename_i he; exact .inr ⟨he, hm⟩
  have hcn : ∀ i, cnt (withN t.nodes { n with up := to }) i = cnt t.nodes i := by
    intro i
    have := cnt_withN h.srt.asc { n with up := to } i
    have h3 : nodeN t.nodes n.ino = n := by simp only [nodeN, hi, hx, Option.getD_some]
    simp only [h3] at this
    omega
  have hc0 : cnt t.nodes x = 0 := by
    have a := h.links _ n hx
    have b := h.one _ n hx hk hx1
    simp only [↓reduceIte] at a
    omega
  have hno : ∀ i m e, find t.nodes i = some m → e ∈ m.ents → e.ino ≠ x := by
    intro i m e hm hem hh
    have := cnt_pos.2 ⟨m, e, (find_mem hm).1, hem, hh⟩
    omega
  have hent : ∀ i m e, find t.nodes i = some m → e ∈ m.ents → 1 ≤ e.cookie ∧ e.cookie < t.cookie ∧ e.ino ≠ 1 ∧ Nm e.name ∧ ∃ m, find (withN t.nodes { n with up := to }) e.ino = some m ∧ (m.kind = 2 → m.up = i) := by
    intro i m e hm hem
    obtain ⟨a1, a2, a3, a4, q, a5, a6⟩ := h.ent _ _ e hm hem
    obtain ⟨q', j1, j2, j3⟩ := keep _ _ a5
    exact ⟨a1, a2, a3, a4, q', j1, fun hk => by rw [j3 (hno _ _ e hm hem)]; exact a6 (by omega)⟩
  refine ⟨h.srt.with (n := { n with up := to }) (h.srt.ents n (find_mem hx).1) t.next t.cookie, ?_, ?_, ?_, ?_, ?_, ?_, ?_, ?_, ?_, h1, ?_, ?_, ?_, h.next, h.cookie⟩
  · obtain ⟨r, r1, r2, r3⟩ := h.root
    obtain ⟨r', k1, k2, k3⟩ := keep _ _ r1
    exact ⟨r', k1, by omega, by rw [k3 (fun hh => hx1 hh.symm)]; exact r3⟩
  · intro i m hm
    rcases back i m hm with ⟨rfl, rfl⟩ | ⟨_, hm⟩
    · exact h.num _ n hx
    · exact h.num _ _ hm
  · intro i m hm
    rcases back i m hm with ⟨rfl, rfl⟩ | ⟨_, hm⟩
    · exact h.kind _ n hx
    · exact h.kind _ _ hm
  · intro i m hm hk1
    rcases back i m hm with ⟨rfl, rfl⟩ | ⟨_, hm⟩
    · simp only at hk1; omega
    · exact h.file _ _ hm hk1
  · intro i m hm hk1
    rcases back i m hm with ⟨rfl, rfl⟩ | ⟨_, hm⟩
    · exact h.dir _ n hx hk
    · exact h.dir _ _ hm hk1
  · intro i m e hm hem
    rcases back i m hm with ⟨rfl, rfl⟩ | ⟨_, hm⟩
    · exact hent _ n e hx hem
    · exact hent _ _ e hm hem
  · intro i m hm
    rcases back i m hm with ⟨rfl, rfl⟩ | ⟨_, hm⟩
    · exact h.cook _ n hx
    · exact h.cook _ _ hm
  · intro i m hm
    simp only [hcn]
    rcases back i m hm with ⟨rfl, rfl⟩ | ⟨_, hm⟩
    · exact h.links _ n hx
    · exact h.links _ _ hm
  · intro i m hm hk1 hi1
    rcases back i m hm with ⟨rfl, rfl⟩ | ⟨_, hm⟩
    · exact h.one _ n hx hk hi1
    · exact h.one _ _ hm hk1 hi1
  · intro i m hm hk1 hi1
    rcases back i m hm with ⟨rfl, rfl⟩ | ⟨hne, hm⟩
    · obtain ⟨p', k1, k2, _⟩ := keep _ _ hp
      exact ⟨hdx, p', k1, by omega⟩
    · obtain ⟨_, q, b, c⟩ := h.deps _ _ hm hk1 hi1
      obtain ⟨q', k1, k2, _⟩ := keep _ _ b
      exact ⟨hds _ _ hm hk1 hi1 hne, q', k1, by omega⟩
  · intro i m hm hk1
    rcases back i m hm with ⟨rfl, rfl⟩ | ⟨_, hm⟩
    · exact hdeep _ n hx hk
    · exact hdeep _ _ hm hk1
  · simp only
    rw [len_withN h.srt.asc (o := n) (by simp only [hi]; exact hx)]
    exact h.nodes

/-- A node is made, that no entry names yet. -/
theorem GInv.made {t : Tree} {dep : Int → Nat} {d kind : Int} {p : Node} (h : GInv t dep 0) (hp : find t.nodes d = some p) (hpk : p.kind = 2) (hk : kind = 1 ∨ kind = 2) (hdp : dep d < 12) (hl : t.nodes.length < 200) (hn : t.next < 1099511627776) :
    GInv ⟨withN t.nodes ⟨t.next, kind, 1, [], [], if (kind == 2) = true then d else 0⟩, t.next + 1, t.cookie⟩ (fun i => if i = t.next then dep d + 1 else dep i) t.next := by
  have hnew : find t.nodes t.next = none := by
    cases hz : find t.nodes t.next with
    | none => rfl
    | some m => have := h.num _ _ hz; omega
  have hnx : 2 ≤ t.next := by
    obtain ⟨r, r1, _⟩ := h.root
    have := (h.num _ _ r1).2; omega
  generalize hn' : Node.mk t.next kind 1 [] [] (if (kind == 2) = true then d else 0) = n'
  have i1 : n'.ino = t.next := by rw [← hn']
  have i2 : n'.kind = kind := by rw [← hn']
  have i3 : n'.links = 1 := by rw [← hn']
  have i4 : n'.data = [] := by rw [← hn']
  have i5 : n'.ents = [] := by rw [← hn']
  have i6 : n'.up = if (kind == 2) = true then d else 0 := by rw [← hn']
  have hff : ∀ i, find (withN t.nodes n') i = if i = t.next then some n' else find t.nodes i := by
    intro i
    rw [find_withN h.srt.asc n' i, i1]
  have keep : ∀ j m, find t.nodes j = some m → find (withN t.nodes n') j = some m ∧ j ≠ t.next := by
    intro j m hm
    have := (h.num _ _ hm).2
    rw [hff, if_neg (by omega)]
    exact ⟨hm, by omega⟩
  have back : ∀ j m', find (withN t.nodes n') j = some m' → (j = t.next ∧ m' = n') ∨ (j ≠ t.next ∧ find t.nodes j = some m') := by
    intro j m' hm
    rw [hff] at hm
    split at hm
    · rename_i he; injection hm with hm; exact .inl ⟨he, hm.symm⟩
    · rename_i he; exact .inr ⟨he, hm⟩
  have hcn : ∀ i, cnt (withN t.nodes n') i = cnt t.nodes i := by
    intro i
    have := cnt_withN h.srt.asc n' i
    simp only [nodeN, i1, hnew, Option.getD_none, Node.zero, i5, cntE_nil] at this
    omega
  have hc0 : cnt t.nodes t.next = 0 := by
    rcases Nat.eq_zero_or_pos (cnt t.nodes t.next) with h0 | h0
    · exact h0
    · obtain ⟨m, e, e1, e2, e3⟩ := cnt_pos.1 h0
      obtain ⟨_, _, _, _, k, k1, _⟩ := h.ent _ _ e ((find_iff h.srt.asc).2 ⟨e1, rfl⟩) e2
      rw [e3, hnew] at k1; cases k1
  refine ⟨h.srt.with (n := n') (by rw [i5]; exact List.Pairwise.nil) _ _, ?_, ?_, ?_, ?_, ?_, ?_, ?_, ?_, ?_, ?_, ?_, ?_, ?_, ?_, h.cookie⟩
  · obtain ⟨r, r1, r2⟩ := h.root
    exact ⟨r, (keep _ _ r1).1, r2⟩
  · intro i m hm
    simp only
    rcases back i m hm with ⟨rfl, rfl⟩ | ⟨_, hm⟩
    · omega
    · have := h.num _ _ hm; omega
  · intro i m hm
    rcases back i m hm with ⟨rfl, rfl⟩ | ⟨_, hm⟩
    · rw [i2]; exact hk
    · exact h.kind _ _ hm
  · intro i m hm hk1
    rcases back i m hm with ⟨rfl, rfl⟩ | ⟨_, hm⟩
    · rw [i2] at hk1
      exact ⟨i5, by rw [i6, hk1]; rfl, by rw [i4]; simp⟩
    · exact h.file _ _ hm hk1
  · intro i m hm hk1
    rcases back i m hm with ⟨rfl, rfl⟩ | ⟨_, hm⟩
    · exact i4
    · exact h.dir _ _ hm hk1
  · intro i m e hm hem
    rcases back i m hm with ⟨rfl, rfl⟩ | ⟨_, hm⟩
    · rw [i5] at hem; cases hem
    · obtain ⟨a1, a2, a3, a4, q, a5, a6⟩ := h.ent _ _ e hm hem
      exact ⟨a1, a2, a3, a4, q, (keep _ _ a5).1, a6⟩
  · intro i m hm
    rcases back i m hm with ⟨rfl, rfl⟩ | ⟨_, hm⟩
    · rw [i5]; exact List.Pairwise.nil
    · exact h.cook _ _ hm
  · intro i m hm
    simp only [hcn]
    rcases back i m hm with ⟨rfl, rfl⟩ | ⟨hne, hm⟩
    · rw [hc0, i3]; simp
    · rw [if_neg hne]
      have := h.links _ _ hm
      rw [if_neg (by have := (h.num _ _ hm).1; omega)] at this
      exact this
  · intro i m hm hk1 hi1
    rcases back i m hm with ⟨rfl, rfl⟩ | ⟨_, hm⟩
    · exact i3
    · exact h.one _ _ hm hk1 hi1
  · show (if (1 : Int) = t.next then dep d + 1 else dep 1) = 0
    rw [if_neg (by omega)]; exact h.dep1
  · intro i m hm hk1 hi1
    show (if i = t.next then dep d + 1 else dep i) = (if m.up = t.next then dep d + 1 else dep m.up) + 1 ∧ _
    rcases back i m hm with ⟨rfl, rfl⟩ | ⟨hne, hm⟩
    · rw [i2] at hk1
      have hu : m.up = d := by rw [i6, hk1]; rfl
      rw [hu, if_pos rfl, if_neg (keep _ _ hp).2]
      exact ⟨rfl, p, (keep _ _ hp).1, hpk⟩
    · obtain ⟨a, q, b, c⟩ := h.deps _ _ hm hk1 hi1
      rw [if_neg hne, if_neg (keep _ _ b).2]
      exact ⟨a, q, (keep _ _ b).1, c⟩
  · intro i m hm hk1
    show (if i = t.next then dep d + 1 else dep i) ≤ 12 ∧ ((if i = t.next then dep d + 1 else dep i) = 12 → _)
    rcases back i m hm with ⟨rfl, rfl⟩ | ⟨hne, hm⟩
    · rw [if_pos rfl]; exact ⟨by omega, fun _ => i5⟩
    · rw [if_neg hne]; exact h.deep _ _ hm hk1
  · have := withN_len t.nodes n'
    simp only; omega
  · simp only; omega
end Go.Proofs.YtnapockikkbkcaaGreat
/-
  Ups, depths, and what stands below what, in right trees. Own work.
-/
namespace Go.Proofs.YtnapockikkbkcaaGreat
open Go Go.Abs

theorem cover : ∀ (k : Nat) (l : List Nat), (∀ j, j < k → j ∈ l) → k ≤ l.length
  | 0, _, _ => Nat.zero_le _
  | k + 1, l, h => by
    have hk := h k (by omega)
    have := cover k (l.erase k) (fun j hj => (List.mem_erase_of_ne (by omega)).2 (h j (by omega)))
    rw [List.length_erase_of_mem hk] at this
    have := List.length_pos_of_mem hk
    omega
theorem GInv.up_at {t : Tree} {dep : Int → Nat} {x : Int} (h : GInv t dep x) : ∀ (m : Nat) (i : Int) (n : Node), find t.nodes i = some n → n.kind = 2 → dep i = m → ∀ k, k ≤ m → ∃ j p, find t.nodes j = some p ∧ dep j = k := by
  intro m
  induction m with
  | zero => intro i n hi _ hm k hk; exact ⟨i, n, hi, by omega⟩
  | succ m ih =>
    intro i n hi hk2 hm k hk
    rcases Nat.eq_or_lt_of_le hk with rfl | hlt
    · exact ⟨i, n, hi, hm⟩
    · have h1 : i ≠ 1 := fun hh => by subst hh; have := h.dep1; omega
      obtain ⟨a, p, b, c⟩ := h.deps _ _ hi hk2 h1
      exact ih _ p b c (by omega) k (by omega)
/-- A directory's depth is less than there are nodes. -/
theorem GInv.dep_lt {t : Tree} {dep : Int → Nat} {x : Int} (h : GInv t dep x) {i : Int} {n : Node} (hi : find t.nodes i = some n) (hk : n.kind = 2) : dep i < t.nodes.length := by
  have := cover (dep i + 1) (t.nodes.map fun n => dep n.ino) (fun j hj => by
    obtain ⟨a, p, h1, h2⟩ := h.up_at _ _ _ hi hk rfl j (by omega)
    rw [List.mem_map]
    exact ⟨p, (find_mem h1).1, by rw [(find_mem h1).2, h2]⟩)
  rw [List.length_map] at this
  omega
theorem GInv.depthGo_eq {t : Tree} {dep : Int → Nat} {x : Int} (h : GInv t dep x) : ∀ (m : Nat) (i : Int) (d : Nat) (n : Node), find t.nodes i = some n → n.kind = 2 → dep i ≤ m → depthGo t.nodes m i d = d + dep i := by
  intro m
  induction m with
  | zero => intro i d n _ _ hd; simp only [depthGo]; omega
  | succ m ih =>
    intro i d n hi hk hd
    simp only [depthGo]
    split
    · rename_i h1; subst h1; have := h.dep1; omega
    · rename_i h1
      obtain ⟨a, p, b, c⟩ := h.deps _ _ hi hk h1
      have hu : upOf t.nodes i = n.up := by simp [upOf, hi]
      rw [hu, ih _ _ p b c (by omega)]
      omega
theorem GInv.depthN_eq {t : Tree} {dep : Int → Nat} {x : Int} (h : GInv t dep x) {i : Int} {n : Node} (hi : find t.nodes i = some n) (hk : n.kind = 2) : depthN t.nodes i = dep i := by
  have := h.depthGo_eq 201 i 0 n hi hk (by have := (h.deep _ _ hi hk).1; omega)
  simp only [depthN, this]; omega
theorem GInv.upsGo_len {t : Tree} {dep : Int → Nat} {x : Int} (h : GInv t dep x) : ∀ (m : Nat) (i : Int) (out : List Int) (n : Node), find t.nodes i = some n → n.kind = 2 → dep i ≤ m → (upsGo t.nodes m i out).length = out.length + dep i := by
  intro m
  induction m with
  | zero => intro i out n _ _ hd; simp only [upsGo]; omega
  | succ m ih =>
    intro i out n hi hk hd
    simp only [upsGo]
    by_cases h1 : i = 1
    · subst h1; have := h.dep1; simp; omega
    · obtain ⟨a, p, b, c⟩ := h.deps _ _ hi hk h1
      simp only [bne_iff_ne, ne_eq, h1, not_false_eq_true, ↓reduceIte, nodeN, hi, Option.isSome_some, Bool.not_true, Option.getD_some, hk, bne_self_eq_false, Bool.or_self, Bool.false_eq_true]
      rw [ih _ _ p b c (by omega)]
      simp only [List.length_append, List.length_cons, List.length_nil]
      omega
theorem GInv.upsN_len {t : Tree} {dep : Int → Nat} {x : Int} (h : GInv t dep x) {i : Int} {n : Node} (hi : find t.nodes i = some n) (hk : n.kind = 2) : (upsN t.nodes i).length = dep i + 1 := by
  have := h.upsGo_len t.nodes.length i [i] n hi hk (by have := h.dep_lt hi hk; omega)
  simp only [upsN, this, List.length_cons, List.length_nil]; omega
theorem GInv.upDepth_eq {t : Tree} {dep : Int → Nat} {x : Int} (h : GInv t dep x) {i : Int} {n : Node} (hi : find t.nodes i = some n) (hk : n.kind = 2) : upDepth t.nodes i = dep i := by
  simp only [upDepth, h.upsN_len hi hk]; omega
theorem GInv.up_of {t : Tree} {dep : Int → Nat} {x : Int} (_ : GInv t dep x) {i : Int} {n : Node} (hi : find t.nodes i = some n) : upOf t.nodes i = n.up := by simp [upOf, hi]
theorem GInv.below_fuel {t : Tree} {dep : Int → Nat} {x : Int} (h : GInv t dep x) (of : Int) : ∀ (m : Nat) (i : Int) (n : Node), find t.nodes i = some n → n.kind = 2 → dep i < m → belowGo t.nodes of m i = belowGo t.nodes of (dep i + 1) i := by
  intro m
  induction m with
  | zero => intro i n _ _ hd; omega
  | succ m ih =>
    intro i n hi hk hd
    by_cases h1 : i = 1
    · subst h1; simp only [belowGo]; split <;> rfl
    · obtain ⟨a, p, b, c⟩ := h.deps _ _ hi hk h1
      simp only [belowGo, h1, ↓reduceIte, h.up_of hi]
      rw [ih _ p b c (by omega), a]
theorem GInv.below_self {t : Tree} (i : Int) : belowN t.nodes i i = true := by simp [belowN, belowGo]
theorem GInv.below_root {t : Tree} {of : Int} (h1 : of ≠ 1) : belowN t.nodes 1 of = false := by
  simp only [belowN, belowGo]
  rw [if_neg (fun hh => h1 hh.symm)]
  rfl
theorem GInv.below_up {t : Tree} {dep : Int → Nat} {x : Int} (h : GInv t dep x) {of i : Int} {n : Node} (hi : find t.nodes i = some n) (hk : n.kind = 2) (h1 : i ≠ 1) (ho : i ≠ of) : belowN t.nodes i of = belowN t.nodes n.up of := by
  obtain ⟨a, p, b, c⟩ := h.deps _ _ hi hk h1
  have d1 := h.dep_lt b c
  have d2 := h.dep_lt hi hk
  simp only [belowN]
  rw [h.below_fuel of _ _ p b c (by omega)]
  rw [h.below_fuel of _ _ n hi hk (by omega)]
  conv => lhs; rw [belowGo]
  simp only [ho, h1, ↓reduceIte, h.up_of hi]
  rw [a]
theorem GInv.below_dep {t : Tree} {dep : Int → Nat} {x : Int} (h : GInv t dep x) {of : Int} : ∀ (m : Nat) (i : Int) (n : Node), find t.nodes i = some n → n.kind = 2 → dep i = m → belowN t.nodes i of = true → dep of ≤ dep i := by
  intro m
  induction m with
  | zero =>
    intro i n hi hk hm hb
    by_cases h1 : i = 1
    · by_cases h2 : of = 1
      · subst h1; subst h2; exact Nat.le_refl _
      · subst h1; rw [GInv.below_root h2] at hb; cases hb
    · obtain ⟨a, _⟩ := h.deps _ _ hi hk h1
      omega
  | succ m ih =>
    intro i n hi hk hm hb
    have h1 : i ≠ 1 := fun hh => by subst hh; have := h.dep1; omega
    obtain ⟨a, p, b, c⟩ := h.deps _ _ hi hk h1
    by_cases ho : i = of
    · subst ho; exact Nat.le_refl _
    · rw [h.below_up hi hk h1 ho] at hb
      have := ih _ p b c (by omega) hb
      omega
theorem GInv.ups_below {t : Tree} {dep : Int → Nat} {x : Int} (h : GInv t dep x) (of : Int) : ∀ (m : Nat) (i : Int) (out : List Int) (n : Node), find t.nodes i = some n → n.kind = 2 → dep i ≤ m → out.contains i = true → (upsGo t.nodes m i out).contains of = (out.contains of || belowGo t.nodes of (m + 1) i) := by
  intro m
  induction m with
  | zero =>
    intro i out n hi hk hd ho
    simp only [upsGo, belowGo]
    by_cases h1 : i = of
    · subst h1; rw [ho]; rfl
    · simp [h1]
  | succ m ih =>
    intro i out n hi hk hd ho
    simp only [upsGo]
    rw [belowGo]
    by_cases h1 : i = 1
    · by_cases h2 : i = of
      · subst h2; simp [h1] at ho ⊢; exact ho
      · simp [h1, h2]
        intro h3; exact absurd (h1.trans h3) h2
    · obtain ⟨a, p, b, c⟩ := h.deps _ _ hi hk h1
      simp only [bne_iff_ne, ne_eq, h1, not_false_eq_true, ↓reduceIte, nodeN, hi, Option.isSome_some, Bool.not_true, Option.getD_some, hk, bne_self_eq_false, Bool.or_self, Bool.false_eq_true]
      rw [ih _ _ p b c (by omega) (by simp), h.up_of hi]
      by_cases h2 : i = of
      · subst h2
        have : (out ++ [n.up]).contains i = true := by simp at ho ⊢; exact .inl ho
        rw [this, ho]; simp
      · rw [if_neg h2]
        by_cases h3 : n.up = of
        · have : belowGo t.nodes of (m + 1) n.up = true := by simp [belowGo, h3]
          rw [this]; simp
        · have : (out ++ [n.up]).contains of = out.contains of := by
            simp
            intro hh; exact absurd hh.symm h3
          rw [this]
/-- Ups hold just what a directory is at, or below. -/
theorem GInv.upsN_contains {t : Tree} {dep : Int → Nat} {x : Int} (h : GInv t dep x) (of : Int) {i : Int} {n : Node} (hi : find t.nodes i = some n) (hk : n.kind = 2) : (upsN t.nodes i).contains of = belowN t.nodes i of := by
  have := h.ups_below of t.nodes.length i [i] n hi hk (by have := h.dep_lt hi hk; omega) (by simp)
  simp only [upsN, this, belowN]
  by_cases h2 : i = of
  · subst h2; simp [belowGo]
  · have : ([i] : List Int).contains of = false := by simp; exact fun hh => h2 hh.symm
    rw [this]; rfl
theorem GInv.lbelow_eq {t : Tree} {dep : Int → Nat} {x : Int} (h : GInv t dep x) (of : Int) : ∀ (m : Nat) (i : Int) (n : Node), find t.nodes i = some n → n.kind = 2 → lbelowGo t.nodes of m i = belowGo t.nodes of m i := by
  intro m
  induction m with
  | zero => intro i n _ _; rfl
  | succ m ih =>
    intro i n hi hk
    simp only [lbelowGo, belowGo, beq_iff_eq, hi, Option.isSome_some, Bool.not_true, Bool.false_or]
    split
    · rfl
    · split
      · rfl
      · rename_i h1
        obtain ⟨a, p, b, c⟩ := h.deps _ _ hi hk h1
        rw [h.up_of hi]
        exact ih _ p b c
theorem GInv.lbelowN_eq {t : Tree} {dep : Int → Nat} {x : Int} (h : GInv t dep x) (of : Int) {i : Int} {n : Node} (hi : find t.nodes i = some n) (hk : n.kind = 2) : lbelowN t.nodes i of = belowN t.nodes i of := h.lbelow_eq of _ i n hi hk
end Go.Proofs.YtnapockikkbkcaaGreat
