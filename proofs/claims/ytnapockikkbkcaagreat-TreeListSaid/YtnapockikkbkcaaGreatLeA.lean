/-
  TreeList: proved of the given program, for every input that the row allows: see the last text of this claim. Conditions: none beside the row's own.
-/
import Derived.Test.YtnapockikkbkcaaGreatProg
import Derived.KernelRfl
import Derived.Test.YtnapockikkbkcaaGreatBaF
set_option linter.unusedSimpArgs false
set_option linter.unusedVariables false
namespace Go.Proofs.YtnapockikkbkcaaGreat
open Go Go.Abs
attribute [local irreducible] exK opsK opK gK forkK kr acall callOp owhen obind
theorem bytes_of : ∀ (d : Bytes), bytesOf (d.map eByte) = some d
  | [] => rfl
  | b :: d => by
    rw [List.map_cons]
    show obind (bytesOf (d.map eByte)) (fun l => some (UInt8.ofNat ((b.toNat : Int)).toNat :: l)) = some (b :: d)
    rw [bytes_of d, obind_some]
    simp
theorem c53 (a b : Bytes) : acall tab 53 [eData a, eData b] [] = some (.bool (a == b), []) := by
  refine acall_ex rfl rfl rfl ?_
  simp only [fn53, E53, bytes_of, EVT, EVD, ↓reduceIte, Nat.reduceEqDiff, reduceCtorEq, Nat.reduceAdd, Nat.reduceLeDiff, ne_eq, Nat.reduceLT, Int.reduceLT, Int.reduceLE, Int.reduceNeg]
theorem k53 (a b : Bytes) (M : AMem) : callOp (acall tab) 53 [eData a, eData b] M = some (.bool (a == b), M) := callOp0 (c53 a b) rfl rfl rfl rfl rfl M
theorem entB (x y : Ent) : decide (x = y) = (x.name == y.name && (x.ino == y.ino && (x.cookie == y.cookie && true))) := by
  cases x; cases y
  simp only [Ent.mk.injEq, Bool.and_true]
  rw [Bool.eq_iff_iff]
  simp
theorem eqEnt (x y : Ent) : eqCells [.s, .i, .i] (eEntC x) (eEntC y) = some (decide (x = y)) := by
  rw [entB]
  simp only [eEntC, eqCells, eqCell, obind_some, ↓reduceIte]
theorem allE (x : Ent) : (eEntC x).all AVal.isCell = true := rfl
theorem allN (x : Node) : (eNodeC x).all AVal.isCell = true := rfl
theorem loop54 {a b : List Ent} (ha : a.length ≤ 100000) {k : List K} {R : Bool → Option (AVal × AMem)}
    (hx : ∀ e, kr (acall tab) [.tmp 4] 0 k ⟨.exit 0, e, []⟩ = R true) (hr : kr (acall tab) [.tmp 4] 0 k ⟨.ret, [(4, .bool false)], []⟩ = R false) :
    ∀ (l m pre pre' : List Ent), a = pre ++ l → b = pre' ++ m → pre.length = pre'.length → l.length = m.length → exK (acall tab) [.tmp 4] 0 k (.loop [0, 1, 12, 13] lb54_0) [(0, eEnts a), (1, eEnts b), (12, .int .i64 a.length), (13, .int .i64 pre.length)] [] = R (decide (l = m)) := by
  intro l
  induction l with
  | nil =>
    intro m pre pre' h h' hp hl
    have hm : m = [] := List.length_eq_zero_iff.1 hl.symm
    subst hm
    rw [exK_loop]
    simp only [E54, lt_end h, EVT, EVD, ↓reduceIte, Nat.reduceEqDiff, reduceCtorEq, Nat.reduceAdd, Nat.reduceLeDiff, ne_eq, Nat.reduceLT, Int.reduceLT, Int.reduceLE, Int.reduceNeg]
    exact hx _
  | cons n r ih =>
    intro m pre pre' h h' hp hl
    cases m with
    | nil => cases hl
    | cons n' m =>
    rw [exK_loop]
    have hlen : pre.length + 1 ≤ 100000 := by rw [h] at ha; simp at ha; omega
    have hw : IntKind.i64.wrap ((pre.length : Int) + 1) = ((pre ++ [n]).length : Int) := by rw [wrap_small (by omega) (by omega)]; exact step_len
    have hi := ih m (pre ++ [n]) (pre' ++ [n']) (by rw [h]; simp) (by rw [h']; simp) (by simp [hp]) (by simpa using hl)
    have ha2 : b[pre.length]? = some n' := by rw [hp]; exact at_mid h'
    have hdc : decide (n :: r = n' :: m) = (decide (n = n') && decide (r = m)) := by
      rw [Bool.eq_iff_iff]; simp
    rw [hdc]
    simp only [List.length_append, List.length_cons, List.length_nil] at hi
    simp only [E54, lt_mid h, at_mid h, ha2, tkE, shE, eqEnt, allE, EVT, EVD, ↓reduceIte, Nat.reduceEqDiff, reduceCtorEq, Nat.reduceAdd, Nat.reduceLeDiff, ne_eq, Nat.reduceLT, Int.reduceLT, Int.reduceLE, Int.reduceNeg]
    refine fork_split (fun hb => ?_) (fun hb => ?_)
    · have hb' : decide (n = n') = false := by simpa using hb
      simp only [E54, hb', Bool.false_and, EVT, EVD, ↓reduceIte, Nat.reduceEqDiff, reduceCtorEq, Nat.reduceAdd, Nat.reduceLeDiff, ne_eq, Nat.reduceLT, Int.reduceLT, Int.reduceLE, Int.reduceNeg]
      exact hr
    · have hb' : decide (n = n') = true := by simpa using hb
      simp only [E54, hb', Bool.true_and, hw, EVT, EVD, ↓reduceIte, Nat.reduceEqDiff, reduceCtorEq, Nat.reduceAdd, Nat.reduceLeDiff, ne_eq, Nat.reduceLT, Int.reduceLT, Int.reduceLE, Int.reduceNeg]
      exact hi
theorem c54 (a b : List Ent) (ha : a.length ≤ 100000) : acall tab 54 [eEnts a, eEnts b] [] = some (.bool (decide (a = b)), []) := by
  refine acall_ex rfl rfl rfl ?_
  simp only [fn54, E54, EVT, EVD, ↓reduceIte, Nat.reduceEqDiff, reduceCtorEq, Nat.reduceAdd, Nat.reduceLeDiff, ne_eq, Nat.reduceLT, Int.reduceLT, Int.reduceLE, Int.reduceNeg]
  refine fork_split (fun hb => ?_) (fun hb => ?_)
  · have : decide (a = b) = false := by
      simp at hb ⊢
      rintro rfl; exact hb rfl
    simp only [E54, this, EVT, EVD, ↓reduceIte, Nat.reduceEqDiff, reduceCtorEq, Nat.reduceAdd, Nat.reduceLeDiff, ne_eq, Nat.reduceLT, Int.reduceLT, Int.reduceLE, Int.reduceNeg]
  · simp only [E54, EVT, EVD, ↓reduceIte, Nat.reduceEqDiff, reduceCtorEq, Nat.reduceAdd, Nat.reduceLeDiff, ne_eq, Nat.reduceLT, Int.reduceLT, Int.reduceLE, Int.reduceNeg]
    exact loop54 (R := fun z => some (.bool z, [])) ha (fun e => by simp only [E54, EVT, EVD, ↓reduceIte, Nat.reduceEqDiff, reduceCtorEq, Nat.reduceAdd, Nat.reduceLeDiff, ne_eq, Nat.reduceLT, Int.reduceLT, Int.reduceLE, Int.reduceNeg]) (by simp only [E54, EVT, EVD, ↓reduceIte, Nat.reduceEqDiff, reduceCtorEq, Nat.reduceAdd, Nat.reduceLeDiff, ne_eq, Nat.reduceLT, Int.reduceLT, Int.reduceLE, Int.reduceNeg]) a b [] [] rfl rfl rfl (by simp at hb; omega)
theorem k54 (a b : List Ent) (ha : a.length ≤ 100000) (M : AMem) : callOp (acall tab) 54 [eEnts a, eEnts b] M = some (.bool (decide (a = b)), M) := callOp0 (c54 a b ha) rfl rfl rfl rfl rfl M
theorem nodeB (x y : Node) : decide (x = y) = (x.ino == y.ino && (x.kind == y.kind && (x.links == y.links && (x.up == y.up && (x.data == y.data && decide (x.ents = y.ents)))))) := by
  cases x; cases y
  simp only [Node.mk.injEq]
  rw [Bool.eq_iff_iff]
  simp only [decide_eq_true_eq, Bool.and_eq_true, beq_iff_eq]
  constructor
  · rintro ⟨h1, h2, h3, h4, h5, h6⟩; exact ⟨h1, h2, h3, h6, h4, h5⟩
  · rintro ⟨h1, h2, h3, h6, h4, h5⟩; exact ⟨h1, h2, h3, h4, h5, h6⟩
theorem c52 (x y : Node) (hx : x.ents.length ≤ 100000) : acall tab 52 [eNode x, eNode y] [] = some (.bool (decide (x = y)), []) := by
  rw [nodeB]
  refine acall_ex rfl rfl rfl ?_
  simp only [fn52, E52, eNode, eNodeC, EVT, EVD, ↓reduceIte, Nat.reduceEqDiff, reduceCtorEq, Nat.reduceAdd, Nat.reduceLeDiff, ne_eq, Nat.reduceLT, Int.reduceLT, Int.reduceLE, Int.reduceNeg]
  repeat' (first | (refine fork_split (fun hb => ?_) (fun hb => ?_) <;> simp only [hb, E52, k53, k54, hx, EVT, EVD, ↓reduceIte, Nat.reduceEqDiff, reduceCtorEq, Nat.reduceAdd, Nat.reduceLeDiff, ne_eq, Nat.reduceLT, Int.reduceLT, Int.reduceLE, Int.reduceNeg]) | (refine guard_split (fun hb => ?_) (fun hb => ?_) <;> simp only [hb, E52, k53, k54, hx, EVT, EVD, ↓reduceIte, Nat.reduceEqDiff, reduceCtorEq, Nat.reduceAdd, Nat.reduceLeDiff, ne_eq, Nat.reduceLT, Int.reduceLT, Int.reduceLE, Int.reduceNeg]) | (refine opK_pick (fun hb => ?_) (fun hb => ?_) <;> simp only [hb, E52, k53, k54, hx, EVT, EVD, ↓reduceIte, Nat.reduceEqDiff, reduceCtorEq, Nat.reduceAdd, Nat.reduceLeDiff, ne_eq, Nat.reduceLT, Int.reduceLT, Int.reduceLE, Int.reduceNeg]))
  all_goals simp_all only [BBT, ↓reduceIte, reduceCtorEq, bne_self_eq_false]
theorem k52 (x y : Node) (hx : x.ents.length ≤ 100000) (M : AMem) : callOp (acall tab) 52 [.agg (eNodeC x), .agg (eNodeC y)] M = some (.bool (decide (x = y)), M) := callOp0 (c52 x y hx) rfl rfl rfl rfl rfl M
theorem loop55 {a b : List Node} (ha : a.length ≤ 100000) (he : ∀ n, n ∈ a → n.ents.length ≤ 100000) {k : List K} {R : Bool → Option (AVal × AMem)}
    (hx : ∀ e, kr (acall tab) [.tmp 6] 0 k ⟨.exit 0, e, []⟩ = R true) (hr : ∀ M, kr (acall tab) [.tmp 6] 0 k ⟨.ret, [(6, .bool false)], M⟩ = R false) :
    ∀ (l m pre pre' : List Node), a = pre ++ l → b = pre' ++ m → pre.length = pre'.length → l.length = m.length → exK (acall tab) [.tmp 6] 0 k (.loop [1, 2, 15, 16, 17] lb55_0) [(1, eNodes b), (2, .func 52 []), (15, eNodes a), (16, .int .i64 a.length), (17, .int .i64 pre.length)] [] = R (decide (l = m)) := by
  intro l
  induction l with
  | nil =>
    intro m pre pre' h h' hp hl
    have hm : m = [] := List.length_eq_zero_iff.1 hl.symm
    subst hm
    rw [exK_loop]
    simp only [E55, lt_end h, EVT, EVD, ↓reduceIte, Nat.reduceEqDiff, reduceCtorEq, Nat.reduceAdd, Nat.reduceLeDiff, ne_eq, Nat.reduceLT, Int.reduceLT, Int.reduceLE, Int.reduceNeg]
    exact hx _
  | cons n r ih =>
    intro m pre pre' h h' hp hl
    cases m with
    | nil => cases hl
    | cons n' m =>
    rw [exK_loop]
    have hlen : pre.length + 1 ≤ 100000 := by rw [h] at ha; simp at ha; omega
    have hw : IntKind.i64.wrap ((pre.length : Int) + 1) = ((pre ++ [n]).length : Int) := by rw [wrap_small (by omega) (by omega)]; exact step_len
    have hi := ih m (pre ++ [n]) (pre' ++ [n']) (by rw [h]; simp) (by rw [h']; simp) (by simp [hp]) (by simpa using hl)
    have ha2 : b[pre.length]? = some n' := by rw [hp]; exact at_mid h'
    have hen := he n (by rw [h]; simp)
    have hdc : decide (n :: r = n' :: m) = (decide (n = n') && decide (r = m)) := by
      rw [Bool.eq_iff_iff]; simp
    have hfl : List.flatMap AVal.ids1 (eNodeC n) = [] := rfl
    have hfl' : List.flatMap AVal.ids1 (eNodeC n') = [] := rfl
    rw [hdc]
    simp only [List.length_append, List.length_cons, List.length_nil] at hi
    simp only [E55, lt_mid h, at_mid h, ha2, tkN, shN, allN, k52, hen, hfl, hfl', EVT, EVD, ↓reduceIte, Nat.reduceEqDiff, reduceCtorEq, Nat.reduceAdd, Nat.reduceLeDiff, ne_eq, Nat.reduceLT, Int.reduceLT, Int.reduceLE, Int.reduceNeg]
    refine fork_split (fun hb => ?_) (fun hb => ?_)
    · have hb' : decide (n = n') = false := by simpa using hb
      simp only [E55, hb', Bool.false_and, EVT, EVD, ↓reduceIte, Nat.reduceEqDiff, reduceCtorEq, Nat.reduceAdd, Nat.reduceLeDiff, ne_eq, Nat.reduceLT, Int.reduceLT, Int.reduceLE, Int.reduceNeg]
      exact hr _
    · have hb' : decide (n = n') = true := by simpa using hb
      simp only [E55, hb', Bool.true_and, hw, EVT, EVD, ↓reduceIte, Nat.reduceEqDiff, reduceCtorEq, Nat.reduceAdd, Nat.reduceLeDiff, ne_eq, Nat.reduceLT, Int.reduceLT, Int.reduceLE, Int.reduceNeg]
      exact hi
theorem c55 (a b : List Node) (ha : a.length ≤ 100000) (he : ∀ n, n ∈ a → n.ents.length ≤ 100000) : acall tab 55 [eNodes a, eNodes b, .func 52 []] [] = some (.bool (decide (a = b)), []) := by
  refine acall_ex rfl rfl rfl ?_
  simp only [fn55, E55, EVT, EVD, ↓reduceIte, Nat.reduceEqDiff, reduceCtorEq, Nat.reduceAdd, Nat.reduceLeDiff, ne_eq, Nat.reduceLT, Int.reduceLT, Int.reduceLE, Int.reduceNeg]
  refine fork_split (fun hb => ?_) (fun hb => ?_)
  · have : decide (a = b) = false := by
      simp at hb ⊢
      rintro rfl; exact hb rfl
    simp only [E55, this, EVT, EVD, ↓reduceIte, Nat.reduceEqDiff, reduceCtorEq, Nat.reduceAdd, Nat.reduceLeDiff, ne_eq, Nat.reduceLT, Int.reduceLT, Int.reduceLE, Int.reduceNeg]
  · simp only [E55, EVT, EVD, ↓reduceIte, Nat.reduceEqDiff, reduceCtorEq, Nat.reduceAdd, Nat.reduceLeDiff, ne_eq, Nat.reduceLT, Int.reduceLT, Int.reduceLE, Int.reduceNeg]
    exact loop55 (R := fun z => some (.bool z, [])) ha he (fun e => by simp only [E55, EVT, EVD, ↓reduceIte, Nat.reduceEqDiff, reduceCtorEq, Nat.reduceAdd, Nat.reduceLeDiff, ne_eq, Nat.reduceLT, Int.reduceLT, Int.reduceLE, Int.reduceNeg]) (fun M => by simp only [E55, EVT, EVD, ↓reduceIte, Nat.reduceEqDiff, reduceCtorEq, Nat.reduceAdd, Nat.reduceLeDiff, ne_eq, Nat.reduceLT, Int.reduceLT, Int.reduceLE, Int.reduceNeg]) a b [] [] rfl rfl rfl (by simp at hb; omega)
theorem k55 (a b : List Node) (ha : a.length ≤ 100000) (he : ∀ n, n ∈ a → n.ents.length ≤ 100000) (M : AMem) : callOp (acall tab) 55 [eNodes a, eNodes b, .func 52 []] M = some (.bool (decide (a = b)), M) := callOp0 (c55 a b ha he) rfl rfl rfl rfl rfl M
theorem treeB (x y : Tree) : decide (x = y) = (x.next == y.next && (x.cookie == y.cookie && decide (x.nodes = y.nodes))) := by
  cases x; cases y
  simp only [Tree.mk.injEq]
  rw [Bool.eq_iff_iff]
  simp only [decide_eq_true_eq, Bool.and_eq_true, beq_iff_eq]
  constructor
  · rintro ⟨h1, h2, h3⟩; exact ⟨h2, h3, h1⟩
  · rintro ⟨h2, h3, h1⟩; exact ⟨h1, h2, h3⟩
theorem c18 (a b : Tree) (ha : Small a) : acall tab 18 [eTree a, eTree b] [] = some (.bool (decide (a = b)), []) := by
  rw [treeB]
  have h1 := ha.nodes
  have h2 := ha.ents
  refine acall_ex rfl rfl rfl ?_
  simp only [fn18, E18, eTree, eTreeC, EVT, EVD, ↓reduceIte, Nat.reduceEqDiff, reduceCtorEq, Nat.reduceAdd, Nat.reduceLeDiff, ne_eq, Nat.reduceLT, Int.reduceLT, Int.reduceLE, Int.reduceNeg]
  repeat' (first | (refine fork_split (fun hb => ?_) (fun hb => ?_) <;> simp only [hb, E18, k55 _ _ h1 h2, EVT, EVD, ↓reduceIte, Nat.reduceEqDiff, reduceCtorEq, Nat.reduceAdd, Nat.reduceLeDiff, ne_eq, Nat.reduceLT, Int.reduceLT, Int.reduceLE, Int.reduceNeg]) | (refine guard_split (fun hb => ?_) (fun hb => ?_) <;> simp only [hb, E18, k55 _ _ h1 h2, EVT, EVD, ↓reduceIte, Nat.reduceEqDiff, reduceCtorEq, Nat.reduceAdd, Nat.reduceLeDiff, ne_eq, Nat.reduceLT, Int.reduceLT, Int.reduceLE, Int.reduceNeg]) | (refine opK_pick (fun hb => ?_) (fun hb => ?_) <;> simp only [hb, E18, k55 _ _ h1 h2, EVT, EVD, ↓reduceIte, Nat.reduceEqDiff, reduceCtorEq, Nat.reduceAdd, Nat.reduceLeDiff, ne_eq, Nat.reduceLT, Int.reduceLT, Int.reduceLE, Int.reduceNeg]))
  all_goals simp_all only [BBT, ↓reduceIte, reduceCtorEq, bne_self_eq_false]
theorem k18 (a b : Tree) (ha : Small a) (M : AMem) : callOp (acall tab) 18 [.agg [eNodes a.nodes, .int .i64 a.next, .int .i64 a.cookie], .agg [eNodes b.nodes, .int .i64 b.next, .int .i64 b.cookie]] M = some (.bool (decide (a = b)), M) := callOp0 (c18 a b ha) rfl rfl rfl rfl rfl M
end Go.Proofs.YtnapockikkbkcaaGreat
namespace Go.Proofs.YtnapockikkbkcaaGreat
open Go Go.Abs
theorem callOpE {C : CallF} {f p : Nat} {x : Ent} {r : AVal} {M : AMem} {z : Int} (hM : nth M p = some (.cells [.int .i64 z])) (h : C f [.agg (eEntC x), .ptr 0 0] [.cells [.int .i64 z]] = some (r, [.cells [.int .i64 z]])) (h3 : r.flatR = true) (h5 : r.renR (atN [p]) = r) :
    callOp C f [.agg (eEntC x), .ptr p 0] M = some (r, M) := by
  have hids : [AVal.agg (eEntC x), .ptr p 0].flatMap AVal.ids = [p] := rfl
  have hi : idsAt M [p] = [] := by simp [idsAt, hM, ABox.ids, AVal.ids1, AVal.ids0]
  have e0 : reach1 M [p] = [p] := by simp [reach1, hi, addAll]
  have e1 : reach M [p] = [p] := by
    have ea : addAll [] [p] = [p] := rfl
    simp only [reach, ea, e0]
  have hfl : [AVal.agg (eEntC x), .ptr p 0].all AVal.flat = true := rfl
  unfold callOp
  rw [if_pos hfl, hids, e1]
  have hpk : pickM M (idxN [p]) [p] = some [.cells [.int .i64 z]] := by simp [pickM, hM, ABox.flat, ABox.ren, AVal.ren1, AVal.ren0, AVal.flat1, AVal.flat0]
  rw [hpk]
  simp only [obind_some]
  rw [if_pos e0]
  have hrn : [AVal.agg (eEntC x), .ptr p 0].map (AVal.ren (idxN [p])) = [AVal.agg (eEntC x), .ptr 0 0] := by
    simp [AVal.ren, AVal.ren1, AVal.ren0, idxN, eEntC]
  rw [hrn, h]
  simp only [obind_some]
  rw [if_pos ⟨by trivial, h3, rfl⟩, h5]
  have hs : wback [p] M [p] [.cells [.int .i64 z]] = M := by
    simp only [wback, ABox.ren, List.map_cons, List.map_nil, AVal.ren1, AVal.ren0]
    exact set_nth hM
  rw [hs]
theorem pickA (xs : List AVal) (z : Int) : pickM [.arr 3 0 xs, .cells [.int .i64 z]] (idxN [0, 1]) [0, 1] = some [.arr 3 0 xs, .cells [.int .i64 z]] := rfl
section
attribute [local irreducible] exK opsK opK gK forkK kr acall callOp owhen obind
theorem c59 (e : Ent) (z : Int) : acall tab 59 [eEnt e, .ptr 0 0] [.cells [.int .i64 z]] = some (.bool (decide (e.cookie < z)), [.cells [.int .i64 z]]) := by
  refine acall_ex rfl rfl rfl ?_
  simp only [fn59, E59, eEnt, eEntC, EVT, EVD, ↓reduceIte, Nat.reduceEqDiff, reduceCtorEq, Nat.reduceAdd, Nat.reduceLeDiff, ne_eq, Nat.reduceLT, Int.reduceLT, Int.reduceLE, Int.reduceNeg]
theorem k59 (e : Ent) (z : Int) (p : Nat) (M : AMem) (hM : nth M p = some (.cells [.int .i64 z])) : callOp (acall tab) 59 [.agg (eEntC e), .ptr p 0] M = some (.bool (decide (e.cookie < z)), M) :=
  callOpE hM (c59 e z) rfl rfl
def idxC (z : Int) : List Ent → Nat → Int
  | [], _ => -1
  | e :: r, i => if decide (e.cookie < z) = true then (i : Int) else idxC z r (i + 1)
theorem loop89 {xs : List Ent} {z : Int} (hn : xs.length ≤ 100000) {k : List K} {R : Int → Option (AVal × AMem)}
    (hx : ∀ e, kr (acall tab) [.tmp 4] 2 k ⟨.exit 0, e, [.arr 3 0 (xs.map eEnt), .cells [.int .i64 z]]⟩ = R (-1)) (hr : ∀ (i : Nat), kr (acall tab) [.tmp 4] 2 k ⟨.ret, [(4, .int .i64 i)], [.arr 3 0 (xs.map eEnt), .cells [.int .i64 z]]⟩ = R i) :
    ∀ (l pre : List Ent), xs = pre ++ l → exK (acall tab) [.tmp 4] 2 k (.loop [0, 1, 7, 8] lb89_0) [(0, .aref 0 0 3 0 xs.length), (1, .func 59 [.ptr 1 0]), (7, .int .i64 xs.length), (8, .int .i64 pre.length)] [.arr 3 0 (xs.map eEnt), .cells [.int .i64 z]] = R (idxC z l pre.length) := by
  intro l
  induction l with
  | nil =>
    intro pre h
    rw [exK_loop]
    simp only [E89, lt_end h, EVT, EVD, ↓reduceIte, Nat.reduceEqDiff, reduceCtorEq, Nat.reduceAdd, Nat.reduceLeDiff, ne_eq, Nat.reduceLT, Int.reduceLT, Int.reduceLE, Int.reduceNeg]
    exact hx _
  | cons n rest ih =>
    intro pre h
    rw [exK_loop]
    have hlen : pre.length + 1 ≤ 100000 := by rw [h] at hn; simp at hn; omega
    have hw : IntKind.i64.wrap ((pre.length : Int) + 1) = ((pre ++ [n]).length : Int) := by rw [wrap_small (by omega) (by omega)]; exact step_len
    have hi := ih (pre ++ [n]) (by rw [h]; simp)
    simp only [List.length_append, List.length_cons, List.length_nil] at hi
    have q59 := fun e => k59 e z 1 [.arr 3 0 (xs.map eEnt), .cells [.int .i64 z]] rfl
    have hlt : ((pre.length : Int) < ((xs.length - 0 : Nat) : Int)) = True := by simp only [eq_iff_iff, iff_true]; rw [h]; simp; omega
    rw [idxC]
    simp only [E89, lt_mid h, at_mid h, tkE, shE, q59, hlt, EVT, EVD, ↓reduceIte, Nat.reduceEqDiff, reduceCtorEq, Nat.reduceAdd, Nat.reduceLeDiff, ne_eq, Nat.reduceLT, Int.reduceLT, Int.reduceLE, Int.reduceNeg]
    refine fork_split (fun hb => ?_) (fun hb => ?_)
    · simp only [E89, hb, EVT, EVD, ↓reduceIte, Nat.reduceEqDiff, reduceCtorEq, Nat.reduceAdd, Nat.reduceLeDiff, ne_eq, Nat.reduceLT, Int.reduceLT, Int.reduceLE, Int.reduceNeg]
      exact hr _
    · simp only [E89, hb, hw, Bool.false_eq_true, EVT, EVD, ↓reduceIte, Nat.reduceEqDiff, reduceCtorEq, Nat.reduceAdd, Nat.reduceLeDiff, ne_eq, Nat.reduceLT, Int.reduceLT, Int.reduceLE, Int.reduceNeg]
      exact hi
theorem c89 (xs : List Ent) (z : Int) (hn : xs.length ≤ 100000) : acall tab 89 [.aref 0 0 3 0 xs.length, .func 59 [.ptr 1 0]] [.arr 3 0 (xs.map eEnt), .cells [.int .i64 z]] = some (.int .i64 (idxC z xs 0), [.arr 3 0 (xs.map eEnt), .cells [.int .i64 z]]) := by
  refine acall_ex rfl rfl rfl ?_
  simp only [fn89, E89, Nat.sub_zero, EVT, EVD, ↓reduceIte, Nat.reduceEqDiff, reduceCtorEq, Nat.reduceAdd, Nat.reduceLeDiff, ne_eq, Nat.reduceLT, Int.reduceLT, Int.reduceLE, Int.reduceNeg]
  exact loop89 (R := fun i => some (.int .i64 i, [.arr 3 0 (xs.map eEnt), .cells [.int .i64 z]])) hn (fun e => by simp only [E89, EVT, EVD, ↓reduceIte, Nat.reduceEqDiff, reduceCtorEq, Nat.reduceAdd, Nat.reduceLeDiff, ne_eq, Nat.reduceLT, Int.reduceLT, Int.reduceLE, Int.reduceNeg]) (fun i => by simp only [E89, EVT, EVD, ↓reduceIte, Nat.reduceEqDiff, reduceCtorEq, Nat.reduceAdd, Nat.reduceLeDiff, ne_eq, Nat.reduceLT, Int.reduceLT, Int.reduceLE, Int.reduceNeg]) xs [] rfl
theorem k89 (xs : List Ent) (z : Int) (hn : xs.length ≤ 100000) : callOp (acall tab) 89 [.aref 0 0 3 0 xs.length, .func 59 [.ptr 1 0]] [.arr 3 0 (xs.map eEnt), .cells [.int .i64 z]] = some (.int .i64 (idxC z xs 0), [.arr 3 0 (xs.map eEnt), .cells [.int .i64 z]]) :=
  callF (ids := [0, 1]) rfl rfl (pickA ..) rfl rfl (c89 xs z hn) rfl rfl rfl rfl rfl
def keepC (z : Int) (l : List Ent) : List Ent := l.filter fun e => !decide (e.cookie < z)
theorem keepC_cons (z : Int) (x : Ent) (l : List Ent) : keepC z (x :: l) = if decide (x.cookie < z) = true then keepC z l else x :: keepC z l := by
  unfold keepC
  rw [List.filter_cons]
  cases decide (x.cookie < z) <;> rfl
theorem setN_ent (xs : List Ent) (b : Nat) (o n : Ent) (h : xs[b]? = some o) : (setN (xs.map eEnt) b (putCells (eEnt o) 0 (eEntC n))) = (xs.set b n).map eEnt := by
  have : putCells (eEnt o) 0 (eEntC n) = eEnt n := rfl
  rw [this, setN_eq, List.map_set]
theorem plainE (x : Ent) : (eEntC x).all AVal.plainCell = true := rfl
theorem mapShE (x : Ent) : ((eEntC x).map AVal.shut).all AVal.plainCell = true := rfl
theorem loop57 {z : Int} {N : Nat} (hN : N ≤ 100000) {k : List K} {R : List Ent → Nat → Option (AVal × AMem)}
    (hx : ∀ (A G : List Ent) v q, A.length + G.length = N → G ≠ [] → kr (acall tab) [.tmp 4] 2 k ⟨.exit 0, [(0, .aref 0 0 3 0 N), (1, .func 59 [.ptr 1 0]), (5, .int .i64 A.length), (6, v), (19, q)], [.arr 3 0 ((A ++ G).map eEnt), .cells [.int .i64 z]]⟩ = R A G.length) :
    ∀ (T A G : List Ent), A.length + G.length + T.length = N → G ≠ [] → exK (acall tab) [.tmp 4] 2 k (.loop [0, 1, 5, 6] lb57_0) [(0, .aref 0 0 3 0 N), (1, .func 59 [.ptr 1 0]), (5, .int .i64 A.length), (6, .int .i64 ((A.length + G.length : Nat) : Int))] [.arr 3 0 ((A ++ G ++ T).map eEnt), .cells [.int .i64 z]] = R (A ++ keepC z T) (N - (A ++ keepC z T).length) := by
  intro T
  induction T with
  | nil =>
    intro A G hl hg
    have hlt : (((A.length + G.length : Nat) : Int) < ((N - 0 : Nat) : Int)) = False := by simp only [eq_iff_iff, iff_false]; simp at hl ⊢; omega
    have hk : keepC z [] = [] := rfl
    have hgl : N - (A ++ keepC z []).length = G.length := by rw [hk]; simp at hl ⊢; omega
    rw [hgl, hk, List.append_nil, List.append_nil]
    rw [exK_loop]
    simp only [E57, hlt, EVT, EVD, ↓reduceIte, Nat.reduceEqDiff, reduceCtorEq, Nat.reduceAdd, Nat.reduceLeDiff, ne_eq, Nat.reduceLT, Int.reduceLT, Int.reduceLE, Int.reduceNeg]
    exact hx A G _ _ (by simpa using hl) hg
  | cons x T ih =>
    intro A G hl hg
    simp only [List.length_cons] at hl
    have hlt : (((A.length + G.length : Nat) : Int) < ((N - 0 : Nat) : Int)) = True := by simp only [eq_iff_iff, iff_true]; omega
    have hnn : ((0 : Int) ≤ ((A.length + G.length : Nat) : Int)) = True := by simp only [eq_iff_iff, iff_true]; omega
    have hat : (A ++ G ++ x :: T)[A.length + G.length]? = some x := by
      rw [List.getElem?_append_right (by simp)]; simp
    have hw : IntKind.i64.wrap (((A.length + G.length : Nat) : Int) + 1) = ((A.length + G.length + 1 : Nat) : Int) := by rw [wrap_small (by omega) (by omega)]; omega
    have hw1 : IntKind.i64.wrap ((A.length : Int) + 1) = ((A.length + 1 : Nat) : Int) := by rw [wrap_small (by omega) (by omega)]; omega
    have q59 := fun e a b M => k59 e z 1 (a :: .cells [.int .i64 z] :: b :: M) rfl
    obtain ⟨g, G', hG⟩ := List.exists_cons_of_ne_nil hg
    have hga : (A ++ G ++ x :: T)[A.length]? = some g := by rw [hG]; simp
    have hset : (A ++ G ++ x :: T).set A.length x = (A ++ [x]) ++ (G' ++ [x]) ++ T := by rw [hG]; simp
    have hlt2 : ((A.length : Int) < ((N - 0 : Nat) : Int)) = True := by simp only [eq_iff_iff, iff_true]; omega
    have h1 := ih (A ++ [x]) (G' ++ [x]) (by rw [hG] at hl; simp at hl ⊢; omega) (by simp)
    have h2 := ih A (G ++ [x]) (by simp; omega) (by simp)
    have hl1 : (((A ++ [x]).length + (G' ++ [x]).length : Nat) : Int) = ((A.length + G.length + 1 : Nat) : Int) := by rw [hG]; simp; omega
    have hl2 : ((A.length + (G ++ [x]).length : Nat) : Int) = ((A.length + G.length + 1 : Nat) : Int) := by simp; omega
    have hl3 : ((A ++ [x]).length : Int) = ((A.length + 1 : Nat) : Int) := by simp
    have e2 : A ++ (G ++ [x]) ++ T = A ++ G ++ x :: T := by simp
    have e1 : A ++ [x] ++ keepC z T = A ++ x :: keepC z T := by simp
    rw [hl1, hl3, e1] at h1
    rw [hl2, e2] at h2
    simp only [List.length_append, List.length_cons] at h1 h2
    have hput := setN_ent (A ++ G ++ x :: T) A.length g x hga
    rw [hset] at hput
    rw [keepC_cons]
    rw [exK_loop]
    simp only [E57, hlt, hnn, hat, tkE, shE, allE, q59, EVT, EVD, ↓reduceIte, Nat.reduceEqDiff, reduceCtorEq, Nat.reduceAdd, Nat.reduceLeDiff, ne_eq, Nat.reduceLT, Int.reduceLT, Int.reduceLE, Int.reduceNeg]
    refine fork_split (fun hb => ?_) (fun hb => ?_)
    · have hb' : decide (x.cookie < z) = false := by simpa using hb
      simp only [E57, hb', hlt2, hga, hput, tkE, shE, plainE, hw, hw1, Bool.false_eq_true, EVT, EVD, ↓reduceIte, Nat.reduceEqDiff, reduceCtorEq, Nat.reduceAdd, Nat.reduceLeDiff, ne_eq, Nat.reduceLT, Int.reduceLT, Int.reduceLE, Int.reduceNeg]
      exact h1
    · have hb' : decide (x.cookie < z) = true := by simpa using hb
      simp only [E57, hb', hw, EVT, EVD, ↓reduceIte, Nat.reduceEqDiff, reduceCtorEq, Nat.reduceAdd, Nat.reduceLeDiff, ne_eq, Nat.reduceLT, Int.reduceLT, Int.reduceLE, Int.reduceNeg]
      exact h2
def zEnt : Ent := ⟨[], 0, 0⟩
theorem idxC_none (z : Int) : ∀ (l : List Ent) (i : Nat), idxC z l i = -1 → keepC z l = l
  | [], _, _ => rfl
  | x :: l, i, h => by
    rw [idxC] at h
    split at h
    · omega
    · rename_i hx
      rw [keepC_cons, if_neg hx, idxC_none z l _ h]
theorem idxC_some (z : Int) : ∀ (l : List Ent) (i : Nat), idxC z l i ≠ -1 → ∃ A x T, l = A ++ x :: T ∧ idxC z l i = ((i + A.length : Nat) : Int) ∧ keepC z l = A ++ keepC z T
  | [], _, h => absurd rfl h
  | x :: l, i, h => by
    rw [idxC] at h ⊢
    rw [keepC_cons]
    split
    · rename_i hx; exact ⟨[], x, l, rfl, rfl, rfl⟩
    · rename_i hx
      rw [if_neg hx] at h
      obtain ⟨A, y, T, h1, h2, h3⟩ := idxC_some z l (i + 1) h
      exact ⟨x :: A, y, T, by rw [h1]; rfl, by rw [h2]; simp; omega, by rw [h3]; rfl⟩
def resA (m : Nat) : AVal := if m = 0 then .slice .sh [] else .aref 0 0 3 0 m
theorem clear_map (A G : List Ent) : ((A ++ G).map eEnt).take A.length ++ (List.replicate G.length (AVal.agg [.str [], .int .i64 0, .int .i64 0]) ++ ((A ++ G).map eEnt).drop (A ++ G).length) = (A ++ List.replicate G.length zEnt).map eEnt := by
  have h1 : ((A ++ G).map eEnt).take A.length = A.map eEnt := by simp [List.take_append_of_le_length]
  have h2 : ((A ++ G).map eEnt).drop (A ++ G).length = [] := by rw [List.drop_eq_nil_iff]; simp
  rw [h1, h2]
  simp [List.map_replicate]
  exact .inr rfl
theorem c57 (xs : List Ent) (z : Int) (hn : xs.length ≤ 100000) (h0 : xs ≠ []) : acall tab 57 [.aref 0 0 3 0 xs.length, .func 59 [.ptr 1 0]] [.arr 3 0 (xs.map eEnt), .cells [.int .i64 z]] =
    some (resA (keepC z xs).length, [.arr 3 0 ((keepC z xs ++ List.replicate (xs.length - (keepC z xs).length) zEnt).map eEnt), .cells [.int .i64 z]]) := by
  have q89 := k89 xs z hn
  refine acall_ex rfl rfl rfl ?_
  by_cases hi : idxC z xs 0 = -1
  · have hk := idxC_none z xs 0 hi
    have hb : (idxC z xs 0 == -1) = true := by simpa using hi
    have hl : xs.length ≠ 0 := fun hh => h0 (List.length_eq_zero_iff.1 hh)
    rw [hk]
    simp only [fn57, E57, q89, hb, EVT, EVD, ↓reduceIte, Nat.reduceEqDiff, reduceCtorEq, Nat.reduceAdd, Nat.reduceLeDiff, ne_eq, Nat.reduceLT, Int.reduceLT, Int.reduceLE, Int.reduceNeg]
    simp [resA, hl]
  · obtain ⟨A, x, T, h1, h2, h3⟩ := idxC_some z xs 0 hi
    have hb : (idxC z xs 0 == -1) = false := by simpa using hi
    simp only [Nat.zero_add] at h2
    have hlen : xs.length = A.length + (T.length + 1) := by rw [h1]; simp
    have hw : IntKind.i64.wrap ((A.length : Int) + 1) = ((A.length + [x].length : Nat) : Int) := by rw [wrap_small (by omega) (by omega)]; simp
    have hlp := fun k R hx => loop57 (z := z) hn (k := k) (R := R) hx T A [x] (by simp; omega) (by simp)
    have e1 : A ++ [x] ++ T = xs := by rw [h1]; simp
    rw [e1] at hlp
    rw [h2] at hb q89
    rw [h3]
    simp only [fn57, E57, q89, hb, hw, EVT, EVD, ↓reduceIte, Nat.reduceEqDiff, reduceCtorEq, Nat.reduceAdd, Nat.reduceLeDiff, ne_eq, Nat.reduceLT, Int.reduceLT, Int.reduceLE, Int.reduceNeg]
    refine (hlp _ (fun A' g => some (resA A'.length, [.arr 3 0 ((A' ++ List.replicate g zEnt).map eEnt), .cells [.int .i64 z]])) (fun A' G v q hl hg => ?_)).trans (by simp only [List.length_append])
    have hgl : G.length ≠ 0 := fun hh => hg (List.length_eq_zero_iff.1 hh)
    have b1 : (((A'.length : Nat) : Int) ≤ (xs.length : Int)) = True := by simp only [eq_iff_iff, iff_true]; omega
    have b2 : (((A'.length : Nat) : Int) == (xs.length : Int)) = false := by simp; omega
    have hcl := clear_map A' G
    have hN : (A' ++ G).length = xs.length := by simp; omega
    have hd : xs.length - A'.length = G.length := by omega
    rw [hN] at hcl
    have hz0 : Int.toNat ((0 : Nat) : Int) = 0 := rfl
    have hb0 : (((0 : Nat) : Int) ≤ ((A'.length : Nat) : Int)) = True := by simp
    by_cases hA : A'.length = 0
    · have b3 : (((0 : Nat) : Int) == ((A'.length : Nat) : Int)) = true := by simp [hA]
      simp only [E57, boundOf, Nat.sub_zero, Int.le_refl, b1, b2, hd, hcl, b3, hz0, hb0, EVT, EVD, ↓reduceIte, Nat.reduceEqDiff, reduceCtorEq, Nat.reduceAdd, Nat.reduceLeDiff, ne_eq, Nat.reduceLT, Int.reduceLT, Int.reduceLE, Int.reduceNeg]
      simp [resA, hA]
    · have b3 : (((0 : Nat) : Int) == ((A'.length : Nat) : Int)) = false := by simp; omega
      simp only [E57, boundOf, Nat.sub_zero, Int.le_refl, b1, b2, hd, hcl, b3, hz0, hb0, EVT, EVD, ↓reduceIte, Nat.reduceEqDiff, reduceCtorEq, Nat.reduceAdd, Nat.reduceLeDiff, ne_eq, Nat.reduceLT, Int.reduceLT, Int.reduceLE, Int.reduceNeg]
      simp [resA, hA]
end
end Go.Proofs.YtnapockikkbkcaaGreat
namespace Go.Proofs.YtnapockikkbkcaaGreat
open Go Go.Abs
attribute [local irreducible] exK opsK opK gK forkK kr acall callOp owhen obind
theorem c61 (a b : Ent) : acall tab 61 [eEnt a, eEnt b] [] = some (.int .i64 (cmpI a.cookie b.cookie), []) := by
  refine acall_ex rfl rfl rfl ?_
  simp only [fn61, E61, eEnt, eEntC, k62, EVT, EVD, ↓reduceIte, Nat.reduceEqDiff, reduceCtorEq, Nat.reduceAdd, Nat.reduceLeDiff, ne_eq, Nat.reduceLT, Int.reduceLT, Int.reduceLE, Int.reduceNeg]
theorem k61 (a b : Ent) (M : AMem) : callOp (acall tab) 61 [.agg (eEntC a), .agg (eEntC b)] M = some (.int .i64 (cmpI a.cookie b.cookie), M) := callOp0 (c61 a b) rfl rfl rfl rfl rfl M
def insB (x : Ent) : List Ent → List Ent → List Ent
  | [], R => x :: R
  | y :: L, R => if decide (x.cookie < y.cookie) = true then insB x L (y :: R) else (y :: L).reverse ++ x :: R
theorem loop118a {m : Nat} (hm : m ≤ 100000) {x : Ent} {T : List Ent} {i : Int} {fin : List Ent} {k : List K} {r : Option (AVal × AMem)}
    (hx : ∀ v q, kr (acall tab) [] 1 k ⟨.exit 2, [(0, .aref 0 0 3 0 m), (1, .int .i64 0), (2, .int .i64 m), (3, .func 61 []), (8, .int .i64 i), (9, v), (34, q)], [.arr 3 0 (fin.map eEnt)]⟩ = r) :
    ∀ (L Rr : List Ent), L.length < m → insB x L Rr ++ T = fin → exK (acall tab) [] 1 k (.loop [0, 1, 2, 3, 8, 9] lb118_0) [(0, .aref 0 0 3 0 m), (1, .int .i64 0), (2, .int .i64 m), (3, .func 61 []), (8, .int .i64 i), (9, .int .i64 L.length)] [.arr 3 0 ((L.reverse ++ x :: Rr ++ T).map eEnt)] = r := by
  intro L
  induction L with
  | nil =>
    intro Rr hl hfin
    have hf : x :: Rr ++ T = fin := hfin
    subst hf
    have hgt : decide ((0 : Int) < ((0 : Nat) : Int)) = false := rfl
    rw [exK_loop]
    simp only [E118, hgt, EVT, EVD, ↓reduceIte, Nat.reduceEqDiff, reduceCtorEq, Nat.reduceAdd, Nat.reduceLeDiff, ne_eq, Nat.reduceLT, Int.reduceLT, Int.reduceLE, Int.reduceNeg]
    exact hx _ _
  | cons y L ih =>
    intro Rr hl hfin
    simp only [List.length_cons] at hl
    have hlj : (((y :: L).length : Nat) : Int) = ((L.length + 1 : Nat) : Int) := rfl
    have hws : IntKind.i64.wrap (((L.length + 1 : Nat) : Int) - 1) = (L.length : Int) := by rw [wrap_small (by omega) (by omega)]; omega
    have hlt1 : (((L.length + 1 : Nat) : Int) < ((m - 0 : Nat) : Int)) = True := by simp only [eq_iff_iff, iff_true]; omega
    have hlt2 : ((L.length : Int) < ((m - 0 : Nat) : Int)) = True := by simp only [eq_iff_iff, iff_true]; omega
    have g1 : ((y :: L).reverse ++ x :: Rr ++ T)[L.length + 1]? = some x := by simp
    have g2 : ((y :: L).reverse ++ x :: Rr ++ T)[L.length]? = some y := by simp
    have s1 : ((y :: L).reverse ++ x :: Rr ++ T).set (L.length + 1) y = L.reverse ++ y :: y :: Rr ++ T := by
      simp [List.set_append]
    have g3 : (L.reverse ++ y :: y :: Rr ++ T)[L.length]? = some y := by simp
    have s2 : (L.reverse ++ y :: y :: Rr ++ T).set L.length x = L.reverse ++ x :: (y :: Rr) ++ T := by
      simp [List.set_append]
    have p1 := setN_ent ((y :: L).reverse ++ x :: Rr ++ T) (L.length + 1) x y g1
    have p2 := setN_ent (L.reverse ++ y :: y :: Rr ++ T) L.length y x g3
    rw [s1] at p1
    rw [s2] at p2
    have hc : (cmpI x.cookie y.cookie < 0) = (x.cookie < y.cookie) := cmpI_lt _ _
    rw [exK_loop]
    rw [hlj]
    rw [insB] at hfin
    have hgt' : decide ((0 : Int) < ((L.length + 1 : Nat) : Int)) = true := by rw [decide_eq_true_eq]; omega
    simp only [E118, hgt', hws, hlt1, hlt2, g1, g2, tkE, shE, k61, hc, EVT, EVD, ↓reduceIte, Nat.reduceEqDiff, reduceCtorEq, Nat.reduceAdd, Nat.reduceLeDiff, ne_eq, Nat.reduceLT, Int.reduceLT, Int.reduceLE, Int.reduceNeg]
    refine fork_split (fun hb => ?_) (fun hb => ?_)
    · rw [if_pos hb] at hfin
      have hh := ih (y :: Rr) (by omega) hfin
      simp only [E118, hb, hws, hlt1, hlt2, g1, g2, g3, p1, p2, tkE, shE, plainE, EVT, EVD, ↓reduceIte, Nat.reduceEqDiff, reduceCtorEq, Nat.reduceAdd, Nat.reduceLeDiff, ne_eq, Nat.reduceLT, Int.reduceLT, Int.reduceLE, Int.reduceNeg]
      exact hh
    · rw [if_neg (by simp [hb])] at hfin
      have hf : (y :: L).reverse ++ x :: Rr ++ T = fin := hfin
      subst hf
      simp only [E118, hb, Bool.false_eq_true, EVT, EVD, ↓reduceIte, Nat.reduceEqDiff, reduceCtorEq, Nat.reduceAdd, Nat.reduceLeDiff, ne_eq, Nat.reduceLT, Int.reduceLT, Int.reduceLE, Int.reduceNeg]
      exact hx _ _
def isortGo : List Ent → List Ent → List Ent
  | P, [] => P
  | P, x :: l => isortGo (insB x P.reverse []) l
def isort : List Ent → List Ent
  | [] => []
  | x :: l => isortGo [x] l
theorem insB_len (x : Ent) : ∀ (L R : List Ent), (insB x L R).length = L.length + R.length + 1
  | [], R => by simp [insB]
  | y :: L, R => by
    rw [insB]
    split
    · rw [insB_len x L (y :: R)]; simp; omega
    · simp; omega
theorem loop118b {m : Nat} (hm : m ≤ 100000) {Z : List Ent} {k : List K} {R : List Ent → Option (AVal × AMem)}
    (hx : ∀ (ys : List Ent) v q, kr (acall tab) [] 1 k ⟨.exit 0, [(0, .aref 0 0 3 0 m), (1, .int .i64 0), (2, .int .i64 m), (3, .func 61 []), (8, v), (14, q)], [.arr 3 0 (ys.map eEnt)]⟩ = R ys) :
    ∀ (l P : List Ent), P.length + l.length = m → exK (acall tab) [] 1 k (.loop [0, 1, 2, 3, 8] lb118_1) [(0, .aref 0 0 3 0 m), (1, .int .i64 0), (2, .int .i64 m), (3, .func 61 []), (8, .int .i64 P.length)] [.arr 3 0 ((P ++ l ++ Z).map eEnt)] = R (isortGo P l ++ Z) := by
  intro l
  induction l with
  | nil =>
    intro P hl
    have hlt : ((P.length : Int) < (m : Int)) = False := by simp only [eq_iff_iff, iff_false]; simp at hl; omega
    rw [exK_loop]
    rw [List.append_nil, isortGo]
    simp only [E118, hlt, EVT, EVD, ↓reduceIte, Nat.reduceEqDiff, reduceCtorEq, Nat.reduceAdd, Nat.reduceLeDiff, ne_eq, Nat.reduceLT, Int.reduceLT, Int.reduceLE, Int.reduceNeg]
    exact hx _ _ _
  | cons x l ih =>
    intro P hl
    simp only [List.length_cons] at hl
    have hlt : ((P.length : Int) < (m : Int)) = True := by simp only [eq_iff_iff, iff_true]; omega
    have hw : IntKind.i64.wrap ((P.length : Int) + 1) = ((P.length + 1 : Nat) : Int) := by rw [wrap_small (by omega) (by omega)]; omega
    have hla := fun k r hx => loop118a hm (x := x) (T := l ++ Z) (i := (P.length : Int)) (k := k) (r := r) hx P.reverse [] (by simp; omega) rfl
    simp only [List.reverse_reverse, List.length_reverse] at hla
    have e1 : P ++ [x] ++ (l ++ Z) = P ++ x :: l ++ Z := by simp
    rw [e1] at hla
    rw [exK_loop, isortGo]
    simp only [E118, hlt, EVT, EVD, ↓reduceIte, Nat.reduceEqDiff, reduceCtorEq, Nat.reduceAdd, Nat.reduceLeDiff, ne_eq, Nat.reduceLT, Int.reduceLT, Int.reduceLE, Int.reduceNeg]
    have hlen : (insB x P.reverse []).length = P.length + 1 := by rw [insB_len]; simp
    have hh := ih (insB x P.reverse []) (by omega)
    rw [hlen] at hh
    have e2 : insB x P.reverse [] ++ l ++ Z = insB x P.reverse [] ++ (l ++ Z) := by simp
    rw [e2] at hh
    refine hla _ _ (fun v q => ?_)
    simp only [E118, hw, EVT, EVD, ↓reduceIte, Nat.reduceEqDiff, reduceCtorEq, Nat.reduceAdd, Nat.reduceLeDiff, ne_eq, Nat.reduceLT, Int.reduceLT, Int.reduceLE, Int.reduceNeg]
    exact hh
theorem c118 (xs Z : List Ent) (hm : xs.length ≤ 100000) (h0 : xs ≠ []) : acall tab 118 [.aref 0 0 3 0 xs.length, .int .i64 0, .int .i64 xs.length, .func 61 []] [.arr 3 0 ((xs ++ Z).map eEnt)] = some (.tuple [], [.arr 3 0 ((isort xs ++ Z).map eEnt)]) := by
  obtain ⟨x, l, rfl⟩ := List.exists_cons_of_ne_nil h0
  have hlp := fun k R hx => loop118b hm (Z := Z) (k := k) (R := R) hx l [x] (by simp; omega)
  have e1 : [x] ++ l ++ Z = x :: l ++ Z := rfl
  have hw : IntKind.i64.wrap 1 = 1 := rfl
  have hi : isort (x :: l) = isortGo [x] l := rfl
  rw [hi]
  refine acall_ex rfl rfl rfl ?_
  simp only [fn118, E118, Int.zero_add, hw, EVT, EVD, ↓reduceIte, Nat.reduceEqDiff, reduceCtorEq, Nat.reduceAdd, Nat.reduceLeDiff, ne_eq, Nat.reduceLT, Int.reduceLT, Int.reduceLE, Int.reduceNeg]
  refine hlp _ (fun ys => some (.tuple [], [.arr 3 0 (ys.map eEnt)])) (fun ys v q => ?_)
  simp only [E118, EVT, EVD, ↓reduceIte, Nat.reduceEqDiff, reduceCtorEq, Nat.reduceAdd, Nat.reduceLeDiff, ne_eq, Nat.reduceLT, Int.reduceLT, Int.reduceLE, Int.reduceNeg]
theorem c118n : acall tab 118 [.slice .sh [], .int .i64 0, .int .i64 0, .func 61 []] [] = some (.tuple [], []) := by
  have hw : IntKind.i64.wrap 1 = 1 := rfl
  have h10 : decide ((1 : Int) < 0) = false := rfl
  refine acall_ex rfl rfl rfl ?_
  simp only [fn118, E118, Int.zero_add, hw, EVT, EVD, ↓reduceIte, Nat.reduceEqDiff, reduceCtorEq, Nat.reduceAdd, Nat.reduceLeDiff, ne_eq, Nat.reduceLT, Int.reduceLT, Int.reduceLE, Int.reduceNeg]
  rw [exK_loop]
  simp only [E118, h10, EVT, EVD, ↓reduceIte, Nat.reduceEqDiff, reduceCtorEq, Nat.reduceAdd, Nat.reduceLeDiff, ne_eq, Nat.reduceLT, Int.reduceLT, Int.reduceLE, Int.reduceNeg]
theorem k118n (M : AMem) : callOp (acall tab) 118 [.slice .sh [], .int .i64 0, .int .i64 0, .func 61 []] M = some (.tuple [], M) := callOp0 c118n rfl rfl rfl rfl rfl M
end Go.Proofs.YtnapockikkbkcaaGreat
namespace Go.Proofs.YtnapockikkbkcaaGreat
open Go Go.Abs
theorem pickB (xs : List AVal) : pickM [.arr 3 0 xs] (idxN [0]) [0] = some [.arr 3 0 xs] := rfl
theorem k118 (xs Z : List Ent) (hm : xs.length ≤ 100000) (h0 : xs ≠ []) : callOp (acall tab) 118 [.aref 0 0 3 0 xs.length, .int .i64 0, .int .i64 xs.length, .func 61 []] [.arr 3 0 ((xs ++ Z).map eEnt)] = some (.tuple [], [.arr 3 0 ((isort xs ++ Z).map eEnt)]) :=
  callF (ids := [0]) rfl rfl (pickB ..) rfl rfl (c118 xs Z hm h0) rfl rfl rfl rfl rfl
section
attribute [local irreducible] exK opsK opK gK forkK kr acall callOp owhen obind
theorem c90 (xs Z : List Ent) (lim : Int) (hm : xs.length ≤ 12) (h0 : xs ≠ []) : acall tab 90 [.aref 0 0 3 0 xs.length, .int .i64 0, .int .i64 xs.length, .int .i64 lim, .func 61 []] [.arr 3 0 ((xs ++ Z).map eEnt)] = some (.tuple [], [.arr 3 0 ((isort xs ++ Z).map eEnt)]) := by
  have q := k118 xs Z (by omega) h0
  have hw : IntKind.i64.wrap ((xs.length : Int) - 0) = xs.length := by rw [wrap_small (by omega) (by omega)]; omega
  have hle : decide ((xs.length : Int) ≤ 12) = true := by rw [decide_eq_true_eq]; omega
  refine acall_ex rfl rfl rfl ?_
  simp only [fn90, E90, EVT, EVD, ↓reduceIte, Nat.reduceEqDiff, reduceCtorEq, Nat.reduceAdd, Nat.reduceLeDiff, ne_eq, Nat.reduceLT, Int.reduceLT, Int.reduceLE, Int.reduceNeg]
  rw [exK_loop]
  simp only [E90, hw, hle, q, EVT, EVD, ↓reduceIte, Nat.reduceEqDiff, reduceCtorEq, Nat.reduceAdd, Nat.reduceLeDiff, ne_eq, Nat.reduceLT, Int.reduceLT, Int.reduceLE, Int.reduceNeg]
theorem c90n (lim : Int) : acall tab 90 [.slice .sh [], .int .i64 0, .int .i64 0, .int .i64 lim, .func 61 []] [] = some (.tuple [], []) := by
  have hw : IntKind.i64.wrap ((0 : Int) - 0) = 0 := rfl
  have hle : decide ((0 : Int) ≤ 12) = true := rfl
  refine acall_ex rfl rfl rfl ?_
  simp only [fn90, E90, EVT, EVD, ↓reduceIte, Nat.reduceEqDiff, reduceCtorEq, Nat.reduceAdd, Nat.reduceLeDiff, ne_eq, Nat.reduceLT, Int.reduceLT, Int.reduceLE, Int.reduceNeg]
  rw [exK_loop]
  simp only [E90, hw, hle, k118n, EVT, EVD, ↓reduceIte, Nat.reduceEqDiff, reduceCtorEq, Nat.reduceAdd, Nat.reduceLeDiff, ne_eq, Nat.reduceLT, Int.reduceLT, Int.reduceLE, Int.reduceNeg]
end
theorem k90 (xs Z : List Ent) (lim : Int) (hm : xs.length ≤ 12) (h0 : xs ≠ []) : callOp (acall tab) 90 [.aref 0 0 3 0 xs.length, .int .i64 0, .int .i64 xs.length, .int .i64 lim, .func 61 []] [.arr 3 0 ((xs ++ Z).map eEnt)] = some (.tuple [], [.arr 3 0 ((isort xs ++ Z).map eEnt)]) :=
  callF (ids := [0]) rfl rfl (pickB ..) rfl rfl (c90 xs Z lim hm h0) rfl rfl rfl rfl rfl
theorem k90n (lim : Int) (M : AMem) : callOp (acall tab) 90 [.slice .sh [], .int .i64 0, .int .i64 0, .int .i64 lim, .func 61 []] M = some (.tuple [], M) := callOp0 (c90n lim) rfl rfl rfl rfl rfl M
theorem len0 : acall tabS 91 [.int .u64 0] [] = some (.int .i64 0, []) := run_sound (loops := 20) (n := 20) (by kernel_rfl)
theorem len1 : acall tabS 91 [.int .u64 1] [] = some (.int .i64 1, []) := run_sound (loops := 20) (n := 20) (by kernel_rfl)
theorem len2 : acall tabS 91 [.int .u64 2] [] = some (.int .i64 2, []) := run_sound (loops := 20) (n := 20) (by kernel_rfl)
theorem len3 : acall tabS 91 [.int .u64 3] [] = some (.int .i64 2, []) := run_sound (loops := 20) (n := 20) (by kernel_rfl)
theorem len4 : acall tabS 91 [.int .u64 4] [] = some (.int .i64 3, []) := run_sound (loops := 20) (n := 20) (by kernel_rfl)
theorem len5 : acall tabS 91 [.int .u64 5] [] = some (.int .i64 3, []) := run_sound (loops := 20) (n := 20) (by kernel_rfl)
theorem len_ok {n : Nat} (h : n ≤ 5) : ∃ L, acall tabS 91 [.int .u64 n] [] = some (.int .i64 L, []) := by
  match n, h with
  | 0, _ => exact ⟨_, len0⟩
  | 1, _ => exact ⟨_, len1⟩
  | 2, _ => exact ⟨_, len2⟩
  | 3, _ => exact ⟨_, len3⟩
  | 4, _ => exact ⟨_, len4⟩
  | 5, _ => exact ⟨_, len5⟩
section
attribute [local irreducible] exK opsK opK gK forkK kr acall callOp owhen obind
variable {c : Nat → Option AFn}
theorem c60 (hc : ExtOk c) (h60 : c 60 = none) (xs Z : List Ent) (hm : xs.length ≤ 5) (h0 : xs ≠ []) : acall (tabX c) 60 [.aref 0 0 3 0 xs.length, .func 61 []] [.arr 3 0 ((xs ++ Z).map eEnt)] = some (.tuple [], [.arr 3 0 ((isort xs ++ Z).map eEnt)]) := by
  obtain ⟨L, hL⟩ := len_ok hm
  have q91 := fun M => kXS hc (callOp0 hL rfl rfl rfl rfl rfl M)
  have q90 := kX hc (k90 xs Z L (by omega) h0)
  have hw : IntKind.u64.wrap (xs.length : Int) = (xs.length : Int) := by rw [IntKind.wrap_u64]; omega
  refine acall_ex (fn := fn60) rfl (by simp only [tabX, h60]; rfl) rfl ?_
  simp only [fn60, E60, Nat.sub_zero, hw, q91, q90, EVT, EVD, ↓reduceIte, Nat.reduceEqDiff, reduceCtorEq, Nat.reduceAdd, Nat.reduceLeDiff, ne_eq, Nat.reduceLT, Int.reduceLT, Int.reduceLE, Int.reduceNeg]
theorem c60n (hc : ExtOk c) (h60 : c 60 = none) : acall (tabX c) 60 [.slice .sh [], .func 61 []] [] = some (.tuple [], []) := by
  have q91 := fun M => kXS hc (callOp0 len0 rfl rfl rfl rfl rfl M)
  have q90 := fun L M => kX hc (k90n L M)
  have hw : IntKind.u64.wrap (0 : Int) = 0 := rfl
  have hz : ((0 : Nat) : Int) = 0 := rfl
  refine acall_ex (fn := fn60) rfl (by simp only [tabX, h60]; rfl) rfl ?_
  simp only [fn60, E60, hz, hw, q91, q90, EVT, EVD, ↓reduceIte, Nat.reduceEqDiff, reduceCtorEq, Nat.reduceAdd, Nat.reduceLeDiff, ne_eq, Nat.reduceLT, Int.reduceLT, Int.reduceLE, Int.reduceNeg]
end
end Go.Proofs.YtnapockikkbkcaaGreat
namespace Go.Proofs.YtnapockikkbkcaaGreat
open Go Go.Abs
section
attribute [local irreducible] exK opsK opK gK forkK kr acall callOp owhen obind
theorem c89n (z : Int) : acall tab 89 [.slice .sh [], .func 59 [.ptr 0 0]] [.cells [.int .i64 z]] = some (.int .i64 (-1), [.cells [.int .i64 z]]) := by
  have h00 : decide ((0 : Int) < 0) = false := rfl
  have hz : ((0 : Nat) : Int) = 0 := rfl
  refine acall_ex rfl rfl rfl ?_
  simp only [fn89, E89, hz, EVT, EVD, ↓reduceIte, Nat.reduceEqDiff, reduceCtorEq, Nat.reduceAdd, Nat.reduceLeDiff, ne_eq, Nat.reduceLT, Int.reduceLT, Int.reduceLE, Int.reduceNeg]
  rw [exK_loop]
  simp only [E89, h00, EVT, EVD, ↓reduceIte, Nat.reduceEqDiff, reduceCtorEq, Nat.reduceAdd, Nat.reduceLeDiff, ne_eq, Nat.reduceLT, Int.reduceLT, Int.reduceLE, Int.reduceNeg]
end
theorem k89n (z : Int) : callOp (acall tab) 89 [.slice .sh [], .func 59 [.ptr 0 0]] [.cells [.int .i64 z]] = some (.int .i64 (-1), [.cells [.int .i64 z]]) :=
  callF (ids := [0]) rfl rfl (show pickM [.cells [.int .i64 z]] (idxN [0]) [0] = some [.cells [.int .i64 z]] from rfl) rfl rfl (c89n z) rfl rfl rfl rfl rfl
section
attribute [local irreducible] exK opsK opK gK forkK kr acall callOp owhen obind
theorem c57n (z : Int) : acall tab 57 [.slice .sh [], .func 59 [.ptr 0 0]] [.cells [.int .i64 z]] = some (.slice .sh [], [.cells [.int .i64 z]]) := by
  have h11 : ((-1 : Int) == -1) = true := rfl
  refine acall_ex rfl rfl rfl ?_
  simp only [fn57, E57, k89n, h11, EVT, EVD, ↓reduceIte, Nat.reduceEqDiff, reduceCtorEq, Nat.reduceAdd, Nat.reduceLeDiff, ne_eq, Nat.reduceLT, Int.reduceLT, Int.reduceLE, Int.reduceNeg]
end
theorem k57n (z : Int) (b0 b2 b3 : ABox) : callOp (acall tab) 57 [.slice .sh [], .func 59 [.ptr 1 0]] [b0, .cells [.int .i64 z], b2, b3] = some (.slice .sh [], [b0, .cells [.int .i64 z], b2, b3]) :=
  callF (ids := [1]) rfl rfl (show pickM [b0, .cells [.int .i64 z], b2, b3] (idxN [1]) [1] = some [.cells [.int .i64 z]] from rfl) rfl rfl (c57n z) rfl rfl rfl rfl rfl
theorem pickC (b0 b2 b3 : ABox) (xs : List AVal) (z : Int) : pickM [b0, .cells [.int .i64 z], b2, b3, .arr 3 0 xs] (idxN [4, 1]) [4, 1] = some [.arr 3 0 xs, .cells [.int .i64 z]] := rfl
theorem pickD (b0 b1 b2 b3 : ABox) (xs : List AVal) : pickM [b0, b1, b2, b3, .arr 3 0 xs] (idxN [4]) [4] = some [.arr 3 0 xs] := rfl
theorem k57 (xs : List Ent) (z : Int) (hn : xs.length ≤ 100000) (h0 : xs ≠ []) (hk : keepC z xs ≠ []) (b0 b2 b3 : ABox) : callOp (acall tab) 57 [.aref 4 0 3 0 xs.length, .func 59 [.ptr 1 0]] [b0, .cells [.int .i64 z], b2, b3, .arr 3 0 (xs.map eEnt)] =
    some (.aref 4 0 3 0 (keepC z xs).length, [b0, .cells [.int .i64 z], b2, b3, .arr 3 0 ((keepC z xs ++ List.replicate (xs.length - (keepC z xs).length) zEnt).map eEnt)]) := by
  have h := c57 xs z hn h0
  have hl : (keepC z xs).length ≠ 0 := fun hh => hk (List.length_eq_zero_iff.1 hh)
  have hr : resA (keepC z xs).length = .aref 0 0 3 0 (keepC z xs).length := by simp [resA, hl]
  rw [hr] at h
  exact callF (ids := [4, 1]) rfl rfl (pickC ..) rfl rfl h rfl rfl rfl rfl rfl
theorem k57z (xs : List Ent) (z : Int) (hn : xs.length ≤ 100000) (h0 : xs ≠ []) (hk : keepC z xs = []) (b0 b2 b3 : ABox) : callOp (acall tab) 57 [.aref 4 0 3 0 xs.length, .func 59 [.ptr 1 0]] [b0, .cells [.int .i64 z], b2, b3, .arr 3 0 (xs.map eEnt)] =
    some (.slice .sh [], [b0, .cells [.int .i64 z], b2, b3, .arr 3 0 ((List.replicate xs.length zEnt).map eEnt)]) := by
  have h := c57 xs z hn h0
  have hr : resA (keepC z xs).length = .slice .sh [] := by simp [resA, hk]
  rw [hr, hk] at h
  simp only [List.nil_append, List.length_nil, Nat.sub_zero] at h
  exact callF (ids := [4, 1]) rfl rfl (pickC ..) rfl rfl h rfl rfl rfl rfl rfl
theorem k60 {c : Nat → Option AFn} (hc : ExtOk c) (h60 : c 60 = none) (xs Z : List Ent) (hm : xs.length ≤ 5) (h0 : xs ≠ []) (b0 b1 b2 b3 : ABox) : callOp (acall (tabX c)) 60 [.aref 4 0 3 0 xs.length, .func 61 []] [b0, b1, b2, b3, .arr 3 0 ((xs ++ Z).map eEnt)] =
    some (.tuple [], [b0, b1, b2, b3, .arr 3 0 ((isort xs ++ Z).map eEnt)]) :=
  callF (ids := [4]) rfl rfl (pickD ..) rfl rfl (c60 hc h60 xs Z hm h0) rfl rfl rfl rfl rfl
theorem k60n {c : Nat → Option AFn} (hc : ExtOk c) (h60 : c 60 = none) (M : AMem) : callOp (acall (tabX c)) 60 [.slice .sh [], .func 61 []] M = some (.tuple [], M) := callOp0 (c60n hc h60) rfl rfl rfl rfl rfl M
theorem isortGo_len : ∀ (l P : List Ent), (isortGo P l).length = P.length + l.length
  | [], P => by simp [isortGo]
  | x :: l, P => by
    rw [isortGo, isortGo_len l, insB_len]; simp; omega
theorem isort_len (l : List Ent) : (isort l).length = l.length := by
  cases l with
  | nil => rfl
  | cons x l => simp [isort, isortGo_len]; omega
theorem mem_insB (x y : Ent) : ∀ (L R : List Ent), y ∈ insB x L R ↔ y = x ∨ y ∈ L ∨ y ∈ R
  | [], R => by simp [insB]
  | a :: L, R => by
    rw [insB]
    split
    · rw [mem_insB x y L (a :: R)]
      simp only [List.mem_cons]
      constructor
      · rintro (h | h | h | h)
        · exact .inl h
        · exact .inr (.inl (.inr h))
        · exact .inr (.inl (.inl h))
        · exact .inr (.inr h)
      · rintro (h | (h | h) | h)
        · exact .inl h
        · exact .inr (.inr (.inl h))
        · exact .inr (.inl h)
        · exact .inr (.inr (.inr h))
    · simp only [List.mem_append, List.mem_reverse, List.mem_cons]
      constructor
      · rintro (h | h | h)
        · exact .inr (.inl h)
        · exact .inl h
        · exact .inr (.inr h)
      · rintro (h | h | h)
        · exact .inr (.inl h)
        · exact .inl h
        · exact .inr (.inr h)
theorem mem_isortGo (y : Ent) : ∀ (l P : List Ent), y ∈ isortGo P l ↔ y ∈ P ∨ y ∈ l
  | [], P => by simp [isortGo]
  | x :: l, P => by
    rw [isortGo, mem_isortGo y l, mem_insB]
    simp only [List.mem_reverse, List.not_mem_nil, or_false, List.mem_cons]
    constructor
    · rintro ((h | h) | h)
      · exact .inr (.inl h)
      · exact .inl h
      · exact .inr (.inr h)
    · rintro (h | h | h)
      · exact .inl (.inr h)
      · exact .inl (.inl h)
      · exact .inr h
theorem mem_isort (y : Ent) (l : List Ent) : y ∈ isort l ↔ y ∈ l := by
  cases l with
  | nil => rfl
  | cons x l => simp [isort, mem_isortGo]
def listN (nodes : List Node) (d z : Int) (many : Nat) : List Ent × Int × Int :=
  if (dirN nodes d).2 ≠ 0 then ([], 0, (dirN nodes d).2) else
  if (isort (keepC z (dirN nodes d).1.ents)).length ≤ many then (isort (keepC z (dirN nodes d).1.ents), 0, 0) else
  ((isort (keepC z (dirN nodes d).1.ents)).take many, (((isort (keepC z (dirN nodes d).1.ents))[many - 1]?).getD zEnt).cookie + 1, 0)
theorem takeZ (A Z : List Ent) : (((A ++ Z).map eEnt).take A.length).drop 0 = A.map eEnt := by simp [List.take_append_of_le_length]
theorem takeM (A Z : List Ent) (m : Nat) (h : m ≤ A.length) : (((A ++ Z).map eEnt).take m).drop 0 = (A.take m).map eEnt := by
  rw [List.drop_zero, ← List.map_take, List.take_append_of_le_length h]
section
attribute [local irreducible] exK opsK opK gK forkK kr acall callOp owhen obind
set_option maxHeartbeats 2000000 in
theorem c24 {c : Nat → Option AFn} (hc : ExtOk c) (h60 : c 60 = none) (h24 : c 24 = none) {nodes : List Node} {next cookie : Int} {dep : Int → Nat} (hi : GInv ⟨nodes, next, cookie⟩ dep 0) (ht : Small ⟨nodes, next, cookie⟩) (d z : Int) (many : Nat) (hz : 0 ≤ z) (hm1 : 1 ≤ many) (hm2 : many ≤ 64) (hck : cookie ≤ 1099511627776) :
    acall (tabX c) 24 [eTree ⟨nodes, next, cookie⟩, .int .i64 d, .int .i64 z, .int .i64 many] [] = some (.tuple [eEnts (listN nodes d z many).1, .int .i64 (listN nodes d z many).2.1, .int .i64 (listN nodes d z many).2.2], []) := by
  have b1 : decide (z < 0) = false := by rw [decide_eq_false_iff_not]; omega
  have b2 : decide ((many : Int) < 1) = false := by rw [decide_eq_false_iff_not]; omega
  have b3 : decide ((64 : Int) < (many : Int)) = false := by rw [decide_eq_false_iff_not]; omega
  have q40 := fun a b M => kX hc (k40 nodes next cookie d hi.srt.asc ht.nodes 2 (a :: b :: .cells [eNodes nodes, .int .i64 next, .int .i64 cookie] :: M) rfl)
  refine acall_ex (fn := fn24) rfl (by simp only [tabX, h24]; rfl) rfl ?_
  simp only [fn24, E24, eTree, eTreeC, b1, b2, b3, q40, eNode, eNodeC, EVT, EVD, ↓reduceIte, Nat.reduceEqDiff, reduceCtorEq, Nat.reduceAdd, Nat.reduceLeDiff, ne_eq, Nat.reduceLT, Int.reduceLT, Int.reduceLE, Int.reduceNeg]
  by_cases h0 : (dirN nodes d).2 = 0
  · obtain ⟨n, hf, hk, hdn⟩ := dir_ok h0
    have hb : ((dirN nodes d).2 != 0) = false := by simpa using h0
    have hlN : listN nodes d z many = if (isort (keepC z n.ents)).length ≤ many then (isort (keepC z n.ents), 0, 0) else ((isort (keepC z n.ents)).take many, (((isort (keepC z n.ents))[many - 1]?).getD zEnt).cookie + 1, 0) := by
      simp only [listN, hdn, ne_eq, not_true_eq_false, ↓reduceIte]
    have hfew : n.ents.length ≤ 5 := hi.few hf
    rw [hlN]
    simp only [hdn]
    have hb0 : ((0 : Int) != 0) = false := rfl
    by_cases he : n.ents = []
    · have q58 : ∀ M, acall (tabX c) 58 [eEnts []] M = some (.slice .c0 [], M) := fun M => tabX_leS hc (tab_leS (p58n M))
      have q57 := fun b0 b2 b3 => kX hc (k57n z b0 b2 b3)
      have q60 := fun M => k60n hc h60 M
      have hzm : decide (((0 : Nat) : Int) ≤ (many : Int)) = true := by rw [decide_eq_true_eq]; omega
      rw [he]
      have hks : keepC z [] = [] := rfl
      have hks' : isort [] = [] := rfl
      simp only [E24, hb0, List.map_nil, q58, q57, q60, hzm, hks, hks', List.length_nil, Nat.zero_le, EVT, EVD, ↓reduceIte, Nat.reduceEqDiff, reduceCtorEq, Nat.reduceAdd, Nat.reduceLeDiff, ne_eq, Nat.reduceLT, Int.reduceLT, Int.reduceLE, Int.reduceNeg]
      rfl
    · have q58 := fun M => tabX_leS hc (tab_leS (p58 he (by omega) M))
      by_cases hkz : keepC z n.ents = []
      · have q57 := fun b0 b2 b3 => kX hc (k57z n.ents z (by omega) he hkz b0 b2 b3)
        have q60 := fun M => k60n hc h60 M
        have hzm : decide (((0 : Nat) : Int) ≤ (many : Int)) = true := by rw [decide_eq_true_eq]; omega
        have hks' : isort [] = [] := rfl
        rw [hkz, hks']
        simp only [E24, hb0, q58, q57, q60, hzm, List.length_nil, Nat.zero_le, EVT, EVD, ↓reduceIte, Nat.reduceEqDiff, reduceCtorEq, Nat.reduceAdd, Nat.reduceLeDiff, ne_eq, Nat.reduceLT, Int.reduceLT, Int.reduceLE, Int.reduceNeg]
        rfl
      · have hkl : (keepC z n.ents).length ≤ 5 := Nat.le_trans (List.length_filter_le _ _) hfew
        have q57 := fun b0 b2 b3 => kX hc (k57 n.ents z (by omega) he hkz b0 b2 b3)
        have q60 := fun Z b0 b1 b2 b3 => k60 hc h60 (keepC z n.ents) Z hkl hkz b0 b1 b2 b3
        have hil := isort_len (keepC z n.ents)
        have hyb : ∀ y, y ∈ isort (keepC z n.ents) → y.cookie ≤ 1099511627776 ∧ -1 ≤ y.cookie := fun y hy => by
          have h1 := (mem_isort _ _).1 hy
          have h2 := hi.ent _ _ y hf (List.mem_filter.1 h1).1
          simp only at h2
          omega
        generalize hA : isort (keepC z n.ents) = A at *
        generalize keepC z n.ents = Kp at *
        generalize List.replicate (n.ents.length - Kp.length) zEnt = Z at *
        have hne : A ≠ [] := fun hh => hkz (List.length_eq_zero_iff.1 (by rw [← hil, hh]; rfl))
        by_cases hle : A.length ≤ many
        · have hb4 : decide ((Kp.length : Int) ≤ (many : Int)) = true := by rw [decide_eq_true_eq]; omega
          have htk : (((A ++ Z).map eEnt).take Kp.length).drop 0 = A.map eEnt := by rw [← hil]; exact takeZ A Z
          rw [if_pos hle]
          simp only [E24, hb0, q58, q57, q60, Nat.sub_zero, hb4, List.getElem?_cons_zero, List.getElem?_cons_succ, EVT, EVD, ↓reduceIte, Nat.reduceEqDiff, reduceCtorEq, Nat.reduceAdd, Nat.reduceLeDiff, ne_eq, Nat.reduceLT, Int.reduceLT, Int.reduceLE, Int.reduceNeg]
          rw [List.drop_zero] at htk
          rw [htk]
        · have hb4 : decide ((Kp.length : Int) ≤ (many : Int)) = false := by rw [decide_eq_false_iff_not]; omega
          have htk : (((A ++ Z).map eEnt).take many) = (A.take many).map eEnt := by have := takeM A Z many (by omega); rwa [List.drop_zero] at this
          obtain ⟨y, hy⟩ : ∃ y, A[many - 1]? = some y := ⟨_, List.getElem?_eq_getElem (by omega)⟩
          have hyz : (A ++ Z)[many - 1]? = some y := by rw [List.getElem?_append_left (by omega)]; exact hy
          have hws : IntKind.i64.wrap ((many : Int) - 1) = ((many - 1 : Nat) : Int) := by rw [wrap_small (by omega) (by omega)]; omega
          have hlt : (((many - 1 : Nat) : Int) < (Kp.length : Int)) = True := by simp only [eq_iff_iff, iff_true]; omega
          have g1 : ((many : Int) ≤ (Kp.length : Int)) = True := by simp only [eq_iff_iff, iff_true]; omega
          have g2 : ((many : Int) == 0) = false := by simp; omega
          have g3 : (((0 : Nat) : Int) == (many : Int)) = false := by simp; omega
          have g4 : (((0 : Nat) : Int) ≤ (many : Int)) = True := by simp
          have hz0 : Int.toNat ((0 : Nat) : Int) = 0 := rfl
          have hyc : y.cookie ≤ 1099511627776 ∧ -1 ≤ y.cookie := hyb y (List.mem_of_getElem? hy)
          have hwc : IntKind.i64.wrap (y.cookie + 1) = y.cookie + 1 := wrap_small (by omega) (by omega)
          rw [if_neg hle, hy]
          simp only [E24, hb0, q58, q57, q60, Nat.sub_zero, hb4, boundOf, g1, g2, g3, g4, hz0, Int.le_refl, hws, hlt, hyz, eEntC, hwc, Option.getD_some, List.getElem?_cons_zero, List.getElem?_cons_succ, EVT, EVD, ↓reduceIte, Nat.reduceEqDiff, reduceCtorEq, Nat.reduceAdd, Nat.reduceLeDiff, ne_eq, Nat.reduceLT, Int.reduceLT, Int.reduceLE, Int.reduceNeg]
          rw [htk]
  · have hb : ((dirN nodes d).2 != 0) = true := by simpa using h0
    have hlN : listN nodes d z many = ([], 0, (dirN nodes d).2) := by simp only [listN, ne_eq, h0, not_false_eq_true, ↓reduceIte]
    rw [hlN]
    simp only [E24, hb, List.map_nil, EVT, EVD, ↓reduceIte, Nat.reduceEqDiff, reduceCtorEq, Nat.reduceAdd, Nat.reduceLeDiff, ne_eq, Nat.reduceLT, Int.reduceLT, Int.reduceLE, Int.reduceNeg]
    rfl
theorem k24 {c : Nat → Option AFn} (hc : ExtOk c) (h60 : c 60 = none) (h24 : c 24 = none) {nodes : List Node} {next cookie : Int} {dep : Int → Nat} (hi : GInv ⟨nodes, next, cookie⟩ dep 0) (ht : Small ⟨nodes, next, cookie⟩) (d z : Int) (many : Nat) (hz : 0 ≤ z) (hm1 : 1 ≤ many) (hm2 : many ≤ 64) (hck : cookie ≤ 1099511627776) (M : AMem) :
    callOp (acall (tabX c)) 24 [.agg [eNodes nodes, .int .i64 next, .int .i64 cookie], .int .i64 d, .int .i64 z, .int .i64 many] M = some (.tuple [eEnts (listN nodes d z many).1, .int .i64 (listN nodes d z many).2.1, .int .i64 (listN nodes d z many).2.2], M) :=
  callOp0 (c24 hc h60 h24 hi ht d z many hz hm1 hm2 hck) rfl rfl rfl rfl rfl M
end
end Go.Proofs.YtnapockikkbkcaaGreat
namespace Go.Proofs.YtnapockikkbkcaaGreat
open Go Go.Abs
theorem look_of {nodes : List Node} {dir : Int} {s : Bytes} {d : Node} (hd : find nodes dir = some d) (hk : d.kind = 2) (hs : nameOk s = true) : lookN nodes dir s = match findE d.ents s with
    | none => (0, 70)
    | some e => (e.ino, 0) := by
  have : dirN nodes dir = (d, 0) := by simp [dirN, hd, hk]
  simp only [lookN, this, hs]
  cases findE d.ents s <;> simp
theorem ontoN_codes (x y : Node) : ontoN x y = 73 ∨ ontoN x y = 72 ∨ ontoN x y = 74 ∨ ontoN x y = 0 := by
  unfold ontoN
  split
  · simp
  split
  · simp
  split
  · simp
  · simp
theorem GInv.under {t : Tree} {dep : Int → Nat} (h : GInv t dep 0) {to : Int} {nm : Bytes} {dT : Node} (hT : find t.nodes to = some dT) : (nodeUnder t.nodes dT.ents nm).ino = underN dT.ents nm := by
  unfold nodeUnder underN
  cases he : findE dT.ents nm with
  | none => rfl
  | some e =>
    obtain ⟨_, _, _, _, m, hm, _⟩ := h.ent _ _ e hT (findE_mem he).1
    simp [nodeN, hm, (find_mem hm).2]
theorem loop_same {t : Tree} {dep : Int → Nat} (h : GInv t dep 0) {f to : Int} {s nm : Bytes} {dT : Node} (hl : (lookN t.nodes f s).2 = 0) (hT : find t.nodes to = some dT) (hTk : dT.kind = 2) (hn : nameOk nm = true)
    (h1 : (lookN t.nodes to nm).2 = 0) (h2 : (lookN t.nodes to nm).1 = (lookN t.nodes f s).1) : (mvW t f s to nm).2.2 = 0 := by
  have hd : dirN t.nodes to = (dT, 0) := by simp [dirN, hT, hTk]
  rw [look_of hT hTk hn] at h1 h2
  unfold mvW
  simp only [hl, hd, bne_self_eq_false, Bool.false_eq_true, ↓reduceIte, hn, Bool.not_true]
  cases he : findE dT.ents nm with
  | none => rw [he] at h1; cases h1
  | some e =>
    rw [he] at h2
    have hu : underN dT.ents nm = e.ino := by simp [underN, he]
    rw [h.under hT, hu]
    simp only at h2
    rw [h2]
    simp
theorem loop_else {t : Tree} {dep : Int → Nat} (h : GInv t dep 0) {f to : Int} {s nm : Bytes} {dT : Node} (hl : (lookN t.nodes f s).2 = 0) (hx : (find t.nodes (lookN t.nodes f s).1).isSome = true) (hk : (nodeN t.nodes (lookN t.nodes f s).1).kind = 2) (hT : find t.nodes to = some dT) (hTk : dT.kind = 2) (hn : nameOk nm = true)
    (h1 : (lookN t.nodes to nm).2 = 0 → (lookN t.nodes to nm).1 ≠ (lookN t.nodes f s).1) : ((mvW t f s to nm).2.2 == 75) = lbelowN t.nodes to (lookN t.nodes f s).1 := by
  have hd : dirN t.nodes to = (dT, 0) := by simp [dirN, hT, hTk]
  rw [look_of hT hTk hn] at h1
  generalize hxx : (lookN t.nodes f s).1 = x at *
  have hx1 : 1 ≤ x := by
    cases hf : find t.nodes x with
    | none => rw [hf] at hx; cases hx
    | some n => exact (h.num _ _ hf).1
  have hu : underN dT.ents nm ≠ x := by
    unfold underN
    cases he : findE dT.ents nm with
    | none => simp only; omega
    | some e => rw [he] at h1; exact h1 rfl
  rw [h.lbelowN_eq x hT hTk, ← h.upsN_contains x hT hTk]
  unfold mvW
  simp only [hl, hd, bne_self_eq_false, Bool.false_eq_true, ↓reduceIte, hn, Bool.not_true, h.under hT, hxx, hk, beq_self_eq_true, Bool.true_and]
  rw [if_neg (by simpa using hu)]
  split
  · rename_i hc; rw [hc]; rfl
  · rename_i hc
    have hc' : (upsN t.nodes to).contains x = false := by simpa using hc
    rw [hc']
    split
    · rcases ontoN_codes (nodeN t.nodes x) (nodeUnder t.nodes dT.ents nm) with h | h | h | h <;> simp [h]
    · split
      · rfl
      · rfl
end Go.Proofs.YtnapockikkbkcaaGreat
namespace Go.Proofs.YtnapockikkbkcaaGreat
open Go Go.Abs
theorem may_eq {t : Tree} {dep : Int → Nat} (h : GInv t dep 0) (dir : Int) (s : Bytes) : mayErr t dir s = enterErr t dir s := by
  unfold mayErr enterErr
  by_cases h0 : (dirN t.nodes dir).2 = 0
  · obtain ⟨d, d1, d2, d3⟩ := dir_ok h0
    have hf : fullN t d = (decide ((64 : Int) ≤ d.ents.length) || (decide ((12 : Int) ≤ upDepth t.nodes dir) || decide ((1099511627776 : Int) ≤ t.cookie))) := by
      unfold fullN
      rw [(find_mem d1).2, h.depthN_eq d1 d2, h.upDepth_eq d1 d2]
    simp only [d3, hf, bne_self_eq_false, Bool.false_eq_true, ↓reduceIte, ne_eq, not_true_eq_false]
    cases nameOk s <;> simp
  · rw [if_pos (by simpa using h0), if_pos h0]
theorem addW_eq {t : Tree} {dep : Int → Nat} (h : GInv t dep 0) (dir : Int) (s : Bytes) (kind : Int) : addW t dir s kind = addN t dir s kind := by
  unfold addW addN
  rw [may_eq h]
theorem lnW_eq {t : Tree} {dep : Int → Nat} (h : GInv t dep 0) (ino dir : Int) (s : Bytes) : lnW t ino dir s = lnN t ino dir s := by
  unfold lnW lnN
  rw [may_eq h]
theorem unnamedW_eq {nodes : List Node} {x : Int} {m : Node} (hx : find nodes x = some m) : unnamedW nodes m = unnamedN nodes x := by
  unfold unnamedW unnamedN
  simp only [nodeN, hx, Option.getD_some, (find_mem hx).2]
theorem unW_eq {t : Tree} {dep : Int → Nat} (h : GInv t dep 0) (dir : Int) (s : Bytes) : unW t dir s = unN t dir s := by
  unfold unW unN
  split
  · rfl
  · rename_i hl
    obtain ⟨d, e, d1, d2, d3, d4, d5⟩ := look_ok (by simpa using hl)
    simp only [d5]
    obtain ⟨_, _, _, _, m, hm, _⟩ := h.ent _ _ e d1 (findE_mem d4).1
    have hm' : find (leftN t.nodes dir s) e.ino = some m := by
      rw [find_leftN h.srt.asc d1, if_neg (h.ent_ne d1 (findE_mem d4).1)]; exact hm
    have hn : nodeN t.nodes e.ino = m := by simp [nodeN, hm]
    rw [hn, unnamedW_eq hm']
theorem highGo_ex (nodes : List Node) (ino at' d : Int) (b : Int) : ∀ (l : List Node) (most : Int), b < highGo nodes ino at' d l most → b < most ∨ ∃ n, n ∈ l ∧ (n.kind == 2 && belowN nodes n.ino ino) = true ∧ b < highAt nodes at' d n
  | [], most, h => .inl h
  | m :: l, most, h => by
    rw [highGo] at h
    rcases highGo_ex nodes ino at' d b l _ h with h1 | ⟨n, h1, h2, h3⟩
    · have e : highStep nodes ino at' d m most = if (m.kind == 2 && belowN nodes m.ino ino) = true then (if highAt nodes at' d m > most then highAt nodes at' d m else most) else most := rfl
      rw [e] at h1
      split at h1
      · rename_i hb
        split at h1
        · exact .inr ⟨m, List.mem_cons_self, hb, h1⟩
        · exact .inl h1
      · exact .inl h1
    · exact .inr ⟨n, List.mem_cons_of_mem _ h1, h2, h3⟩
theorem GInv.deep_eq {t : Tree} {dep : Int → Nat} (h : GInv t dep 0) {x to : Int} {m : Node} (hx : find t.nodes x = some m) (hk : m.kind = 2) (hd : dep to < 12) :
    deepN t.nodes x (((dep to + 1 : Nat) : Int)) = decide ((12 : Int) < highN t.nodes x (((dep to + 1 : Nat) : Int))) := by
  have key : ∀ n, n ∈ t.nodes → deepAt t.nodes (((dep to + 1 : Nat) : Int)) ((dep x : Nat) : Int) x n = ((n.kind == 2 && belowN t.nodes n.ino x) && decide ((12 : Int) < highAt t.nodes (((dep to + 1 : Nat) : Int)) ((dep x : Nat) : Int) n)) := by
    intro n hn
    have hi : find t.nodes n.ino = some n := (find_iff h.srt.asc).2 ⟨hn, rfl⟩
    unfold deepAt
    by_cases hk2 : n.kind = 2
    · rw [h.upsN_contains x hi hk2, h.upsN_len hi hk2]
      by_cases hb : belowN t.nodes n.ino x = true
      · rw [h.highAt_eq hx hk hd hi hk2 hb]
        have d1 := (h.deep _ _ hi hk2).1
        have d2 := (h.deep _ _ hx hk).1
        have d3 := h.below_dep _ _ n hi hk2 rfl hb
        have w1 : w64 ((((dep to + 1 : Nat) : Int)) + ((dep n.ino + 1 : Nat) : Int)) = (((dep to + 1 : Nat) : Int)) + ((dep n.ino + 1 : Nat) : Int) := wrap_small (by omega) (by omega)
        have w2 : w64 ((((dep to + 1 : Nat) : Int)) + ((dep n.ino + 1 : Nat) : Int) - 1) = (((dep to + 1 : Nat) : Int)) + ((dep n.ino + 1 : Nat) : Int) - 1 := wrap_small (by omega) (by omega)
        have w3 : w64 ((((dep to + 1 : Nat) : Int)) + ((dep n.ino + 1 : Nat) : Int) - 1 - (dep x : Nat)) = (((dep to + 1 : Nat) : Int)) + ((dep n.ino + 1 : Nat) : Int) - 1 - (dep x : Nat) := wrap_small (by omega) (by omega)
        rw [w1, w2, w3]
        unfold redep
        rw [if_pos hb, hb]
        simp only [hk2, beq_self_eq_true, Bool.true_and]
        rw [Bool.eq_iff_iff]
        simp only [Bool.or_eq_true, Bool.and_eq_true, decide_eq_true_eq, beq_iff_eq]
        split <;> omega
      · have : belowN t.nodes n.ino x = false := by simpa using hb
        simp [this]
    · have : (n.kind == 2) = false := by simpa using hk2
      simp [this]
  have hdx : (upDepth t.nodes x : Int) = ((dep x : Nat) : Int) := by rw [h.upDepth_eq hx hk]
  unfold deepN highN
  rw [h.depthN_eq hx hk, hdx]
  rw [Bool.eq_iff_iff]
  simp only [List.any_eq_true, decide_eq_true_eq]
  constructor
  · rintro ⟨n, hn, hp⟩
    rw [key n hn] at hp
    simp only [Bool.and_eq_true, decide_eq_true_eq] at hp
    have := (highGo_ge t.nodes x (((dep to + 1 : Nat) : Int)) ((dep x : Nat) : Int) t.nodes 0).2 n hn (by simp [hp.1.1, hp.1.2])
    omega
  · intro hh
    rcases highGo_ex t.nodes x _ _ 12 t.nodes 0 hh with h1 | ⟨n, h1, h2, h3⟩
    · omega
    · exact ⟨n, h1, by rw [key n h1, h2]; simpa using h3⟩
theorem mvW_eq {t : Tree} {dep : Int → Nat} (h : GInv t dep 0) (f : Int) (s : Bytes) (to : Int) (nm : Bytes) : mvW t f s to nm = mvN t f s to nm := by
  unfold mvW mvN
  split
  · rfl
  rename_i c1
  split
  · rfl
  rename_i c2
  split
  · rfl
  obtain ⟨dF, e, e1, e2, e3, e4, e5⟩ := look_ok (by simpa using c1)
  obtain ⟨dT, g1, g2, g3⟩ := dir_ok (show (dirN t.nodes to).2 = 0 by simpa using c2)
  have hem := (findE_mem e4).1
  obtain ⟨_, _, x1, _, m, hm, hup⟩ := h.ent _ _ e e1 hem
  have hnode : nodeN t.nodes e.ino = m := by simp [nodeN, hm]
  simp only [e5, g3, hnode, h.under g1, h.upsN_contains e.ino g1 g2]
  split
  · rfl
  rename_i c4
  split
  · rfl
  rename_i c5
  have hup' : underN dT.ents nm ≠ e.ino := by simpa using c4
  have hnf := h.ent_ne e1 hem
  have hne : e.ino ≠ to := fun hh => by
    rw [hh, g1] at hm; injection hm with hm; subst hm
    simp only [g2, beq_self_eq_true, Bool.true_and] at c5
    rw [hh, GInv.below_self] at c5
    exact c5 rfl
  have hmany : ∀ there : Bool, (underN dT.ents nm == 0) = !there → manyW t f to dT.ents there m.kind e.ino = manyN t f to dT.ents m.kind (underN dT.ents nm) e.ino := by
    intro there hth
    unfold manyW manyN
    rw [hth, h.upsN_len g1 g2, h.depthN_eq g1 g2]
    by_cases hd : dep to < 12
    · have hw : w64 (((dep to : Nat) : Int) + 1) = ((dep to + 1 : Nat) : Int) := by
        rw [show (((dep to : Nat) : Int) + 1) = ((dep to + 1 : Nat) : Int) by omega]
        exact wrap_small (by omega) (by omega)
      rw [hw]
      have hdd : decide ((12 : Int) < ((dep to + 1 : Nat) : Int)) = decide ((12 : Int) ≤ ((dep to : Nat) : Int)) := by
        rw [decide_eq_decide]; omega
      rw [hdd]
      rcases h.kind _ _ hm with hk | hk
      · simp [hk]
      · rw [h.deep_eq hm hk hd]
    · have h1 : decide ((12 : Int) < ((dep to + 1 : Nat) : Int)) = true := by rw [decide_eq_true_eq]; omega
      have h2 : decide ((12 : Int) ≤ ((dep to : Nat) : Int)) = true := by rw [decide_eq_true_eq]; omega
      rw [h1, h2]; simp
  cases hfr : findE dT.ents nm with
  | none =>
    have hu : underN dT.ents nm = 0 := by simp [underN, hfr]
    have hm1 := hmany false (by rw [hu]; rfl)
    rw [hu] at hm1 ⊢
    have hcl : clashN t.nodes m.kind 0 = 0 := by simp [clashN, h.zero]
    simp only [Option.isSome_none, Bool.false_and, Bool.false_eq_true, ↓reduceIte, hcl, bne_self_eq_false, hm1]
    split
    · rfl
    · unfold moveW moveN
      simp only [hnode, Bool.false_eq_true, ↓reduceIte, bne_self_eq_false]
  | some e2 =>
    have hu : underN dT.ents nm = e2.ino := by simp [underN, hfr]
    obtain ⟨_, _, _, _, y, hy, _⟩ := h.ent _ _ e2 g1 (findE_mem hfr).1
    have hny : nodeN t.nodes e2.ino = y := by simp [nodeN, hy]
    have hto := h.ent_ne g1 (findE_mem hfr).1
    have hy0 := (h.num _ _ hy).1
    have hm1 := hmany true (by rw [hu]; simp; omega)
    have hnu : nodeUnder t.nodes dT.ents nm = y := by simp [nodeUnder, hfr, hny]
    rw [hu] at hm1 ⊢
    have hcl : clashN t.nodes m.kind e2.ino = ontoN m y := by
      unfold clashN ontoN
      simp only [hy, Option.isSome_some, Bool.not_true, Bool.false_eq_true, ↓reduceIte, hny]
    rw [hnu, hcl]
    simp only [Option.isSome_some, Bool.true_and, hm1]
    split
    · rfl
    rename_i c6
    split
    · rfl
    have hy00 : y.ents = [] := by
      have : ontoN m y = 0 := by simpa using c6
      unfold ontoN at this
      split at this
      · cases this
      split at this
      · cases this
      split at this
      · cases this
      · rename_i k3; exact List.length_eq_zero_iff.1 (by simpa using k3)
    have hnf2 : e2.ino ≠ f := fun hh => by
      rw [hh, e1] at hy; injection hy with hy; subst hy
      rw [hy00] at hem; cases hem
    have hyl : find (leftN (leftN t.nodes f s) to nm) e2.ino = some y := by
      have f1 := find_leftN h.srt.asc e1 (s := s)
      obtain ⟨dT', hT'⟩ : ∃ dT', find (leftN t.nodes f s) to = some dT' := by rw [f1]; split <;> simp_all
      rw [find_leftN (leftN_asc h.srt.asc f s) hT', if_neg hto, f1, if_neg hnf2]
      exact hy
    have hb : (e2.ino != 0) = true := by simp; omega
    unfold moveW moveN
    simp only [hnode, ↓reduceIte, hb, unnamedW_eq hyl]
end Go.Proofs.YtnapockikkbkcaaGreat
namespace Go.Proofs.YtnapockikkbkcaaGreat
open Go Go.Abs
def mvA (t : Tree) (f : Int) (s : Bytes) (to : Int) (nm : Bytes) (y : Int) : List Node := if (y != 0) = true then unnamedN (leftN (leftN t.nodes f s) to nm) y else leftN t.nodes f s
def goneN (o : Option Node) : Option Node := match o with
  | some y => lessN y
  | none => none
theorem mvA_asc {t : Tree} {dep : Int → Nat} (h : GInv t dep 0) (f : Int) (s : Bytes) (to : Int) (nm : Bytes) (y : Int) : Asc (mvA t f s to nm y) := by
  unfold mvA
  split
  · exact unnamedN_asc (leftN_asc (leftN_asc h.srt.asc f s) to nm) y
  · exact leftN_asc h.srt.asc f s
theorem find_mvA {t : Tree} {dep : Int → Nat} (h : GInv t dep 0) {f : Int} {s : Bytes} {to : Int} {nm : Bytes} {dF dT m : Node} {e : Ent} (k : MvOk t dep f s to nm dF dT m e) (i : Int) :
    find (mvA t f s to nm (underN dT.ents nm)) i = if i = to then some { dT with ents := dropE (if to = f then dropE dT.ents s else dT.ents) nm }
      else if i = f then some { dF with ents := dropE dF.ents s } else if i = underN dT.ents nm then goneN (find t.nodes i) else find t.nodes i := by
  have f1 := find_leftN h.srt.asc k.hF (s := s)
  cases hfr : findE dT.ents nm with
  | none =>
    have hu : underN dT.ents nm = 0 := by simp [underN, hfr]
    have hdr : dropE (if to = f then dropE dT.ents s else dT.ents) nm = (if to = f then dropE dT.ents s else dT.ents) := by
      refine dropE_none ?_
      split
      · exact findE_dropE_none hfr
      · exact hfr
    rw [hu, hdr]
    simp only [mvA, bne_self_eq_false, Bool.false_eq_true, ↓reduceIte]
    rw [f1]
    by_cases i1 : i = to
    · rw [if_pos i1]
      subst i1
      by_cases i2 : i = f
      · subst i2
        have := k.hF; rw [k.hT] at this; injection this with this; subst this
        simp only [↓reduceIte]
      · simp only [i2, ↓reduceIte]; exact k.hT
    · rw [if_neg i1]
      by_cases i2 : i = f
      · simp only [i2, ↓reduceIte]
      · simp only [i2, ↓reduceIte]
        by_cases i3 : i = 0
        · subst i3; simp [h.zero, goneN]
        · simp only [i3, ↓reduceIte]
  | some e2 =>
    have hu : underN dT.ents nm = e2.ino := by simp [underN, hfr]
    obtain ⟨q1, y, q2, q3, q4, q5, q6⟩ := k.onto e2 hfr
    have hy0 := (h.num _ _ q2).1
    have hb : (e2.ino != 0) = true := by simp; omega
    rw [hu]
    simp only [mvA, hb, ↓reduceIte]
    have a1 := leftN_asc h.srt.asc f s
    obtain ⟨dT', hT', hd'⟩ : ∃ dT', find (leftN t.nodes f s) to = some dT' ∧ ({ dT' with ents := dropE dT'.ents nm } : Node) = { dT with ents := dropE (if to = f then dropE dT.ents s else dT.ents) nm } := by
      rw [f1]
      split
      · rename_i hh
        subst hh
        have := k.hF; rw [k.hT] at this; injection this with this; subst this
        exact ⟨_, rfl, rfl⟩
      · exact ⟨dT, k.hT, rfl⟩
    have f3 := find_leftN a1 hT' (s := nm)
    have hy3 : find (leftN (leftN t.nodes f s) to nm) e2.ino = some y := by rw [f3, if_neg q6, f1, if_neg q5]; exact q2
    rw [find_unnamedN (leftN_asc a1 to nm) hy3, f3, f1, hd']
    by_cases i1 : i = e2.ino
    · subst i1
      simp only [↓reduceIte, q5, q6, q2, goneN]
    · simp only [i1, ↓reduceIte]
theorem find_moveN {t : Tree} {dep : Int → Nat} (h : GInv t dep 0) {f : Int} {s : Bytes} {to : Int} {nm : Bytes} {dF dT m : Node} {e : Ent} (k : MvOk t dep f s to nm dF dT m e) (i : Int) :
    find (moveN t f s to nm e.ino (underN dT.ents nm)).nodes i = if i = to then some { dT with ents := insE (dropE (if to = f then dropE dT.ents s else dT.ents) nm) ⟨nm, e.ino, t.cookie⟩ }
      else if i = f then some { dF with ents := dropE dF.ents s } else if i = e.ino then some (if m.kind = 2 then { m with up := to } else m) else if i = underN dT.ents nm then goneN (find t.nodes i) else find t.nodes i := by
  have hA := find_mvA h k
  have aA := mvA_asc h f s to nm (underN dT.ents nm)
  have hmn : nodeN t.nodes e.ino = m := by simp [nodeN, k.hm]
  have hmi : m.ino = e.ino := (find_mem k.hm).2
  have hTi : dT.ino = to := (find_mem k.hT).2
  have hux : e.ino ≠ underN dT.ents nm := by
    cases hfr : findE dT.ents nm with
    | none => simp only [underN, hfr]; have := (h.num _ _ k.hm).1; omega
    | some e2 => simp only [underN, hfr]; exact fun hh => (k.onto e2 hfr).1 hh.symm
  obtain ⟨B, hB, aB, fB⟩ : ∃ B, (if (m.kind == 2) = true then withN (mvA t f s to nm (underN dT.ents nm)) { m with up := to } else mvA t f s to nm (underN dT.ents nm)) = B ∧ Asc B ∧
      ∀ i, find B i = if i = to then some { dT with ents := dropE (if to = f then dropE dT.ents s else dT.ents) nm }
        else if i = f then some { dF with ents := dropE dF.ents s } else if i = e.ino then some (if m.kind = 2 then { m with up := to } else m) else if i = underN dT.ents nm then goneN (find t.nodes i) else find t.nodes i := by
    refine ⟨_, rfl, ?_, ?_⟩
    · split
      · exact withN_asc aA _
      · exact aA
    · intro i
      split
      · rename_i hk
        have hk' : m.kind = 2 := by simpa using hk
        rw [find_withN aA, hA]
        simp only [hmi, hk', ↓reduceIte]
        by_cases i1 : i = e.ino
        · subst i1; simp only [↓reduceIte, k.ne, k.nf]
        · simp only [i1, ↓reduceIte]
      · rename_i hk
        have hk' : ¬ m.kind = 2 := by simpa using hk
        rw [hA]
        simp only [hk', ↓reduceIte]
        by_cases i1 : i = e.ino
        · subst i1; simp only [↓reduceIte, k.ne, k.nf, hux]; exact k.hm
        · simp only [i1, ↓reduceIte]
  have hmv : moveN t f s to nm e.ino (underN dT.ents nm) = enteredN ⟨B, t.next, t.cookie⟩ to nm e.ino := by
    rw [← hB]
    unfold moveN mvA
    simp only [hmn]
  rw [hmv]
  unfold enteredN
  simp only
  have hBt : find B to = some { dT with ents := dropE (if to = f then dropE dT.ents s else dT.ents) nm } := by rw [fB]; simp only [↓reduceIte]
  rw [find_withN aB, hBt]
  simp only [Option.getD_some, hTi]
  by_cases i1 : i = to
  · simp only [i1, ↓reduceIte]
  · simp only [i1, ↓reduceIte]
    rw [fB]
    simp only [i1, ↓reduceIte]
theorem moveN_next (t : Tree) (f : Int) (s : Bytes) (to : Int) (nm : Bytes) (x y : Int) : (moveN t f s to nm x y).next = t.next := rfl
theorem moveN_cookie {t : Tree} {dep : Int → Nat} (h : GInv t dep 0) (hc : t.cookie < 1099511627776) (f : Int) (s : Bytes) (to : Int) (nm : Bytes) (x y : Int) : (moveN t f s to nm x y).cookie = t.cookie + 1 := by
  show w64 (t.cookie + 1) = t.cookie + 1
  exact wrap_small (by have := h.cookie; omega) (by omega)
theorem asc_len {a b : List Node} (ha : Asc a) (h : ∀ n, n ∈ a → ∃ m, find b n.ino = some m) : a.length ≤ b.length := by
  have := nodup_le (a.map Node.ino) (b.map Node.ino) (by
    unfold List.Nodup
    rw [List.pairwise_map]
    exact List.Pairwise.imp (fun hab => by omega) ha) (by
    intro x hx
    obtain ⟨n, hn, rfl⟩ := List.mem_map.1 hx
    obtain ⟨m, hm⟩ := h n hn
    exact List.mem_map.2 ⟨m, (find_mem hm).1, (find_mem hm).2⟩)
  simpa using this
end Go.Proofs.YtnapockikkbkcaaGreat
namespace Go.Proofs.YtnapockikkbkcaaGreat
open Go Go.Abs
theorem findE_iff {l : List Ent} (h : AscE l) {s : Bytes} {e : Ent} : findE l s = some e ↔ e ∈ l ∧ e.name = s := by
  refine ⟨findE_mem, fun ⟨h1, h2⟩ => ?_⟩
  cases hf : findE l s with
  | none =>
    have := List.find?_eq_none.1 hf e h1
    simp [h2] at this
  | some x =>
    obtain ⟨x1, x2⟩ := findE_mem hf
    obtain ⟨i, hi⟩ := List.getElem?_of_mem h1
    obtain ⟨k, hk⟩ := List.getElem?_of_mem x1
    have hil := (List.getElem?_eq_some_iff.1 hi).1
    have hkl := (List.getElem?_eq_some_iff.1 hk).1
    have e1 : l[i] = e := by rw [List.getElem?_eq_getElem hil] at hi; injection hi
    have e2 : l[k] = x := by rw [List.getElem?_eq_getElem hkl] at hk; injection hk
    rcases Nat.lt_trichotomy i k with hlt | heq | hgt
    · have := List.pairwise_iff_getElem.1 h _ _ hil hkl hlt
      rw [e1, e2, h2, x2, strLt_irrefl] at this; cases this
    · subst heq; rw [← e1, ← e2]
    · have := List.pairwise_iff_getElem.1 h _ _ hkl hil hgt
      rw [e1, e2, h2, x2, strLt_irrefl] at this; cases this
theorem findE_insE {l : List Ent} (h : AscE l) {e : Ent} (hf : findE l e.name = none) (s : Bytes) : findE (insE l e) s = if s = e.name then some e else findE l s := by
  have ha := insE_asc h hf
  split
  · rename_i hs
    exact (findE_iff ha).2 ⟨(mem_insE h hf).2 (.inl rfl), hs.symm⟩
  · rename_i hs
    cases hq : findE l s with
    | none =>
      cases hr : findE (insE l e) s with
      | none => rfl
      | some x =>
        obtain ⟨x1, x2⟩ := findE_mem hr
        rcases (mem_insE h hf).1 x1 with rfl | x1
        · exact absurd x2.symm hs
        · rw [(findE_iff h).2 ⟨x1, x2⟩] at hq; cases hq
    | some x =>
      obtain ⟨x1, x2⟩ := findE_mem hq
      exact (findE_iff ha).2 ⟨(mem_insE h hf).2 (.inr x1), x2⟩
theorem nameOf_inj {n m : Nat} (h : n % 6 ≠ m % 6) : nameOf n ≠ nameOf m := by
  unfold nameOf
  have h1 : n % 6 < 6 := Nat.mod_lt _ (by omega)
  have h2 : m % 6 < 6 := Nat.mod_lt _ (by omega)
  generalize n % 6 = a at *
  generalize m % 6 = b at *
  match a, h1, b, h2 with
  | 0, _, 0, _ | 1, _, 1, _ | 2, _, 2, _ | 3, _, 3, _ | 4, _, 4, _ | 5, _, 5, _ => exact absurd rfl h
  | 0, _, 1, _ | 0, _, 2, _ | 0, _, 3, _ | 0, _, 4, _ | 0, _, 5, _ => decide
  | 1, _, 0, _ | 1, _, 2, _ | 1, _, 3, _ | 1, _, 4, _ | 1, _, 5, _ => decide
  | 2, _, 1, _ | 2, _, 0, _ | 2, _, 3, _ | 2, _, 4, _ | 2, _, 5, _ => decide
  | 3, _, 1, _ | 3, _, 2, _ | 3, _, 0, _ | 3, _, 4, _ | 3, _, 5, _ => decide
  | 4, _, 1, _ | 4, _, 2, _ | 4, _, 3, _ | 4, _, 0, _ | 4, _, 5, _ => decide
  | 5, _, 1, _ | 5, _, 2, _ | 5, _, 3, _ | 5, _, 4, _ | 5, _, 0, _ => decide
section
variable {t : Tree} {dep : Int → Nat} {f : Int} {s : Bytes} {to : Int} {nm : Bytes} {dF dT m : Node} {e : Ent}
theorem MvOk.base (h : GInv t dep 0) (k : MvOk t dep f s to nm dF dT m e) : AscE (dropE (if to = f then dropE dT.ents s else dT.ents) nm) ∧ findE (dropE (if to = f then dropE dT.ents s else dT.ents) nm) nm = none := by
  have hE : AscE dT.ents := h.srt.ents dT (find_mem k.hT).1
  refine ⟨dropE_asc ?_ nm, findE_dropE _ _⟩
  split
  · exact dropE_asc hE s
  · exact hE
theorem MvOk.look_to (h : GInv t dep 0) (k : MvOk t dep f s to nm dF dT m e) : lookN (moveN t f s to nm e.ino (underN dT.ents nm)).nodes to nm = (e.ino, 0) := by
  have hf := find_moveN h k to
  rw [if_pos rfl] at hf
  obtain ⟨b1, b2⟩ := k.base h
  rw [look_of hf k.kT k.hn]
  simp only
  rw [findE_insE b1 (e := ⟨nm, e.ino, t.cookie⟩) b2]
  simp
theorem MvOk.look_from (h : GInv t dep 0) (k : MvOk t dep f s to nm dF dT m e) (hs : nameOk s = true) (hne : ¬ (f = to ∧ s = nm)) : lookN (moveN t f s to nm e.ino (underN dT.ents nm)).nodes f s = (0, 70) := by
  have hf := find_moveN h k f
  obtain ⟨b1, b2⟩ := k.base h
  by_cases hft : f = to
  · rw [if_pos hft] at hf
    rw [look_of hf k.kT hs]
    simp only
    rw [findE_insE b1 (e := ⟨nm, e.ino, t.cookie⟩) b2]
    have hsn : s ≠ nm := fun hh => hne ⟨hft, hh⟩
    simp only [hsn, ↓reduceIte, hft.symm]
    rw [findE_dropE_none (findE_dropE _ _)]
  · rw [if_neg hft, if_pos rfl] at hf
    rw [look_of hf k.kF hs]
    simp only
    rw [findE_dropE]
theorem MvOk.under_ne (h : GInv t dep 0) (k : MvOk t dep f s to nm dF dT m e) : underN dT.ents nm ≠ e.ino := by
  cases hfr : findE dT.ents nm with
  | none => simp only [underN, hfr]; have := (h.num _ _ k.hm).1; omega
  | some e2 => simp only [underN, hfr]; exact (k.onto e2 hfr).1
theorem MvOk.other (h : GInv t dep 0) (k : MvOk t dep f s to nm dF dT m e) : t ≠ moveN t f s to nm e.ino (underN dT.ents nm) := by
  intro hh
  have := moveN_cookie h k.cookie f s to nm e.ino (underN dT.ents nm)
  rw [← hh] at this
  omega
theorem MvOk.len (h : GInv t dep 0) (k : MvOk t dep f s to nm dF dT m e) {dep' : Int → Nat} (h' : GInv (moveN t f s to nm e.ino (underN dT.ents nm)) dep' 0) : (moveN t f s to nm e.ino (underN dT.ents nm)).nodes.length ≤ t.nodes.length := by
  refine asc_len h'.srt.asc (fun n hn => ?_)
  have hf := (find_iff h'.srt.asc).2 ⟨hn, rfl⟩
  rw [find_moveN h k] at hf
  split at hf
  · rename_i hi; rw [hi]; exact ⟨dT, k.hT⟩
  split at hf
  · rename_i hi; rw [hi]; exact ⟨dF, k.hF⟩
  split at hf
  · rename_i hi; rw [hi]; exact ⟨m, k.hm⟩
  split at hf
  · cases hq : find t.nodes n.ino with
    | none => rw [hq] at hf; cases hf
    | some y => exact ⟨y, rfl⟩
  · exact ⟨n, hf⟩
end
end Go.Proofs.YtnapockikkbkcaaGreat
namespace Go.Proofs.YtnapockikkbkcaaGreat
open Go Go.Abs
theorem doneN_cookie {t : Tree} {dep : Int → Nat} (h : GInv t dep 0) (s : Step) : (doneN t s).1.cookie ≤ t.cookie + 1 := by
  have hc := h.cookie
  have hw : t.cookie < 1099511627776 → w64 (t.cookie + 1) = t.cookie + 1 := fun hl => wrap_small (by omega) (by omega)
  unfold doneN
  split
  · unfold addN
    split
    · simp only; omega
    split
    · simp only; omega
    · rename_i he
      split
      · simp only; omega
      · obtain ⟨_, _, _, _, _, _, _, d7⟩ := enter_ok (by simpa using he)
        show w64 (t.cookie + 1) ≤ t.cookie + 1
        rw [hw d7]; omega
  split
  · unfold lnN
    split
    · simp only; omega
    split
    · simp only; omega
    split
    · simp only; omega
    · rename_i he
      obtain ⟨_, _, _, _, _, _, _, d7⟩ := enter_ok (by simpa using he)
      show w64 (t.cookie + 1) ≤ t.cookie + 1
      rw [hw d7]; omega
  split
  · unfold unN
    split
    · simp only; omega
    split
    · simp only; omega
    · simp only; omega
  split
  · rcases mvN_cases h (inoAt t s.a) (nameOf s.n) (inoAt t s.b) (nameOf s.m) with ⟨c1, _⟩ | ⟨c1, _⟩ | ⟨_, _, _, _, k, _, _, c1⟩
    · rw [c1]; omega
    · rw [c1]; simp only; omega
    · rw [c1]
      simp only
      rw [moveN_cookie h k.cookie]; omega
  split
  · unfold putN
    split
    · simp only; omega
    split
    · simp only; omega
    split
    · simp only; omega
    · simp only; omega
  · unfold freeN
    split
    · simp only; omega
    split
    · simp only; omega
    split
    · simp only; omega
    · simp only; omega
theorem madeN_cookie (l : List Step) : (madeN l).cookie ≤ 1 + l.length := by
  have key : ∀ (l : List Step) (t : Tree), (∃ dep, GInv t dep 0) → (l.foldl (fun t s => (doneN t s).1) t).cookie ≤ t.cookie + l.length := by
    intro l
    induction l with
    | nil => intro t _; simp
    | cons s l ih =>
      rintro t ⟨dep, h⟩
      have h1 := ih _ (doneN_inv h s)
      have h2 := doneN_cookie h s
      simp only [List.foldl_cons, List.length_cons]
      omega
  have := key l newN ⟨_, newN_inv⟩
  simp only [madeN]
  have h1 : newN.cookie = 1 := rfl
  omega
theorem findE_ext : ∀ {a b : List Ent}, AscE a → AscE b → (∀ e, e ∈ a ↔ e ∈ b) → a = b
  | [], [], _, _, _ => rfl
  | [], y :: b, _, _, h => by have := (h y).2 List.mem_cons_self; cases this
  | x :: a, [], _, _, h => by have := (h x).1 List.mem_cons_self; cases this
  | x :: a, y :: b, ha, hb, h => by
    obtain ⟨a1, a2⟩ := List.pairwise_cons.1 ha
    obtain ⟨b1, b2⟩ := List.pairwise_cons.1 hb
    have hxy : x = y := by
      rcases List.mem_cons.1 ((h x).1 List.mem_cons_self) with h1 | h1
      · exact h1
      · rcases List.mem_cons.1 ((h y).2 List.mem_cons_self) with h2 | h2
        · exact h2.symm
        · have := strLt_asym (b1 x h1); rw [a1 y h2] at this; cases this
    subst hxy
    rw [findE_ext a2 b2 (fun m => ?_)]
    constructor
    · intro hm
      rcases List.mem_cons.1 ((h m).1 (List.mem_cons_of_mem _ hm)) with h1 | h1
      · subst h1; have := a1 m hm; rw [strLt_irrefl] at this; cases this
      · exact h1
    · intro hm
      rcases List.mem_cons.1 ((h m).2 (List.mem_cons_of_mem _ hm)) with h1 | h1
      · subst h1; have := b1 m hm; rw [strLt_irrefl] at this; cases this
      · exact h1
def bare (e : Ent) : Ent := ⟨e.name, e.ino, 0⟩
theorem bare_asc {l : List Ent} (h : AscE l) : AscE (l.map bare) := by
  unfold AscE
  rw [List.pairwise_map]
  exact h
theorem mem_bare {l : List Ent} {x : Ent} : x ∈ l.map bare ↔ ∃ e, e ∈ l ∧ bare e = x := List.mem_map
theorem bare_again {l : List Ent} (h : AscE l) {s : Bytes} {e : Ent} (he : findE l s = some e) (c : Int) : (insE (dropE l s) ⟨s, e.ino, c⟩).map bare = l.map bare := by
  have hd := dropE_asc h s
  have hn : findE (dropE l s) (Ent.mk s e.ino c).name = none := findE_dropE _ _
  obtain ⟨e1, e2⟩ := findE_mem he
  refine findE_ext (bare_asc (insE_asc hd hn)) (bare_asc h) (fun x => ?_)
  rw [mem_bare, mem_bare]
  constructor
  · rintro ⟨y, hy, rfl⟩
    rcases (mem_insE hd hn).1 hy with rfl | hy
    · exact ⟨e, e1, by simp [bare, e2]⟩
    · exact ⟨y, (mem_dropE.1 hy).1, rfl⟩
  · rintro ⟨y, hy, rfl⟩
    by_cases hys : y.name = s
    · have : y = e := by have := (findE_iff h).2 ⟨hy, hys⟩; rw [he] at this; injection this with this; exact this.symm
      subst this
      exact ⟨⟨s, y.ino, c⟩, (mem_insE hd hn).2 (.inl rfl), by simp [bare, hys]⟩
    · exact ⟨y, (mem_insE hd hn).2 (.inr (mem_dropE.2 ⟨hy, hys⟩)), rfl⟩
theorem drop_ins {l : List Ent} (h : AscE l) {e : Ent} (hf : findE l e.name = none) : dropE (insE l e) e.name = l := by
  have ha := insE_asc h hf
  refine findE_ext (dropE_asc ha _) h (fun x => ?_)
  rw [mem_dropE, mem_insE h hf]
  constructor
  · rintro ⟨rfl | h1, h2⟩
    · exact absurd rfl h2
    · exact h1
  · intro h1
    refine ⟨.inr h1, fun hh => ?_⟩
    rw [(findE_iff h).2 ⟨h1, hh⟩] at hf; cases hf
theorem dropE_self (l : List Ent) (s : Bytes) : dropE (dropE l s) s = dropE l s := dropE_none (findE_dropE l s)
structure Alike (p q : Node) : Prop where
  ino : p.ino = q.ino
  kind : p.kind = q.kind
  links : p.links = q.links
  up : p.up = q.up
  data : p.data = q.data
  ents : p.ents.map bare = q.ents.map bare
theorem Alike.refl (p : Node) : Alike p p := ⟨rfl, rfl, rfl, rfl, rfl, rfl⟩
theorem alike_rows : ∀ {a b : List Node}, Asc a → Asc b → (∀ i p, find a i = some p → ∃ q, find b i = some q ∧ Alike p q) → (∀ i q, find b i = some q → ∃ p, find a i = some p) → a.length = b.length ∧ ∀ (i : Nat) p, a[i]? = some p → ∃ q, b[i]? = some q ∧ Alike p q
  | [], [], _, _, _, _ => ⟨rfl, fun i p h => by simp at h⟩
  | [], y :: b, _, hb, _, h => by
    obtain ⟨p, hp⟩ := h y.ino y ((find_iff hb).2 ⟨List.mem_cons_self, rfl⟩)
    cases hp
  | x :: a, [], ha, _, h, _ => by
    obtain ⟨p, hp, _⟩ := h x.ino x ((find_iff ha).2 ⟨List.mem_cons_self, rfl⟩)
    cases hp
  | x :: a, y :: b, ha, hb, h, h' => by
    obtain ⟨a1, a2⟩ := List.pairwise_cons.1 ha
    obtain ⟨b1, b2⟩ := List.pairwise_cons.1 hb
    obtain ⟨q, hq, hal⟩ := h x.ino x ((find_iff ha).2 ⟨List.mem_cons_self, rfl⟩)
    obtain ⟨hq1, hq2⟩ := (find_iff hb).1 hq
    have hxy : y.ino = x.ino := by
      rcases List.mem_cons.1 hq1 with h1 | h1
      · rw [← h1]; exact hq2
      · obtain ⟨p, hp⟩ := h' y.ino y ((find_iff hb).2 ⟨List.mem_cons_self, rfl⟩)
        obtain ⟨hp1, hp2⟩ := (find_iff ha).1 hp
        rcases List.mem_cons.1 hp1 with h2 | h2
        · rw [← h2]; exact hp2.symm
        · have := b1 q h1; have := a1 p h2; omega
    have hqy : q = y := asc_unique hb hq1 List.mem_cons_self (by omega)
    subst hqy
    obtain ⟨r1, r2⟩ := alike_rows a2 b2 (fun i p hp => by
      obtain ⟨p1, p2⟩ := (find_iff a2).1 hp
      obtain ⟨q', hq', hal'⟩ := h i p ((find_iff ha).2 ⟨List.mem_cons_of_mem _ p1, p2⟩)
      obtain ⟨k1, k2⟩ := (find_iff hb).1 hq'
      rcases List.mem_cons.1 k1 with h1 | h1
      · subst h1; have := a1 p p1; omega
      · exact ⟨q', (find_iff b2).2 ⟨h1, k2⟩, hal'⟩) (fun i q' hq' => by
      obtain ⟨p1, p2⟩ := (find_iff b2).1 hq'
      obtain ⟨p, hp⟩ := h' i q' ((find_iff hb).2 ⟨List.mem_cons_of_mem _ p1, p2⟩)
      obtain ⟨k1, k2⟩ := (find_iff ha).1 hp
      rcases List.mem_cons.1 k1 with h1 | h1
      · subst h1; have := b1 q' p1; omega
      · exact ⟨p, (find_iff a2).2 ⟨h1, k2⟩⟩)
    refine ⟨by simp [r1], fun i p hp => ?_⟩
    cases i with
    | zero => simp at hp; subst hp; exact ⟨q, rfl, hal⟩
    | succ i => simpa using r2 i p (by simpa using hp)
theorem MvOk.run {t : Tree} {dep : Int → Nat} (h : GInv t dep 0) {f : Int} {s : Bytes} {to : Int} {nm : Bytes} {dF dT m : Node} {e : Ent} (k : MvOk t dep f s to nm dF dT m e) (hs : nameOk s = true) : mvN t f s to nm = (moveN t f s to nm e.ino (underN dT.ents nm), underN dT.ents nm, 0) := by
  have hl : lookN t.nodes f s = (e.ino, 0) := by rw [look_of k.hF k.kF hs, k.he]
  have hd : dirN t.nodes to = (dT, 0) := by simp [dirN, k.hT, k.kT]
  have hn : nodeN t.nodes e.ino = m := by simp [nodeN, k.hm]
  have hu := k.under_ne h
  have hw : w64 (((dep to : Nat) : Int) + 1) = ((dep to + 1 : Nat) : Int) := by
    have := k.deep
    rw [show (((dep to : Nat) : Int) + 1) = ((dep to + 1 : Nat) : Int) by omega]
    exact wrap_small (by omega) (by omega)
  have hloop : (m.kind == 2 && belowN t.nodes to e.ino) = false := by
    by_cases hk : m.kind = 2
    · rw [k.loop hk]; simp
    · have : (m.kind == 2) = false := by simpa using hk
      simp [this]
  have hclash : clashN t.nodes m.kind (underN dT.ents nm) = 0 := by
    cases hfr : findE dT.ents nm with
    | none => simp [underN, hfr, clashN, h.zero]
    | some e2 =>
      obtain ⟨_, y, q2, q3, q4, _, _⟩ := k.onto e2 hfr
      have hny : nodeN t.nodes e2.ino = y := by simp [nodeN, q2]
      simp only [underN, hfr, clashN, q2, Option.isSome_some, Bool.not_true, Bool.false_eq_true, ↓reduceIte, hny, q3, List.length_nil]
      rcases h.kind _ _ k.hm with hk | hk
      · have : ¬ y.kind = 2 := fun hy => by have := q4.2 hy; omega
        simp [hk, this]
      · simp [hk, q4.1 hk]
  have hmany : manyN t f to dT.ents m.kind (underN dT.ents nm) e.ino = false := by
    unfold manyN
    rw [h.depthN_eq k.hT k.kT, hw]
    have d1 : decide ((12 : Int) ≤ ((dep to : Nat) : Int)) = false := by have := k.deep; simp; omega
    have d2 : decide ((1099511627776 : Int) ≤ t.cookie) = false := by have := k.cookie; simp; omega
    have d3 : (m.kind == 2 && decide ((12 : Int) < highN t.nodes e.ino ((dep to + 1 : Nat) : Int))) = false := by
      by_cases hk : m.kind = 2
      · have := k.high hk
        have d4 : decide ((12 : Int) < highN t.nodes e.ino ((dep to + 1 : Nat) : Int)) = false := by rw [decide_eq_false_iff_not]; omega
        rw [d4]; simp
      · have : (m.kind == 2) = false := by simpa using hk
        simp [this]
    have d4 : ((underN dT.ents nm == 0 && to != f) && decide ((64 : Int) ≤ dT.ents.length)) = false := by
      have := h.few k.hT
      have d5 : decide ((64 : Int) ≤ dT.ents.length) = false := by rw [decide_eq_false_iff_not]; omega
      rw [d5]; simp
    rw [d1, d2, d3, d4]; rfl
  unfold mvN
  simp only [hl, hd, hn, k.hn, hloop, hclash, hmany, bne_self_eq_false, Bool.not_true, Bool.false_eq_true, ↓reduceIte]
  rw [if_neg (by simpa using hu)]
end Go.Proofs.YtnapockikkbkcaaGreat
namespace Go.Proofs.YtnapockikkbkcaaGreat
open Go Go.Abs
def Up (l : List Ent) : Prop := l.Pairwise fun a b => a.cookie < b.cookie
theorem insB_up (x : Ent) : ∀ (L R : List Ent), Up (L.reverse ++ R) → (∀ r, r ∈ R → x.cookie < r.cookie) → (∀ y, y ∈ L → y.cookie ≠ x.cookie) → Up (insB x L R)
  | [], R, h, h1, _ => by
    rw [insB]
    have h' : Up R := by simpa using h
    exact List.pairwise_cons.2 ⟨h1, h'⟩
  | y :: L, R, h, h1, h2 => by
    rw [insB]
    split
    · rename_i hlt
      refine insB_up x L (y :: R) ?_ ?_ (fun z hz => h2 z (List.mem_cons_of_mem _ hz))
      · simpa [List.reverse_cons, List.append_assoc] using h
      · intro r hr
        rcases List.mem_cons.1 hr with rfl | hr
        · simpa using hlt
        · exact h1 r hr
    · rename_i hlt
      have hyx : y.cookie < x.cookie := by
        have := h2 y List.mem_cons_self
        simp at hlt; omega
      unfold Up at h ⊢
      rw [List.pairwise_append] at h ⊢
      refine ⟨h.1, List.pairwise_cons.2 ⟨h1, h.2.1⟩, fun a ha b hb => ?_⟩
      rcases List.mem_cons.1 hb with rfl | hb
      · have hp := h.1
        rw [List.reverse_cons, List.pairwise_append] at hp
        rw [List.reverse_cons] at ha
        rcases List.mem_append.1 ha with ha | ha
        · have := hp.2.2 a ha y (by simp); omega
        · simp at ha; subst ha; exact hyx
      · exact h.2.2 a ha b hb
theorem isortGo_up : ∀ (l P : List Ent), Up P → (P ++ l).Pairwise (fun a b => a.cookie ≠ b.cookie) → Up (isortGo P l)
  | [], P, h, _ => h
  | x :: l, P, h, hd => by
    rw [isortGo]
    rw [List.pairwise_append] at hd
    obtain ⟨d1, d2, d3⟩ := hd
    obtain ⟨d4, d5⟩ := List.pairwise_cons.1 d2
    refine isortGo_up l _ (insB_up x P.reverse [] (by simpa using h) (fun r hr => by cases hr) (fun y hy => d3 y (by simpa using hy) x List.mem_cons_self)) ?_
    rw [List.pairwise_append]
    refine ⟨?_, d5, fun a ha b hb => ?_⟩
    · have := insB_up x P.reverse [] (by simpa using h) (fun r hr => by cases hr) (fun y hy => d3 y (by simpa using hy) x List.mem_cons_self)
      exact List.Pairwise.imp (fun hab => by omega) this
    · rcases (mem_insB x a P.reverse []).1 ha with rfl | ha | ha
      · exact d4 b hb
      · exact d3 a (by simpa using ha) b (List.mem_cons_of_mem _ hb)
      · cases ha
theorem isort_up {l : List Ent} (h : l.Pairwise fun a b => a.cookie ≠ b.cookie) : Up (isort l) := by
  cases l with
  | nil => exact List.Pairwise.nil
  | cons x l => exact isortGo_up l [x] (List.pairwise_singleton _ _) h
def Kd (ns ns' : List Node) : Prop := ∀ i n', find ns' i = some n' → ∃ n, find ns i = some n ∧ n.kind = n'.kind
theorem Kd.refl (ns : List Node) : Kd ns ns := fun _ n h => ⟨n, h, rfl⟩
theorem Kd.trans {a b c : List Node} (h : Kd a b) (h' : Kd b c) : Kd a c := fun i n hn => by
  obtain ⟨m, h1, h2⟩ := h' i n hn
  obtain ⟨k, h3, h4⟩ := h i m h1
  exact ⟨k, h3, by omega⟩
theorem Kd.with {ns : List Node} (h : Asc ns) {n o : Node} (ho : find ns n.ino = some o) (hk : o.kind = n.kind) : Kd ns (withN ns n) := fun i m hm => by
  rw [find_withN h] at hm
  split at hm
  · rename_i hi
    injection hm with hm; subst hm
    exact ⟨o, by rw [hi]; exact ho, hk⟩
  · exact ⟨m, hm, rfl⟩
theorem Kd.without {ns : List Node} (h : Asc ns) (k : Int) : Kd ns (withoutN ns k) := fun i m hm => by
  rw [find_withoutN h] at hm
  split at hm
  · cases hm
  · exact ⟨m, hm, rfl⟩
theorem Kd.left {ns : List Node} (h : Asc ns) {d : Int} {n : Node} (hd : find ns d = some n) (s : Bytes) : Kd ns (leftN ns d s) := by
  have : leftN ns d s = withN ns { n with ents := dropE n.ents s } := by simp [leftN, hd]
  rw [this]
  exact Kd.with h (o := n) (by simp only [(find_mem hd).2]; exact hd) rfl
theorem Kd.unnamed {ns : List Node} (h : Asc ns) {k : Int} {n : Node} (hk : find ns k = some n) : Kd ns (unnamedN ns k) := by
  unfold unnamedN
  simp only [nodeN, hk, Option.getD_some]
  split
  · exact Kd.without h k
  · exact Kd.with h (o := n) (by simp only [(find_mem hk).2]; exact hk) rfl
theorem Kd.entered {t : Tree} (h : Asc t.nodes) {d : Int} {n : Node} (hd : find t.nodes d = some n) (s : Bytes) (x : Int) : Kd t.nodes (enteredN t d s x).nodes := by
  unfold enteredN
  simp only [hd, Option.getD_some]
  exact Kd.with h (o := n) (by simp only [(find_mem hd).2]; exact hd) rfl
theorem doneN_kinds {t : Tree} {dep : Int → Nat} (h : GInv t dep 0) (s : Step) : t.next ≤ (doneN t s).1.next ∧ ∀ i n', i < t.next → find (doneN t s).1.nodes i = some n' → ∃ n, find t.nodes i = some n ∧ n.kind = n'.kind := by
  have triv : t.next ≤ t.next ∧ ∀ i n', i < t.next → find t.nodes i = some n' → ∃ n, find t.nodes i = some n ∧ n.kind = n'.kind := ⟨Int.le_refl _, fun _ n' _ hn => ⟨n', hn, rfl⟩⟩
  have asc := h.srt.asc
  unfold doneN
  split
  · unfold addN
    split
    · exact triv
    · rename_i hk
      split
      · exact triv
      · rename_i he
        split
        · exact triv
        · rename_i hb
          obtain ⟨d, d1, _⟩ := enter_ok (by simpa using he)
          simp only [Bool.or_eq_true, decide_eq_true_eq, not_or] at hb
          have hcw := h.cw (show t.next < 1099511627776 by omega)
          refine ⟨?_, fun i n' hi hn => ?_⟩
          · show t.next ≤ w64 (t.next + 1)
            rw [hcw]; omega
          · have a1 := withN_asc asc ⟨t.next, (((s.m % 2 : Nat) : Int) + 1), 1, [], [], if ((((s.m % 2 : Nat) : Int) + 1) == 2) = true then inoAt t s.a else 0⟩
            have f1 := find_withN asc ⟨t.next, (((s.m % 2 : Nat) : Int) + 1), 1, [], [], if ((((s.m % 2 : Nat) : Int) + 1) == 2) = true then inoAt t s.a else 0⟩
            have fd : find (withN t.nodes ⟨t.next, (((s.m % 2 : Nat) : Int) + 1), 1, [], [], if ((((s.m % 2 : Nat) : Int) + 1) == 2) = true then inoAt t s.a else 0⟩) (inoAt t s.a) = some d := by
              rw [f1]; simp only; rw [if_neg (by have := (h.num _ _ d1).2; omega)]; exact d1
            obtain ⟨n, n1, n2⟩ := Kd.entered (t := ⟨withN t.nodes ⟨t.next, (((s.m % 2 : Nat) : Int) + 1), 1, [], [], if ((((s.m % 2 : Nat) : Int) + 1) == 2) = true then inoAt t s.a else 0⟩, w64 (t.next + 1), t.cookie⟩) a1 fd (nameOf s.n) t.next i n' hn
            simp only at n1
            rw [f1] at n1
            simp only at n1
            rw [if_neg (by omega)] at n1
            exact ⟨n, n1, n2⟩
  split
  · unfold lnN
    split
    · exact triv
    · rename_i hf
      split
      · exact triv
      · split
        · exact triv
        · rename_i he
          obtain ⟨d, d1, _⟩ := enter_ok (by simpa using he)
          refine ⟨Int.le_refl _, fun i n' _ hn => ?_⟩
          cases hx : find t.nodes (inoAt t s.b) with
          | none => simp [hx] at hf
          | some m =>
            simp only [nodeN, hx, Option.getD_some] at hn
            have k1 := Kd.with asc (n := { m with links := w64 (m.links + 1) }) (o := m) (by simp only [(find_mem hx).2]; exact hx) rfl
            have a1 := withN_asc asc { m with links := w64 (m.links + 1) }
            obtain ⟨dd, hdd⟩ : ∃ dd, find (withN t.nodes { m with links := w64 (m.links + 1) }) (inoAt t s.a) = some dd := by
              rw [find_withN asc]; split <;> simp_all
            exact (k1.trans (Kd.entered (t := ⟨withN t.nodes { m with links := w64 (m.links + 1) }, t.next, t.cookie⟩) a1 hdd (nameOf s.n) (inoAt t s.b))) i n' hn
  split
  · unfold unN
    split
    · exact triv
    · rename_i hl
      split
      · exact triv
      · obtain ⟨d, e, d1, _, _, d4, d5⟩ := look_ok (by simpa using hl)
        refine ⟨Int.le_refl _, fun i n' _ hn => ?_⟩
        rw [d5] at hn
        obtain ⟨_, _, _, _, m, hm, _⟩ := h.ent _ _ e d1 (findE_mem d4).1
        have hm' : find (leftN t.nodes (inoAt t s.a) (nameOf s.n)) e.ino = some m := by
          rw [find_leftN asc d1, if_neg (h.ent_ne d1 (findE_mem d4).1)]; exact hm
        exact ((Kd.left asc d1 (nameOf s.n)).trans (Kd.unnamed (leftN_asc asc _ _) hm')) i n' hn
  split
  · rcases mvN_cases h (inoAt t s.a) (nameOf s.n) (inoAt t s.b) (nameOf s.m) with ⟨c1, _⟩ | ⟨c1, _⟩ | ⟨dF, dT, m, e, k, _, _, c1⟩
    · rw [c1]; exact triv
    · rw [c1]; exact triv
    · rw [c1]
      refine ⟨Int.le_refl _, fun i n' _ hn => ?_⟩
      simp only at hn
      rw [find_moveN h k i] at hn
      split at hn
      · rename_i hi; injection hn with hn; subst hn; exact ⟨dT, by rw [hi]; exact k.hT, rfl⟩
      split at hn
      · rename_i hi; injection hn with hn; subst hn; exact ⟨dF, by rw [hi]; exact k.hF, rfl⟩
      split at hn
      · rename_i hi; injection hn with hn; subst hn
        refine ⟨m, by rw [hi]; exact k.hm, ?_⟩
        split <;> rfl
      split at hn
      · cases hq : find t.nodes i with
        | none => rw [hq] at hn; cases hn
        | some y =>
          rw [hq] at hn
          simp only [goneN, lessN] at hn
          split at hn
          · cases hn
          · injection hn with hn; subst hn; exact ⟨y, rfl, rfl⟩
      · exact ⟨n', hn, rfl⟩
  split
  · unfold putN
    split
    · exact triv
    · rename_i hf
      split
      · exact triv
      · split
        · exact triv
        · refine ⟨Int.le_refl _, fun i n' _ hn => ?_⟩
          cases hx : find t.nodes (inoAt t s.a) with
          | none => simp [hx] at hf
          | some m =>
            simp only [nodeN, hx, Option.getD_some] at hn
            exact (Kd.with asc (n := { m with data := s.data }) (o := m) (by simp only [(find_mem hx).2]; exact hx) rfl) i n' hn
  · unfold freeN
    split
    · exact triv
    · split
      · exact triv
      · split
        · exact triv
        · exact ⟨Int.le_refl _, fun i n' _ hn => Kd.without asc _ i n' hn⟩
end Go.Proofs.YtnapockikkbkcaaGreat
namespace Go.Proofs.YtnapockikkbkcaaGreat
open Go Go.Abs
def stayN (now stays : List Ent) : List Ent := stays.flatMap fun s => (now.filter fun e => decide (e = s)).map fun _ => s
theorem mem_stayN {now stays : List Ent} {x : Ent} (h : x ∈ stayN now stays) : x ∈ stays ∧ x ∈ now := by
  obtain ⟨s, h1, h2⟩ := List.mem_flatMap.1 h
  obtain ⟨e, h3, rfl⟩ := List.mem_map.1 h2
  obtain ⟨h4, h5⟩ := List.mem_filter.1 h3
  have : e = s := by simpa using h5
  subst this
  exact ⟨h1, h4⟩
theorem filter_one {now : List Ent} (h : AscE now) (s : Ent) : (now.filter fun e => decide (e = s)).length ≤ 1 := by
  induction now with
  | nil => simp
  | cons x l ih =>
    obtain ⟨h1, h2⟩ := List.pairwise_cons.1 h
    rw [List.filter_cons]
    split
    · rename_i hx
      have hx' : x = s := by simpa using hx
      have : l.filter (fun e => decide (e = s)) = [] := by
        rw [List.filter_eq_nil_iff]
        intro e he hes
        have hes' : e = s := by simpa using hes
        have := h1 e he
        rw [hes', hx', strLt_irrefl] at this; cases this
      rw [this]; simp
    · exact ih h2
theorem stayN_len {now : List Ent} (h : AscE now) : ∀ (stays : List Ent), (stayN now stays).length ≤ stays.length
  | [] => Nat.le_refl _
  | s :: r => by
    have h1 := stayN_len h r
    have h2 := filter_one h s
    unfold stayN at h1 ⊢
    rw [List.flatMap_cons, List.length_append, List.length_map]
    simp only [List.length_cons]
    omega
structure LInv (d : Int) (t : Tree) (z : Int) (got stays : List Ent) (i c : Nat) : Prop where
  inv : ∃ dep, GInv t dep 0
  kind : ∀ n, find t.nodes d = some n → n.kind = 2
  num : d < t.next
  gup : Up got
  glt : ∀ e, e ∈ got → e.cookie < z
  here : ∀ e, e ∈ stays → ∃ n, find t.nodes d = some n ∧ e ∈ n.ents
  seen : ∀ e, e ∈ stays → e.cookie < z → e ∈ got
  few : stays.length ≤ 5
  pos : (i : Int) ≤ z
  top : z ≤ t.cookie
  ck : t.cookie ≤ c
  gl : got.length ≤ 3 * i
section
variable {d : Int} {t : Tree} {z : Int} {got stays : List Ent} {i c many : Nat}
theorem LInv.err (h : LInv d t z got stays i c) (he : (listN t.nodes d z many).2.2 ≠ 0) : (listN t.nodes d z many).2.2 = 70 := by
  unfold listN at he ⊢
  split at he
  · rename_i h0
    rw [if_pos h0]
    simp only
    unfold dirN
    cases hf : find t.nodes d with
    | none => rfl
    | some n =>
      exfalso
      apply h0
      unfold dirN
      simp [hf, h.kind n hf]
  · split at he
    · exact absurd rfl he
    · exact absurd rfl he
theorem LInv.piece (h : LInv d t z got stays i c) (he : (listN t.nodes d z many).2.2 = 0) (hm : 1 ≤ many) (hm3 : many ≤ 3) :
    ∃ n p, find t.nodes d = some n ∧ p = isort (keepC z n.ents) ∧ Up p ∧ (∀ e, e ∈ p ↔ e ∈ n.ents ∧ z ≤ e.cookie) ∧
      ((p.length ≤ many ∧ listN t.nodes d z many = (p, 0, 0)) ∨ (many < p.length ∧ ∃ y, p[many - 1]? = some y ∧ listN t.nodes d z many = (p.take many, y.cookie + 1, 0) ∧ z ≤ y.cookie ∧ y.cookie < t.cookie ∧ ∀ e, e ∈ p → e.cookie ≤ y.cookie → e ∈ p.take many)) := by
  obtain ⟨dep, hi⟩ := h.inv
  by_cases h0 : (dirN t.nodes d).2 = 0
  · obtain ⟨n, hf, hk, hdn⟩ := dir_ok h0
    have hcook : (keepC z n.ents).Pairwise fun a b => a.cookie ≠ b.cookie := List.Pairwise.filter _ (hi.cook _ _ hf)
    have hup := isort_up hcook
    have hmem : ∀ e, e ∈ isort (keepC z n.ents) ↔ e ∈ n.ents ∧ z ≤ e.cookie := by
      intro e
      rw [mem_isort, keepC, List.mem_filter]
      simp
    refine ⟨n, _, hf, rfl, hup, hmem, ?_⟩
    have hl : listN t.nodes d z many = if (isort (keepC z n.ents)).length ≤ many then (isort (keepC z n.ents), 0, 0) else ((isort (keepC z n.ents)).take many, (((isort (keepC z n.ents))[many - 1]?).getD zEnt).cookie + 1, 0) := by
      simp only [listN, hdn, ne_eq, not_true_eq_false, ↓reduceIte]
    rw [hl]
    generalize isort (keepC z n.ents) = p at *
    by_cases hle : p.length ≤ many
    · exact .inl ⟨hle, by rw [if_pos hle]⟩
    · have hlt : many - 1 < p.length := by omega
      refine .inr ⟨by omega, p[many - 1], List.getElem?_eq_getElem hlt, ?_, ?_, ?_, ?_⟩
      · rw [if_neg hle, List.getElem?_eq_getElem hlt]; rfl
      · exact ((hmem _).1 (List.getElem_mem hlt)).2
      · exact (hi.ent _ _ _ hf ((hmem _).1 (List.getElem_mem hlt)).1).2.1
      · intro e hep hey
        obtain ⟨k, hk⟩ := List.getElem?_of_mem hep
        have hkl := (List.getElem?_eq_some_iff.1 hk).1
        have hke : p[k] = e := by rw [List.getElem?_eq_getElem hkl] at hk; injection hk
        rcases Nat.lt_or_ge k many with hkm | hkm
        · rw [← hke]
          exact List.mem_take_iff_getElem.2 ⟨k, by omega, rfl⟩
        · have := List.pairwise_iff_getElem.1 hup (many - 1) k hlt hkl (by omega)
          rw [hke] at this; omega
  · unfold listN at he
    rw [if_pos h0] at he
    exact absurd he h0
theorem LInv.last (h : LInv d t z got stays i c) {n : Node} {p : List Ent} (hf : find t.nodes d = some n) (hup : Up p) (hmem : ∀ e, e ∈ p ↔ e ∈ n.ents ∧ z ≤ e.cookie) : Up (got ++ p) ∧ ∀ e, e ∈ stays → e ∈ got ++ p := by
  refine ⟨?_, fun e he => ?_⟩
  · unfold Up at *
    rw [List.pairwise_append]
    refine ⟨h.gup, hup, fun a ha b hb => ?_⟩
    have h1 := h.glt a ha
    have h2 := ((hmem b).1 hb).2
    omega
  · obtain ⟨m, hm, hem⟩ := h.here e he
    rw [hf] at hm; injection hm with hm; subst hm
    by_cases hz : e.cookie < z
    · exact List.mem_append_left _ (h.seen e he hz)
    · exact List.mem_append_right _ ((hmem e).2 ⟨hem, by omega⟩)
theorem LInv.next (h : LInv d t z got stays i c) {n : Node} {p P : List Ent} {y : Ent} (hP : P = p.take many) (hf : find t.nodes d = some n) (hup : Up p) (hmem : ∀ e, e ∈ p ↔ e ∈ n.ents ∧ z ≤ e.cookie) (hm3 : many ≤ 3) (hy : z ≤ y.cookie) (hyc : y.cookie < t.cookie) (hyt : ∀ e, e ∈ p → e.cookie ≤ y.cookie → e ∈ P) (hyl : ∀ e, e ∈ P → e.cookie ≤ y.cookie)
    {u : Tree} {c' : Nat} (hu : ∃ dep, GInv u dep 0) (hk : t.next ≤ u.next ∧ ∀ j n', j < t.next → find u.nodes j = some n' → ∃ n, find t.nodes j = some n ∧ n.kind = n'.kind) (hck : t.cookie ≤ u.cookie) (hck' : u.cookie ≤ c') :
    LInv d u (y.cookie + 1) (got ++ P) (stayN (nodeN u.nodes d).ents stays) (i + 1) c' := by
  subst hP
  obtain ⟨depu, hui⟩ := hu
  refine ⟨⟨depu, hui⟩, ?_, ?_, ?_, ?_, ?_, ?_, ?_, ?_, by omega, hck', ?_⟩
  · intro n' hn'
    obtain ⟨m, hm, hkm⟩ := hk.2 d n' h.num hn'
    rw [← hkm]; exact h.kind m hm
  · have := h.num; omega
  · unfold Up
    rw [List.pairwise_append]
    refine ⟨h.gup, List.Pairwise.sublist (List.take_sublist _ _) hup, fun a ha b hb => ?_⟩
    have h1 := h.glt a ha
    have h2 := ((hmem b).1 (List.mem_of_mem_take hb)).2
    omega
  · intro e he
    rcases List.mem_append.1 he with he | he
    · have := h.glt e he; omega
    · have := hyl e he; omega
  · intro e he
    have h2 := (mem_stayN he).2
    cases hd : find u.nodes d with
    | none => simp [nodeN, hd, Node.zero] at h2
    | some m => simp only [nodeN, hd, Option.getD_some] at h2; exact ⟨m, rfl, h2⟩
  · intro e he hlt
    have h1 := (mem_stayN he).1
    by_cases hz : e.cookie < z
    · exact List.mem_append_left _ (h.seen e h1 hz)
    · obtain ⟨m, hm, hem⟩ := h.here e h1
      rw [hf] at hm; injection hm with hm; subst hm
      exact List.mem_append_right _ (hyt e ((hmem e).2 ⟨hem, by omega⟩) (by omega))
  · have hE : AscE (nodeN u.nodes d).ents := hui.srt.node d
    exact Nat.le_trans (stayN_len hE stays) h.few
  · have := h.pos; omega
  · have h1 := h.gl
    have h2 : (p.take many).length ≤ many := List.length_take_le _ _
    rw [List.length_append]; omega
theorem up_take_le {p : List Ent} {y : Ent} (hup : Up p) (hm : 1 ≤ many) (hy : p[many - 1]? = some y) : ∀ e, e ∈ p.take many → e.cookie ≤ y.cookie := by
  intro e he
  obtain ⟨k, hk, hke⟩ := List.mem_take_iff_getElem.1 he
  have hyl := (List.getElem?_eq_some_iff.1 hy).1
  have hye : p[many - 1] = y := by rw [List.getElem?_eq_getElem hyl] at hy; injection hy
  rcases Nat.lt_or_ge k (many - 1) with hlt | hge
  · have := List.pairwise_iff_getElem.1 hup k (many - 1) (by omega) hyl hlt
    rw [hke, hye] at this; omega
  · have hkk : k = many - 1 := by omega
    subst hkk
    rw [← hke, hye]; omega
theorem up_count {l : List Ent} (h : Up l) {e : Ent} (he : e ∈ l) : l.countP (fun x => decide (x = e)) = 1 := by
  induction l with
  | nil => cases he
  | cons x l ih =>
    obtain ⟨h1, h2⟩ := List.pairwise_cons.1 h
    rw [List.countP_cons]
    rcases List.mem_cons.1 he with rfl | he
    · have : l.countP (fun x => decide (x = e)) = 0 := by
        rw [List.countP_eq_zero]
        intro y hy hye
        have hye' : y = e := by simpa using hye
        have := h1 y hy
        rw [hye'] at this; omega
      rw [this]; simp
    · have hne : ¬ x = e := fun hh => by have := h1 e he; rw [hh] at this; omega
      rw [ih h2 he]; simp [hne]
end
end Go.Proofs.YtnapockikkbkcaaGreat
set_option linter.defProp false
namespace Go.Proofs.YtnapockikkbkcaaGreat
open Go Go.Abs
def q5_0 : ACode :=
 (.seq (.region [
 ob 40 (.mv (.tmp 9)),
 ob 8 (.mv (.tmp 40))] false [8]) (.ret))
def q5_1 : ACode :=
 (.seq (.region [
 ob 59 (.mv (.tmp 9)),
 ob 8 (.mv (.tmp 59))] false [8]) (.ret))
def q5_2 : ACode :=
 (.seq (.region [
 ob 82 (.mv (.tmp 9)),
 ob 83 (.mv (.tmp 82)),
 og 84 83 true (.mv (.tmp 20)),
 og 85 83 true (.bin .eql (.tmp 84) (.cst (.int .i64 70))),
 ob 86 (.pick (.tmp 83) (.tmp 85) (.cst (.bool false))),
 ob 8 (.mv (.tmp 86))] false [8]) (.ret))
def q5_3 : ACode :=
 (.seq (.region [
 ob 8 (.mv (.cst (.bool false)))] false [8]) (.ret))
def q5_4 : ACode :=
 (.region [
 ob 114 (.loadA 3 (.tmp 21)),
 ox (.store 3 (.tmp 10) (.tmp 114))] false [2, 3, 9, 10, 11, 14, 15, 16, 17])
def q5_5 : ACode :=
 (.seq (.region [
 ob 105 (.loadA 3 (.tmp 10)),
 ob 106 (.mv (.tmp 3)),
 ob 107 (.mv (.tmp 17)),
 ob 108 (.iaddr 6 (.tmp 106) (.tmp 107)),
 ob 109 (.loadA 6 (.tmp 108)),
 ⟨(some 110), .call 25 [(.tmp 105), (.tmp 109)], none, false, true, []⟩,
 ob 104 (.mv (.tmp 110)),
 ob 111 (.extract (.tmp 104) 0),
 ob 112 (.extract (.tmp 104) 1),
 ob 113 (.extract (.tmp 104) 2),
 ⟨(some 21), .box0 [(.slice .c0 []), (.int .i64 0), (.int .i64 0)], none, true, false, []⟩,
 ox (.store 3 (.tmp 21) (.tmp 111)),
 ob 22 (.mv (.tmp 112)),
 ob 23 (.mv (.tmp 113))] true [2, 3, 9, 10, 11, 14, 15, 16, 17, 21]) q5_4)
def q5_6 : ACode :=
 (.region [
 ob 144 (.mv (.tmp 26)),
 ob 145 (.mv (.tmp 14)),
 ob 146 (.mv (.tmp 27)),
 ob 147 (.iaddr 3 (.tmp 145) (.tmp 146)),
 ob 148 (.loadA 3 (.tmp 147)),
 ob 149 (.lits 3 [(.tmp 148)]),
 ob 150 (.append 3 32 (.tmp 144) (.tmp 149)),
 ob 26 (.mv (.tmp 150))] false [2, 3, 9, 10, 11, 14, 15, 16, 17, 24, 26, 27, 28])
def q5_7 : ACode :=
 (.region [
 ob 132 (.mv (.tmp 28)),
 ob 133 (.bin .add (.tmp 132) (.cst (.int .i64 1))),
 ob 28 (.mv (.tmp 133))] false [2, 3, 9, 10, 11, 14, 15, 16, 17, 24, 26, 27, 28])
def q5_8 : ACode :=
 (.seq (.block 5 (.seq (.region [
 ob 134 (.faddr 4 (.tmp 24)),
 ob 135 (.load1 (.tmp 134)),
 ob 136 (.mv (.tmp 28)),
 ob 137 (.iaddr 3 (.tmp 135) (.tmp 136)),
 ob 138 (.loadA 3 (.tmp 137)),
 ob 139 (.mv (.tmp 14)),
 ob 140 (.mv (.tmp 27)),
 ob 141 (.iaddr 3 (.tmp 139) (.tmp 140)),
 ob 142 (.loadA 3 (.tmp 141)),
 ob 143 (.eqA [.s, .i, .i] false (.tmp 138) (.tmp 142))] true [2, 3, 9, 10, 11, 14, 15, 16, 17, 24, 26, 27, 28, 143]) (.cond (.tmp 143) q5_6 (.skip)))) q5_7)
def lb5_0 : ACode :=
 (.seq (.seq (.region [
 ob 127 (.mv (.tmp 28)),
 ob 128 (.faddr 4 (.tmp 24)),
 ob 129 (.load1 (.tmp 128)),
 ob 130 (.lenV (.tmp 129)),
 ob 131 (.bin .lss (.tmp 127) (.tmp 130))] false [2, 3, 9, 10, 11, 14, 15, 16, 17, 24, 26, 27, 28, 131]) (.cond (.tmp 131) (.skip) (.exit 4))) q5_8)
def q5_9 : ACode :=
 (.block 4 (.loop [2, 3, 9, 10, 11, 14, 15, 16, 17, 24, 26, 27, 28] lb5_0))
def q5_10 : ACode :=
 (.region [
 ob 125 (.mv (.tmp 27)),
 ob 126 (.bin .add (.tmp 125) (.cst (.int .i64 1))),
 ob 27 (.mv (.tmp 126))] false [2, 3, 9, 10, 11, 14, 15, 16, 17, 24, 26, 27])
def q5_11 : ACode :=
 (.seq (.block 3 (.seq (.region [
 ob 28 (.mv (.cst (.int .i64 0)))] false [2, 3, 9, 10, 11, 14, 15, 16, 17, 24, 26, 27, 28]) q5_9)) q5_10)
def lb5_1 : ACode :=
 (.seq (.seq (.region [
 ob 121 (.mv (.tmp 27)),
 ob 122 (.mv (.tmp 14)),
 ob 123 (.lenV (.tmp 122)),
 ob 124 (.bin .lss (.tmp 121) (.tmp 123))] false [2, 3, 9, 10, 11, 14, 15, 16, 17, 24, 26, 27, 124]) (.cond (.tmp 124) (.skip) (.exit 2))) q5_11)
def q5_12 : ACode :=
 (.block 2 (.loop [2, 3, 9, 10, 11, 14, 15, 16, 17, 24, 26, 27] lb5_1))
def q5_13 : ACode :=
 (.region [
 ob 151 (.mv (.tmp 26)),
 ob 14 (.mv (.tmp 151))] false [2, 3, 9, 10, 11, 14, 15, 16, 17])
def q5_14 : ACode :=
 (.seq (.seq (.region [
 ob 27 (.mv (.cst (.int .i64 0)))] false [2, 3, 9, 10, 11, 14, 15, 16, 17, 24, 26, 27]) q5_12) q5_13)
def q5_15 : ACode :=
 (.seq (.region [
 ob 26 (.own 3 (.cst (.slice .c0 [])))] false [2, 3, 9, 10, 11, 14, 15, 16, 17, 24, 26]) q5_14)
def q5_16 : ACode :=
 (.seq (.region [
 ob 116 (.loadA 3 (.tmp 10)),
 ob 117 (.mv (.tmp 11)),
 ob 118 (.call 19 [(.tmp 116), (.tmp 117)]),
 ob 115 (.mv (.tmp 118)),
 ob 119 (.extract (.tmp 115) 0),
 ob 120 (.extract (.tmp 115) 1),
 ob 24 (.box0 [(.int .i64 0), (.int .i64 0), (.int .i64 0), (.slice .c0 []), (.slice .c0 []), (.int .i64 0)]),
 ox (.store 6 (.tmp 24) (.tmp 119)),
 ob 25 (.mv (.tmp 120))] false [2, 3, 9, 10, 11, 14, 15, 16, 17, 24]) q5_15)
def q5_17 : ACode :=
 (.seq (.seq (.region [
 ob 100 (.mv (.tmp 17)),
 ob 101 (.mv (.tmp 3)),
 ob 102 (.lenV (.tmp 101)),
 ob 103 (.bin .lss (.tmp 100) (.tmp 102))] false [2, 3, 9, 10, 11, 14, 15, 16, 17, 103]) (.cond (.tmp 103) q5_5 (.skip))) q5_16)
def q5_18 : ACode :=
 (.seq (.region [
 ob 99 (.mv (.tmp 19)),
 ob 16 (.mv (.tmp 99))] false [2, 3, 9, 10, 11, 14, 15, 16, 17]) q5_17)
def q5_19 : ACode :=
 (.seq (.seq (.region [
 ob 92 (.mv (.tmp 19)),
 ob 93 (.mv (.tmp 16)),
 ob 94 (.bin .leq (.tmp 92) (.tmp 93)),
 ob 95 (.mv (.tmp 94)),
 og 96 95 false (.mv (.tmp 17)),
 og 97 95 false (.bin .eql (.tmp 96) (.cst (.int .i64 199))),
 ob 98 (.pick (.tmp 95) (.cst (.bool true)) (.tmp 97))] false [2, 3, 9, 10, 11, 14, 15, 17, 19, 98]) (.cond (.tmp 98) q5_3 (.skip))) q5_18)
def q5_20 : ACode :=
 (.seq (.seq (.region [
 ob 90 (.mv (.tmp 19)),
 ob 91 (.bin .eql (.tmp 90) (.cst (.int .i64 0)))] false [2, 3, 9, 10, 11, 14, 15, 16, 17, 19, 91]) (.cond (.tmp 91) (.exit 0) (.skip))) q5_19)
def q5_21 : ACode :=
 (.seq (.region [
 ob 87 (.mv (.tmp 15)),
 ob 88 (.mv (.tmp 18)),
 ob 89 (.append 3 32 (.tmp 87) (.tmp 88)),
 ob 15 (.mv (.tmp 89))] false [2, 3, 9, 10, 11, 14, 15, 16, 17, 19]) q5_20)
def q5_22 : ACode :=
 (.seq (.seq (.region [
 ob 80 (.mv (.tmp 20)),
 ob 81 (.bin .neq (.tmp 80) (.cst (.int .i64 0)))] false [2, 3, 9, 10, 11, 14, 15, 16, 17, 18, 19, 20, 81]) (.cond (.tmp 81) q5_2 (.skip))) q5_21)
def q5_23 : ACode :=
 (.region [
 ob 66 (.mv (.tmp 17)),
 ob 67 (.bin .add (.tmp 66) (.cst (.int .i64 1))),
 ob 17 (.mv (.tmp 67))] false [2, 3, 9, 10, 11, 14, 15, 16, 17])
def q5_24 : ACode :=
 (.seq (.block 1 (.seq (.region [
 ob 69 (.loadA 3 (.tmp 10)),
 ob 70 (.mv (.tmp 11)),
 ob 71 (.mv (.tmp 16)),
 ob 72 (.mv (.tmp 2)),
 ob 73 (.conv .i64 (.tmp 72)),
 ob 74 (.bin .rem (.tmp 73) (.cst (.int .i64 3))),
 ob 75 (.bin .add (.tmp 74) (.cst (.int .i64 1))),
 ob 76 (.call 24 [(.tmp 69), (.tmp 70), (.tmp 71), (.tmp 75)]),
 ob 68 (.mv (.tmp 76)),
 ob 77 (.extract (.tmp 68) 0),
 ob 78 (.extract (.tmp 68) 1),
 ob 79 (.extract (.tmp 68) 2),
 ob 18 (.mv (.tmp 77)),
 ob 19 (.mv (.tmp 78)),
 ob 20 (.mv (.tmp 79))] false [2, 3, 9, 10, 11, 14, 15, 16, 17, 18, 19, 20]) q5_22)) q5_23)
def lb5_2 : ACode :=
 (.seq (.seq (.region [
 ob 64 (.mv (.tmp 17)),
 ob 65 (.bin .lss (.tmp 64) (.cst (.int .i64 200)))] false [2, 3, 9, 10, 11, 14, 15, 16, 17, 65]) (.cond (.tmp 65) (.skip) (.exit 0))) q5_24)
def q5_25 : ACode :=
 (.block 0 (.loop [2, 3, 9, 10, 11, 14, 15, 16, 17] lb5_2))
def q5_26 : ACode :=
 (.seq (.region [
 ob 8 (.mv (.cst (.bool false)))] false [8]) (.ret))
def q5_27 : ACode :=
 (.region [
 ob 156 (.mv (.tmp 29)),
 ob 157 (.bin .add (.tmp 156) (.cst (.int .i64 1))),
 ob 29 (.mv (.tmp 157))] false [9, 14, 15, 29])
def q5_28 : ACode :=
 (.seq (.block 7 (.seq (.region [
 ob 158 (.mv (.tmp 29)),
 ob 159 (.bin .gtr (.tmp 158) (.cst (.int .i64 0))),
 ob 160 (.mv (.tmp 159)),
 og 161 160 true (.mv (.tmp 15)),
 og 162 160 true (.mv (.tmp 29)),
 og 163 160 true (.iaddr 3 (.tmp 161) (.tmp 162)),
 og 164 160 true (.faddr 2 (.tmp 163)),
 og 165 160 true (.load1 (.tmp 164)),
 og 166 160 true (.mv (.tmp 15)),
 og 167 160 true (.mv (.tmp 29)),
 og 168 160 true (.bin .sub (.tmp 167) (.cst (.int .i64 1))),
 og 169 160 true (.iaddr 3 (.tmp 166) (.tmp 168)),
 og 170 160 true (.faddr 2 (.tmp 169)),
 og 171 160 true (.load1 (.tmp 170)),
 og 172 160 true (.bin .leq (.tmp 165) (.tmp 171)),
 ob 173 (.pick (.tmp 160) (.tmp 172) (.cst (.bool false)))] true [9, 14, 15, 29, 173]) (.cond (.tmp 173) q5_26 (.skip)))) q5_27)
def lb5_3 : ACode :=
 (.seq (.seq (.region [
 ob 152 (.mv (.tmp 29)),
 ob 153 (.mv (.tmp 15)),
 ob 154 (.lenV (.tmp 153)),
 ob 155 (.bin .lss (.tmp 152) (.tmp 154))] false [9, 14, 15, 29, 155]) (.cond (.tmp 155) (.skip) (.exit 6))) q5_28)
def q5_29 : ACode :=
 (.region [
 ob 195 (.mv (.tmp 31)),
 ob 196 (.bin .add (.tmp 195) (.cst (.int .i64 1))),
 ob 31 (.mv (.tmp 196))] false [9, 14, 15, 30, 31, 32])
def q5_30 : ACode :=
 (.region [
 ob 184 (.mv (.tmp 32)),
 ob 185 (.bin .add (.tmp 184) (.cst (.int .i64 1))),
 ob 32 (.mv (.tmp 185))] false [9, 14, 15, 30, 31, 32])
def q5_31 : ACode :=
 (.seq (.block 11 (.seq (.region [
 ob 186 (.mv (.tmp 15)),
 ob 187 (.mv (.tmp 32)),
 ob 188 (.iaddr 3 (.tmp 186) (.tmp 187)),
 ob 189 (.loadA 3 (.tmp 188)),
 ob 190 (.mv (.tmp 14)),
 ob 191 (.mv (.tmp 30)),
 ob 192 (.iaddr 3 (.tmp 190) (.tmp 191)),
 ob 193 (.loadA 3 (.tmp 192)),
 ob 194 (.eqA [.s, .i, .i] false (.tmp 189) (.tmp 193))] true [9, 14, 15, 30, 31, 32, 194]) (.cond (.tmp 194) q5_29 (.skip)))) q5_30)
def lb5_4 : ACode :=
 (.seq (.seq (.region [
 ob 180 (.mv (.tmp 32)),
 ob 181 (.mv (.tmp 15)),
 ob 182 (.lenV (.tmp 181)),
 ob 183 (.bin .lss (.tmp 180) (.tmp 182))] false [9, 14, 15, 30, 31, 32, 183]) (.cond (.tmp 183) (.skip) (.exit 10))) q5_31)
def q5_32 : ACode :=
 (.block 10 (.loop [9, 14, 15, 30, 31, 32] lb5_4))
def q5_33 : ACode :=
 (.seq (.region [
 ob 8 (.mv (.cst (.bool false)))] false [8]) (.ret))
def q5_34 : ACode :=
 (.seq (.region [
 ob 197 (.mv (.tmp 31)),
 ob 198 (.bin .neq (.tmp 197) (.cst (.int .i64 1)))] false [9, 14, 15, 30, 198]) (.cond (.tmp 198) q5_33 (.skip)))
def q5_35 : ACode :=
 (.seq (.seq (.region [
 ob 32 (.mv (.cst (.int .i64 0)))] false [9, 14, 15, 30, 31, 32]) q5_32) q5_34)
def q5_36 : ACode :=
 (.region [
 ob 178 (.mv (.tmp 30)),
 ob 179 (.bin .add (.tmp 178) (.cst (.int .i64 1))),
 ob 30 (.mv (.tmp 179))] false [9, 14, 15, 30])
def q5_37 : ACode :=
 (.seq (.block 9 (.seq (.region [
 ob 31 (.mv (.cst (.int .i64 0)))] false [9, 14, 15, 30, 31]) q5_35)) q5_36)
def lb5_5 : ACode :=
 (.seq (.seq (.region [
 ob 174 (.mv (.tmp 30)),
 ob 175 (.mv (.tmp 14)),
 ob 176 (.lenV (.tmp 175)),
 ob 177 (.bin .lss (.tmp 174) (.tmp 176))] false [9, 14, 15, 30, 177]) (.cond (.tmp 177) (.skip) (.exit 8))) q5_37)
def q5_38 : ACode :=
 (.seq (.region [
 ob 199 (.mv (.tmp 9)),
 ob 8 (.mv (.tmp 199))] false [8]) (.ret))
def q5_39 : ACode :=
 (.seq (.seq (.region [
 ob 30 (.mv (.cst (.int .i64 0)))] false [9, 14, 15, 30]) (.block 8 (.loop [9, 14, 15, 30] lb5_5))) q5_38)
def q5_40 : ACode :=
 (.seq (.seq (.region [
 ob 29 (.mv (.cst (.int .i64 0)))] false [9, 14, 15, 29]) (.block 6 (.loop [9, 14, 15, 29] lb5_3))) q5_39)
def q5_41 : ACode :=
 (.seq (.seq (.region [
 ob 17 (.mv (.cst (.int .i64 0)))] false [2, 3, 9, 10, 11, 14, 15, 16, 17]) q5_25) q5_40)
def q5_42 : ACode :=
 (.seq (.region [
 ob 16 (.mv (.cst (.int .i64 0)))] false [2, 3, 9, 10, 11, 14, 15, 16]) q5_41)
def q5_43 : ACode :=
 (.seq (.region [
 ob 15 (.own 3 (.cst (.slice .c0 [])))] false [2, 3, 9, 10, 11, 14, 15]) q5_42)
def q5_44 : ACode :=
 (.seq (.region [
 ob 60 (.litsO 3 []),
 ob 61 (.faddr 4 (.tmp 12)),
 ob 62 (.load1 (.tmp 61)),
 ob 63 (.append 3 32 (.tmp 60) (.tmp 62)),
 ob 14 (.mv (.tmp 63))] false [2, 3, 9, 10, 11, 14]) q5_43)
def q5_45 : ACode :=
 (.seq (.seq (.region [
 ob 52 (.mv (.tmp 13)),
 ob 53 (.not (.tmp 52)),
 ob 54 (.mv (.tmp 53)),
 og 55 54 false (.faddr 1 (.tmp 12)),
 og 56 54 false (.load1 (.tmp 55)),
 og 57 54 false (.bin .neq (.tmp 56) (.cst (.int .i64 2))),
 ob 58 (.pick (.tmp 54) (.cst (.bool true)) (.tmp 57))] false [2, 3, 9, 10, 11, 12, 58]) (.cond (.tmp 58) q5_1 (.skip))) q5_44)
def q5_46 : ACode :=
 (.seq (.region [
 ob 47 (.loadA 3 (.tmp 10)),
 ob 48 (.mv (.tmp 11)),
 ob 49 (.call 19 [(.tmp 47), (.tmp 48)]),
 ob 46 (.mv (.tmp 49)),
 ob 50 (.extract (.tmp 46) 0),
 ob 51 (.extract (.tmp 46) 1),
 ob 12 (.box0 [(.int .i64 0), (.int .i64 0), (.int .i64 0), (.slice .c0 []), (.slice .c0 []), (.int .i64 0)]),
 ox (.store 6 (.tmp 12) (.tmp 50)),
 ob 13 (.mv (.tmp 51))] false [2, 3, 9, 10, 11, 12, 13]) q5_45)
def q5_47 : ACode :=
 (.seq (.region [
 ob 43 (.loadA 3 (.tmp 10)),
 ob 44 (.mv (.tmp 1)),
 ob 45 (.call 14 [(.tmp 43), (.tmp 44)]),
 ob 11 (.mv (.tmp 45))] false [2, 3, 9, 10, 11]) q5_46)
def q5_48 : ACode :=
 (.seq (.region [
 ob 41 (.mv (.tmp 0)),
 ob 42 (.call 13 [(.tmp 41)]),
 ob 10 (.box0 [(.slice .c0 []), (.int .i64 0), (.int .i64 0)]),
 ox (.store 3 (.tmp 10) (.tmp 42))] false [1, 2, 3, 9, 10]) q5_47)
def q5_49 : ACode :=
 (.seq (.seq (.region [
 ob 34 (.mv (.tmp 0)),
 ob 35 (.call 12 [(.tmp 34)]),
 ob 36 (.mv (.tmp 35)),
 og 37 36 false (.mv (.tmp 3)),
 og 38 36 false (.call 12 [(.tmp 37)]),
 ob 39 (.pick (.tmp 36) (.cst (.bool true)) (.tmp 38))] false [0, 1, 2, 3, 9, 39]) (.cond (.tmp 39) q5_0 (.skip))) q5_48)
def q5_50 : ACode :=
 (.seq (.region [
 ob 33 (.call 11 []),
 ob 9 (.mv (.tmp 33))] false [0, 1, 2, 3, 9]) q5_49)
def E5 := And.intro (exK_head q5_0.eq_1) (And.intro (exK_head q5_1.eq_1) (And.intro (exK_head q5_2.eq_1) (And.intro (exK_head q5_3.eq_1) (And.intro (exK_head q5_4.eq_1) (And.intro (exK_head q5_5.eq_1) (And.intro (exK_head q5_6.eq_1) (And.intro (exK_head q5_7.eq_1) (And.intro (exK_head q5_8.eq_1) (And.intro (exK_head lb5_0.eq_1) (And.intro (exK_head q5_9.eq_1) (And.intro (exK_head q5_10.eq_1) (And.intro (exK_head q5_11.eq_1) (And.intro (exK_head lb5_1.eq_1) (And.intro (exK_head q5_12.eq_1) (And.intro (exK_head q5_13.eq_1) (And.intro (exK_head q5_14.eq_1) (And.intro (exK_head q5_15.eq_1) (And.intro (exK_head q5_16.eq_1) (And.intro (exK_head q5_17.eq_1) (And.intro (exK_head q5_18.eq_1) (And.intro (exK_head q5_19.eq_1) (And.intro (exK_head q5_20.eq_1) (And.intro (exK_head q5_21.eq_1) (And.intro (exK_head q5_22.eq_1) (And.intro (exK_head q5_23.eq_1) (And.intro (exK_head q5_24.eq_1) (And.intro (exK_head lb5_2.eq_1) (And.intro (exK_head q5_25.eq_1) (And.intro (exK_head q5_26.eq_1) (And.intro (exK_head q5_27.eq_1) (And.intro (exK_head q5_28.eq_1) (And.intro (exK_head lb5_3.eq_1) (And.intro (exK_head q5_29.eq_1) (And.intro (exK_head q5_30.eq_1) (And.intro (exK_head q5_31.eq_1) (And.intro (exK_head lb5_4.eq_1) (And.intro (exK_head q5_32.eq_1) (And.intro (exK_head q5_33.eq_1) (And.intro (exK_head q5_34.eq_1) (And.intro (exK_head q5_35.eq_1) (And.intro (exK_head q5_36.eq_1) (And.intro (exK_head q5_37.eq_1) (And.intro (exK_head lb5_5.eq_1) (And.intro (exK_head q5_38.eq_1) (And.intro (exK_head q5_39.eq_1) (And.intro (exK_head q5_40.eq_1) (And.intro (exK_head q5_41.eq_1) (And.intro (exK_head q5_42.eq_1) (And.intro (exK_head q5_43.eq_1) (And.intro (exK_head q5_44.eq_1) (And.intro (exK_head q5_45.eq_1) (And.intro (exK_head q5_46.eq_1) (And.intro (exK_head q5_47.eq_1) (And.intro (exK_head q5_48.eq_1) (And.intro (exK_head q5_49.eq_1) (exK_head q5_50.eq_1))))))))))))))))))))))))))))))))))))))))))))))))))))))))
def ann5 : Ann := { n := 200, own := [15, 26, 60], lv := [(0, [0, 1, 2, 3]), (1, [0, 1, 2, 3, 9]), (2, [0, 1, 2, 3, 9, 39]), (3, [8]), (4, [1, 2, 3, 9, 10]), (5, [2, 3, 9, 10, 11]), (6, [2, 3, 9, 10, 11, 12, 13]), (7, [2, 3, 9, 10, 11, 12, 58]), (8, [8]), (9, [2, 3, 9, 10, 11, 14]), (10, [2, 3, 9, 10, 11, 14, 15]), (11, [2, 3, 9, 10, 11, 14, 15, 16]), (12, [2, 3, 9, 10, 11, 14, 15, 16, 17]), (13, [2, 3, 9, 10, 11, 14, 15, 16, 17, 65]), (14, [2, 3, 9, 10, 11, 14, 15, 16, 17]), (15, [2, 3, 9, 10, 11, 14, 15, 16, 17, 18, 19, 20]), (16, [2, 3, 9, 10, 11, 14, 15, 16, 17, 18, 19, 20, 81]), (17, [8]), (18, [2, 3, 9, 10, 11, 14, 15, 16, 17, 19]), (19, [2, 3, 9, 10, 11, 14, 15, 16, 17, 19, 91]), (20, [2, 3, 9, 10, 11, 14, 15, 17, 19, 98]), (21, [8]), (22, [2, 3, 9, 10, 11, 14, 15, 16, 17]), (23, [2, 3, 9, 10, 11, 14, 15, 16, 17, 103]), (24, [2, 3, 9, 10, 11, 14, 15, 16, 17, 21]), (25, [2, 3, 9, 10, 11, 14, 15, 16, 17]), (26, [2, 3, 9, 10, 11, 14, 15, 16, 17, 24]), (27, [2, 3, 9, 10, 11, 14, 15, 16, 17, 24, 26]), (28, [2, 3, 9, 10, 11, 14, 15, 16, 17, 24, 26, 27]), (29, [2, 3, 9, 10, 11, 14, 15, 16, 17, 24, 26, 27, 124]), (30, [2, 3, 9, 10, 11, 14, 15, 16, 17, 24, 26, 27]), (31, [2, 3, 9, 10, 11, 14, 15, 16, 17, 24, 26, 27, 28]), (32, [2, 3, 9, 10, 11, 14, 15, 16, 17, 24, 26, 27, 28, 131]), (33, [2, 3, 9, 10, 11, 14, 15, 16, 17, 24, 26, 27, 28]), (34, [2, 3, 9, 10, 11, 14, 15, 16, 17, 24, 26, 27, 28, 143]), (35, [2, 3, 9, 10, 11, 14, 15, 16, 17, 24, 26, 27, 28]), (36, [2, 3, 9, 10, 11, 14, 15, 16, 17]), (37, [9, 14, 15, 29]), (38, [9, 14, 15, 29, 155]), (39, [9, 14, 15, 29]), (40, [9, 14, 15, 29, 173]), (41, [8]), (42, [9, 14, 15, 30]), (43, [9, 14, 15, 30, 177]), (44, [9, 14, 15, 30]), (45, [9, 14, 15, 30, 31]), (46, [9, 14, 15, 30, 31, 32]), (47, [9, 14, 15, 30, 31, 32, 183]), (48, [9, 14, 15, 30, 31, 32]), (49, [9, 14, 15, 30, 31, 32, 194]), (50, [9, 14, 15, 30, 31, 32]), (51, [9, 14, 15, 30, 198]), (52, [8]), (53, [8])], lp := [(13, [2, 3, 9, 10, 11, 14, 15, 16, 17]), (29, [2, 3, 9, 10, 11, 14, 15, 16, 17, 24, 26, 27]), (32, [2, 3, 9, 10, 11, 14, 15, 16, 17, 24, 26, 27, 28]), (38, [9, 14, 15, 29]), (43, [9, 14, 15, 30]), (47, [9, 14, 15, 30, 31, 32])] }
def fn5 : AFn := AFn.mk 4 [.tmp 8]
  (.seq (.region [
  ob 8 (.mv (.cst (.bool false)))] false [0, 1, 2, 3]) q5_50)
theorem ok5 : compFn Tryz.prog ann5 Tryz.f5 = some fn5 := by kernel_rfl
end Go.Proofs.YtnapockikkbkcaaGreat
namespace Go.Proofs.YtnapockikkbkcaaGreat
open Go Go.Abs Go.ChangeShapes Go.WideShapes Go.RowKit Go.Deep
set_option maxRecDepth 100000 in
theorem treeList_lifted {T : Tab} (hT : SoundC Tryz.prog (acall T)) (K : ∀ (x0 : List Step) (x1 : Nat) (x2 : Nat) (x3 : List Step), (∀ s, s ∈ x0 → stepOk s) → x1 < 256 → x2 < 256 → (∀ s, s ∈ x3 → stepOk s) → acall T 5 [eSteps x0, eU x1, eU x2, eSteps x3] [] = some (.bool true, []))
    (os : Os) (started : os.Started) (H : Type) (enc : TypeId × Value → H) :
    ReturnsInHanded {} Tryz.checked os 5 .any (Rows.treeListSpec.pre6 enc Tryz.prog Tryz.f5 Rows.treeListRow.domain false) (Rows.treeListSpec.post enc Tryz.prog Tryz.f5 false Rows.treeListRow.fresh Rows.treeListRow.handsOn Rows.treeListRow.again) := by
  refine returnsInHanded_of_change (C := Tryz.checked) ownK started (by kernel_rfl) Tryz.func5
    (ChangeSpec.witness6 (enc := enc) (C := Tryz.checked) false ⟨#[], #[.slice none 0 0, .int .u8 0, .int .u8 0, .slice none 0 0], []⟩ 8 (by kernel_rfl) (by kernel_rfl) (by kernel_rfl) (by kernel_rfl)) ?_
  intro W base args ds gs before hval0 hW _ _
  have hval : ∀ (j : Nat) t v, Tryz.f5.params[j]? = some t → args[j]? = some v → Value.okWide Tryz.prog W .any base t v := hval0
  have hW' := hW
  obtain ⟨p, q, hA0, hV, rfl, _, _⟩ := hW
  have hA : DataW.TrodAll enc Tryz.prog W 0 (fun _ => true) true Tryz.f5.params.toList args.toList ds p := hA0
  have hA1 := hA
  rw [Tryz.params5] at hA hval
  obtain ⟨v0, vs1, d0, ds1, p0, q0, hvs0, rfl, rfl, h0, hA⟩ := trodAll_cons hA
  obtain ⟨v1, vs2, d1, ds2, p1, q1, rfl, rfl, rfl, h1, hA⟩ := trodAll_cons hA
  obtain ⟨v2, vs3, d2, ds3, p2, q2, rfl, rfl, rfl, h2, hA⟩ := trodAll_cons hA
  obtain ⟨v3, vs4, d3, ds4, p3, q3, rfl, rfl, rfl, h3, hA⟩ := trodAll_cons hA
  obtain ⟨rfl, rfl, rfl⟩ := trodAll_nil hA
  obtain rfl := two_of hvs0
  obtain ⟨rfl, rfl⟩ := trodVars_none hV
  obtain ⟨m0, l0, r0⟩ := steps_rep h0 (steps_cells Tryz.underlying22 (hval 0 22 _ rfl rfl))
  obtain ⟨n1, rfl, rfl, _, w1⟩ := open_int Tryz.underlying5 (hval 1 5 _ rfl rfl) h1
  obtain ⟨m1, rfl, l1⟩ := u8_nat w1
  obtain ⟨n2, rfl, rfl, _, w2⟩ := open_int Tryz.underlying5 (hval 2 5 _ rfl rfl) h2
  obtain ⟨m2, rfl, l2⟩ := u8_nat w2
  obtain ⟨m3, l3, r3⟩ := steps_rep h3 (steps_cells Tryz.underlying22 (hval 3 22 _ rfl rfl))
  have hlt : ∀ x ∈ (p0 ++ (p1 ++ (p2 ++ (p3 ++ [])))), x.block < W.heap.size := fun x hx => hW'.lt x (by simpa using hx)
  refine (plain_callS hT (K m0 m1 m2 m3 l0 l1 l2 l3) W _ rfl ?_).mono ?_
  · intro i c v hc hv
    match i with
    | 0 => cases hc; cases hv; exact .plain r0
    | 1 => cases hc; cases hv; exact .plain (.int _ _)
    | 2 => cases hc; cases hv; exact .plain (.int _ _)
    | 3 => cases hc; cases hv; exact .plain r3
    | i + 4 => cases hc
  · rintro e W' ⟨v, j', rfl, hb, hrep⟩
    obtain rfl := hrep.bool_inv
    exact ⟨_, rfl, ⟨_, _, _, [], _, [], hW', trodAll_mk1 (shut_bool Tryz.underlying4 true), trodAll_stays hb hA1 (by rw [Tryz.params5]; intro t ht; simp at ht; rcases ht with rfl | rfl | rfl <;> exact ⟨by kernel_rfl, of_decide_eq_true (by kernel_rfl)⟩) hlt, rfl, hb.frame _, fun h => by cases h⟩⟩
theorem treeList_of {T : Tab} (hT : SoundC Tryz.prog (acall T)) (K : ∀ (x0 : List Step) (x1 : Nat) (x2 : Nat) (x3 : List Step), (∀ s, s ∈ x0 → stepOk s) → x1 < 256 → x2 < 256 → (∀ s, s ∈ x3 → stepOk s) → acall T 5 [eSteps x0, eU x1, eU x2, eSteps x3] [] = some (.bool true, [])) : Rows.TreeListSaid :=
  OpenClaim.holds_of_wide 5 Tryz.f5 rfl rfl rfl rfl rfl rfl rfl ⟨rfl, rfl, rfl, rfl, rfl⟩ rfl rfl rfl rfl rfl (by kernel_rfl) Tryz.func5 (by kernel_rfl)
    (of_decide_eq_true (by kernel_rfl)) (by unfold Func.isWrapper; rw [if_neg (by decide +kernel)]; exact ⟨rfl, rfl⟩)
    (fun os started H enc _ => treeList_lifted hT K os started H enc)
end Go.Proofs.YtnapockikkbkcaaGreat
namespace Go.Proofs.YtnapockikkbkcaaGreat
open Go Go.Abs
attribute [local irreducible] exK opsK opK gK forkK kr acall callOp owhen obind
def cLe : Nat → Option AFn
  | 5 => some fn5
  | _ => none
def TkOk (tk : Tk) : Prop := ∀ (B : Nat) (M : AMem) (xs : List AVal), 4 ≤ B → AVal.backV B M (.slice tk xs) = .slice tk xs
theorem TK1 {tk : Tk} (h : TkOk tk) : ∀ (B : Nat) (M : AMem) (xs : List AVal), 4 ≤ B → AVal.backV B M (.slice tk xs) = .slice tk xs := h
theorem tkO : TkOk (.own 2) := fun B M xs h => by
  have : AVal.backV B M (.slice (.own 2) xs) = if 2 < B then .slice (.own 2) xs else .slice .sh xs := rfl
  rw [this, if_pos (by omega)]
theorem tkS : TkOk .sh := fun _ _ _ _ => rfl
theorem xLe : ExtOk cLe := by
  refine ⟨fun f fn h => ?_, fun f fn h => ?_⟩
  · unfold cLe at h
    split at h
    · injection h with h; subst h; exact ⟨_, _, Tryz.func5, ok5⟩
    · cases h
  · unfold cLe at h
    split at h
    · exact ⟨rfl, rfl⟩
    · cases h
theorem loop5d {tk : Tk} (htk : TkOk tk) {tn : List Node} {tx tc : Int} {first : Node} {a g : Nat} {got stays : List Ent} (hn : got.length ≤ 1000) (hup : Up got) {k : List K} {r : Option (AVal × AMem)}
    (hx : ∀ v q, kr (acall (tabX cLe)) [.tmp 8] 0 k ⟨.exit 6, [(9, .bool true), (14, .slice tk (stays.map eEnt)), (15, .slice (.own 3) (got.map eEnt)), (29, v), (155, q)], [.cells [eNodes tn, .int .i64 tx, .int .i64 tc], .cells (eNodeC first), .tick 3 a, .tick 3 g]⟩ = r) :
    ∀ (l pre : List Ent), got = pre ++ l → exK (acall (tabX cLe)) [.tmp 8] 0 k (.loop [9, 14, 15, 29] lb5_3) [(9, .bool true), (14, .slice tk (stays.map eEnt)), (15, .slice (.own 3) (got.map eEnt)), (29, .int .i64 pre.length)] [.cells [eNodes tn, .int .i64 tx, .int .i64 tc], .cells (eNodeC first), .tick 3 a, .tick 3 g] = r := by
  simp only [eNodeC] at hx ⊢
  intro l
  induction l with
  | nil =>
    intro pre h
    rw [exK_loop]
    simp only [E5, TK1 htk, lt_end h, EVT, EVD, ↓reduceIte, Nat.reduceEqDiff, reduceCtorEq, Nat.reduceAdd, Nat.reduceLeDiff, ne_eq, Nat.reduceLT, Int.reduceLT, Int.reduceLE, Int.reduceNeg]
    exact hx _ _
  | cons x rest ih =>
    intro pre h
    rw [exK_loop]
    have hlen : pre.length + 1 ≤ 1000 := by rw [h] at hn; simp at hn; omega
    have hw : IntKind.i64.wrap ((pre.length : Int) + 1) = ((pre ++ [x]).length : Int) := by rw [wrap_small (by omega) (by omega)]; exact step_len
    have hh := ih (pre ++ [x]) (by rw [h]; simp)
    simp only [List.length_append, List.length_cons, List.length_nil] at hh
    rcases List.eq_nil_or_concat pre with hp | ⟨pre0, y, hp⟩
    · have hgt : decide ((0 : Int) < (pre.length : Int)) = false := by rw [hp]; simp
      simp only [E5, TK1 htk, lt_mid h, hgt, hw, EVT, EVD, ↓reduceIte, Nat.reduceEqDiff, reduceCtorEq, Nat.reduceAdd, Nat.reduceLeDiff, ne_eq, Nat.reduceLT, Int.reduceLT, Int.reduceLE, Int.reduceNeg]
      exact hh
    · have hpl : (pre.length : Int) = (pre0.length : Int) + 1 := by rw [hp]; simp
      have hgt : decide ((0 : Int) < (pre.length : Int)) = true := by rw [decide_eq_true_eq]; omega
      have hws : IntKind.i64.wrap ((pre.length : Int) - 1) = (pre0.length : Int) := by rw [wrap_small (by omega) (by omega)]; omega
      have hprev : got[pre0.length]? = some y := by rw [h, hp]; simp
      have hlt : decide (x.cookie ≤ y.cookie) = false := by
        have hE' := hup
        rw [h, hp] at hE'
        unfold Up at hE'
        rw [List.pairwise_append] at hE'
        have := hE'.2.2 y (by simp) x List.mem_cons_self
        rw [decide_eq_false_iff_not]; omega
      simp only [E5, TK1 htk, lt_mid h, at_mid h, eEntC, hgt, hw, hws, hprev, hlt, EVT, EVD, ↓reduceIte, Nat.reduceEqDiff, reduceCtorEq, Nat.reduceAdd, Nat.reduceLeDiff, ne_eq, Nat.reduceLT, Int.reduceLT, Int.reduceLE, Int.reduceNeg]
      exact hh
theorem loop5e {tk : Tk} (htk : TkOk tk) {tn : List Node} {tx tc : Int} {first : Node} {a g : Nat} {got stays : List Ent} {s : Ent} {j : Nat} (hn : got.length ≤ 1000) (hs : stays[j]? = some s) {fin : Nat} {k : List K} {r : Option (AVal × AMem)}
    (hx : ∀ v q, kr (acall (tabX cLe)) [.tmp 8] 0 k ⟨.exit 10, [(9, .bool true), (14, .slice tk (stays.map eEnt)), (15, .slice (.own 3) (got.map eEnt)), (30, .int .i64 j), (31, .int .i64 fin), (32, v), (183, q)], [.cells [eNodes tn, .int .i64 tx, .int .i64 tc], .cells (eNodeC first), .tick 3 a, .tick 3 g]⟩ = r) :
    ∀ (l pre : List Ent) (c : Nat), got = pre ++ l → c + l.countP (fun x => decide (x = s)) = fin → c ≤ pre.length → exK (acall (tabX cLe)) [.tmp 8] 0 k (.loop [9, 14, 15, 30, 31, 32] lb5_4) [(9, .bool true), (14, .slice tk (stays.map eEnt)), (15, .slice (.own 3) (got.map eEnt)), (30, .int .i64 j), (31, .int .i64 c), (32, .int .i64 pre.length)] [.cells [eNodes tn, .int .i64 tx, .int .i64 tc], .cells (eNodeC first), .tick 3 a, .tick 3 g] = r := by
  simp only [eNodeC] at hx ⊢
  intro l
  induction l with
  | nil =>
    intro pre c h hc hcl
    simp only [List.countP_nil, Nat.add_zero] at hc
    subst hc
    rw [exK_loop]
    simp only [E5, TK1 htk, lt_end h, EVT, EVD, ↓reduceIte, Nat.reduceEqDiff, reduceCtorEq, Nat.reduceAdd, Nat.reduceLeDiff, ne_eq, Nat.reduceLT, Int.reduceLT, Int.reduceLE, Int.reduceNeg]
    exact hx _ _
  | cons x rest ih =>
    intro pre c h hc hcl
    rw [exK_loop]
    have hlen : pre.length + 1 ≤ 1000 := by rw [h] at hn; simp at hn; omega
    have hw : IntKind.i64.wrap ((pre.length : Int) + 1) = ((pre ++ [x]).length : Int) := by rw [wrap_small (by omega) (by omega)]; exact step_len
    have hwc : IntKind.i64.wrap ((c : Int) + 1) = ((c + 1 : Nat) : Int) := by rw [wrap_small (by omega) (by omega)]; omega
    rw [List.countP_cons] at hc
    simp only [E5, TK1 htk, lt_mid h, at_mid h, hs, tkE, shE, eqEnt, allE, EVT, EVD, ↓reduceIte, Nat.reduceEqDiff, reduceCtorEq, Nat.reduceAdd, Nat.reduceLeDiff, ne_eq, Nat.reduceLT, Int.reduceLT, Int.reduceLE, Int.reduceNeg]
    refine fork_split (fun hb => ?_) (fun hb => ?_)
    · rw [if_pos hb] at hc
      have hh := ih (pre ++ [x]) (c + 1) (by rw [h]; simp) (by omega) (by simp; omega)
      simp only [List.length_append, List.length_cons, List.length_nil] at hh
      simp only [E5, TK1 htk, hw, hwc, EVT, EVD, ↓reduceIte, Nat.reduceEqDiff, reduceCtorEq, Nat.reduceAdd, Nat.reduceLeDiff, ne_eq, Nat.reduceLT, Int.reduceLT, Int.reduceLE, Int.reduceNeg]
      exact hh
    · rw [if_neg (by simp [hb])] at hc
      have hh := ih (pre ++ [x]) c (by rw [h]; simp) (by omega) (by simp; omega)
      simp only [List.length_append, List.length_cons, List.length_nil] at hh
      simp only [E5, TK1 htk, hw, EVT, EVD, ↓reduceIte, Nat.reduceEqDiff, reduceCtorEq, Nat.reduceAdd, Nat.reduceLeDiff, ne_eq, Nat.reduceLT, Int.reduceLT, Int.reduceLE, Int.reduceNeg]
      exact hh
theorem loop5f {tk : Tk} (htk : TkOk tk) {tn : List Node} {tx tc : Int} {first : Node} {a g : Nat} {got stays : List Ent} (hn : got.length ≤ 1000) (hsl : stays.length ≤ 100) (hc : ∀ s, s ∈ stays → got.countP (fun x => decide (x = s)) = 1) {k : List K} {r : Option (AVal × AMem)}
    (hx : ∀ v q, kr (acall (tabX cLe)) [.tmp 8] 0 k ⟨.exit 8, [(9, .bool true), (14, .slice tk (stays.map eEnt)), (15, .slice (.own 3) (got.map eEnt)), (30, v), (177, q)], [.cells [eNodes tn, .int .i64 tx, .int .i64 tc], .cells (eNodeC first), .tick 3 a, .tick 3 g]⟩ = r) :
    ∀ (l pre : List Ent), stays = pre ++ l → exK (acall (tabX cLe)) [.tmp 8] 0 k (.loop [9, 14, 15, 30] lb5_5) [(9, .bool true), (14, .slice tk (stays.map eEnt)), (15, .slice (.own 3) (got.map eEnt)), (30, .int .i64 pre.length)] [.cells [eNodes tn, .int .i64 tx, .int .i64 tc], .cells (eNodeC first), .tick 3 a, .tick 3 g] = r := by
  have hle := fun j s hs k r hx => loop5e htk (tn := tn) (tx := tx) (tc := tc) (first := first) (a := a) (g := g) (got := got) (stays := stays) (s := s) (j := j) hn hs (k := k) (r := r) (fin := 1) hx got [] 0 rfl
  simp only [eNodeC] at hx hle ⊢
  intro l
  induction l with
  | nil =>
    intro pre h
    rw [exK_loop]
    simp only [E5, TK1 htk, lt_end h, EVT, EVD, ↓reduceIte, Nat.reduceEqDiff, reduceCtorEq, Nat.reduceAdd, Nat.reduceLeDiff, ne_eq, Nat.reduceLT, Int.reduceLT, Int.reduceLE, Int.reduceNeg]
    exact hx _ _
  | cons x rest ih =>
    intro pre h
    rw [exK_loop]
    have hlen : pre.length + 1 ≤ 100 := by rw [h] at hsl; simp at hsl; omega
    have hw : IntKind.i64.wrap ((pre.length : Int) + 1) = ((pre ++ [x]).length : Int) := by rw [wrap_small (by omega) (by omega)]; exact step_len
    have hh := ih (pre ++ [x]) (by rw [h]; simp)
    simp only [List.length_append, List.length_cons, List.length_nil] at hh
    have h11 : ((((1 : Nat) : Int)) != 1) = false := rfl
    simp only [E5, TK1 htk, lt_mid h, EVT, EVD, ↓reduceIte, Nat.reduceEqDiff, reduceCtorEq, Nat.reduceAdd, Nat.reduceLeDiff, ne_eq, Nat.reduceLT, Int.reduceLT, Int.reduceLE, Int.reduceNeg]
    refine hle pre.length x (at_mid h) _ _ (fun v q => ?_) (by rw [hc x (by rw [h]; simp)]) (by simp)
    simp only [E5, TK1 htk, hw, h11, EVT, EVD, ↓reduceIte, Nat.reduceEqDiff, reduceCtorEq, Nat.reduceAdd, Nat.reduceLeDiff, ne_eq, Nat.reduceLT, Int.reduceLT, Int.reduceLE, Int.reduceNeg]
    exact hh
theorem loop5au {tk : Tk} (htk : TkOk tk) {tn : List Node} {tx tc : Int} {un : List Node} {ux uc : Int} {first now : Node} {a many : Nat} {btw : List Step} {d z i : Int} {got stays : List Ent} {s : Ent} {j : Nat} (hn : now.ents.length ≤ 100) (hs : stays[j]? = some s) {fin : List Ent} {k : List K} {r : Option (AVal × AMem)}
    (hx : ∀ (left : List Ent) v q, left = fin → kr (acall (tabX cLe)) [.tmp 8] 0 k ⟨.exit 4, [(2, .int .u8 many), (3, eSteps btw), (9, .bool true), (10, .ptr 0 0), (11, .int .i64 d), (14, .slice tk (stays.map eEnt)), (15, .slice (.own 3) (got.map eEnt)), (16, .int .i64 z), (17, .int .i64 i), (24, .ptr 5 0), (26, .slice (.own 6) (left.map eEnt)), (27, .int .i64 j), (28, v), (131, q)], [.cells [eNodes tn, .int .i64 tx, .int .i64 tc], .cells (eNodeC first), .tick 3 a, .tick 3 got.length, .cells [eNodes un, .int .i64 ux, .int .i64 uc], .cells (eNodeC now), .tick 3 left.length]⟩ = r) :
    ∀ (l pre : List Ent) (left : List Ent), now.ents = pre ++ l → left ++ (l.filter fun e => decide (e = s)).map (fun _ => s) = fin → left.length + l.length ≤ 10000 → exK (acall (tabX cLe)) [.tmp 8] 0 k (.loop [2, 3, 9, 10, 11, 14, 15, 16, 17, 24, 26, 27, 28] lb5_0) [(2, .int .u8 many), (3, eSteps btw), (9, .bool true), (10, .ptr 0 0), (11, .int .i64 d), (14, .slice tk (stays.map eEnt)), (15, .slice (.own 3) (got.map eEnt)), (16, .int .i64 z), (17, .int .i64 i), (24, .ptr 5 0), (26, .slice (.own 6) (left.map eEnt)), (27, .int .i64 j), (28, .int .i64 pre.length)] [.cells [eNodes tn, .int .i64 tx, .int .i64 tc], .cells (eNodeC first), .tick 3 a, .tick 3 got.length, .cells [eNodes un, .int .i64 ux, .int .i64 uc], .cells (eNodeC now), .tick 3 left.length] = r := by
  simp only [eNodeC] at hx ⊢
  intro l
  induction l with
  | nil =>
    intro pre left h hf hb
    rw [exK_loop]
    simp only [E5, TK1 htk, lt_end h, EVT, EVD, ↓reduceIte, Nat.reduceEqDiff, reduceCtorEq, Nat.reduceAdd, Nat.reduceLeDiff, ne_eq, Nat.reduceLT, Int.reduceLT, Int.reduceLE, Int.reduceNeg]
    exact hx _ _ _ (by simpa using hf)
  | cons x rest ih =>
    intro pre left h hf hb
    rw [exK_loop]
    have hlen : pre.length + 1 ≤ 100 := by rw [h] at hn; simp at hn; omega
    have hw : IntKind.i64.wrap ((pre.length : Int) + 1) = ((pre ++ [x]).length : Int) := by rw [wrap_small (by omega) (by omega)]; exact step_len
    rw [List.filter_cons] at hf
    simp only [List.length_cons] at hb
    simp only [E5, TK1 htk, lt_mid h, at_mid h, hs, tkE, shE, eqEnt, allE, EVT, EVD, ↓reduceIte, Nat.reduceEqDiff, reduceCtorEq, Nat.reduceAdd, Nat.reduceLeDiff, ne_eq, Nat.reduceLT, Int.reduceLT, Int.reduceLE, Int.reduceNeg]
    refine fork_split (fun hq => ?_) (fun hq => ?_)
    · rw [if_pos hq] at hf
      have hh := ih (pre ++ [x]) (left ++ [s]) (by rw [h]; simp) (by rw [← hf]; simp) (by simp; omega)
      simp only [List.length_append, List.length_cons, List.length_nil, List.map_append, List.map_cons, List.map_nil] at hh
      have hroom : roomOk (left.length + 1) 32 = True := room_ok (by omega) (by omega)
      simp only [E5, TK1 htk, hs, tkE, shE, allE, plainE, hw, hroom, EVT, EVD, ↓reduceIte, Nat.reduceEqDiff, reduceCtorEq, Nat.reduceAdd, Nat.reduceLeDiff, ne_eq, Nat.reduceLT, Int.reduceLT, Int.reduceLE, Int.reduceNeg]
      exact hh
    · rw [if_neg (by simp [hq])] at hf
      have hh := ih (pre ++ [x]) left (by rw [h]; simp) hf (by omega)
      simp only [List.length_append, List.length_cons, List.length_nil] at hh
      simp only [E5, TK1 htk, hw, EVT, EVD, ↓reduceIte, Nat.reduceEqDiff, reduceCtorEq, Nat.reduceAdd, Nat.reduceLeDiff, ne_eq, Nat.reduceLT, Int.reduceLT, Int.reduceLE, Int.reduceNeg]
      exact hh
theorem loop5bu {tk : Tk} (htk : TkOk tk) {tn : List Node} {tx tc : Int} {un : List Node} {ux uc : Int} {first now : Node} {a many : Nat} {btw : List Step} {d z i : Int} {got stays : List Ent} (hn : now.ents.length ≤ 100) (hsl : stays.length ≤ 5) {fin : List Ent} {k : List K} {r : Option (AVal × AMem)}
    (hx : ∀ (left : List Ent) v q, left = fin → kr (acall (tabX cLe)) [.tmp 8] 0 k ⟨.exit 2, [(2, .int .u8 many), (3, eSteps btw), (9, .bool true), (10, .ptr 0 0), (11, .int .i64 d), (14, .slice tk (stays.map eEnt)), (15, .slice (.own 3) (got.map eEnt)), (16, .int .i64 z), (17, .int .i64 i), (24, .ptr 5 0), (26, .slice (.own 6) (left.map eEnt)), (27, v), (124, q)], [.cells [eNodes tn, .int .i64 tx, .int .i64 tc], .cells (eNodeC first), .tick 3 a, .tick 3 got.length, .cells [eNodes un, .int .i64 ux, .int .i64 uc], .cells (eNodeC now), .tick 3 left.length]⟩ = r) :
    ∀ (l pre : List Ent) (left : List Ent), stays = pre ++ l → left ++ stayN now.ents l = fin → left.length + 100 * l.length ≤ 9000 → exK (acall (tabX cLe)) [.tmp 8] 0 k (.loop [2, 3, 9, 10, 11, 14, 15, 16, 17, 24, 26, 27] lb5_1) [(2, .int .u8 many), (3, eSteps btw), (9, .bool true), (10, .ptr 0 0), (11, .int .i64 d), (14, .slice tk (stays.map eEnt)), (15, .slice (.own 3) (got.map eEnt)), (16, .int .i64 z), (17, .int .i64 i), (24, .ptr 5 0), (26, .slice (.own 6) (left.map eEnt)), (27, .int .i64 pre.length)] [.cells [eNodes tn, .int .i64 tx, .int .i64 tc], .cells (eNodeC first), .tick 3 a, .tick 3 got.length, .cells [eNodes un, .int .i64 ux, .int .i64 uc], .cells (eNodeC now), .tick 3 left.length] = r := by
  intro l
  induction l with
  | nil =>
    intro pre left h hf hb
    simp only [eNodeC] at hx ⊢
    rw [exK_loop]
    simp only [E5, TK1 htk, lt_end h, EVT, EVD, ↓reduceIte, Nat.reduceEqDiff, reduceCtorEq, Nat.reduceAdd, Nat.reduceLeDiff, ne_eq, Nat.reduceLT, Int.reduceLT, Int.reduceLE, Int.reduceNeg]
    exact hx _ _ _ (by simpa [stayN] using hf)
  | cons x rest ih =>
    intro pre left h hf hb
    have hlen : pre.length + 1 ≤ 5 := by rw [h] at hsl; simp at hsl; omega
    have hw : IntKind.i64.wrap ((pre.length : Int) + 1) = ((pre ++ [x]).length : Int) := by rw [wrap_small (by omega) (by omega)]; exact step_len
    simp only [List.length_cons] at hb
    have hfl : ((now.ents.filter fun e => decide (e = x)).map fun _ => x).length ≤ 100 := by
      rw [List.length_map]; exact Nat.le_trans (List.length_filter_le _ _) hn
    have hla := fun k r hx => loop5au htk (tn := tn) (tx := tx) (tc := tc) (un := un) (ux := ux) (uc := uc) (first := first) (now := now) (a := a) (many := many) (btw := btw) (d := d) (z := z) (i := i) (got := got) (stays := stays) (s := x) (j := pre.length) hn (at_mid h) (k := k) (r := r) hx now.ents [] left rfl rfl (by omega)
    have hh := ih (pre ++ [x]) (left ++ (now.ents.filter fun e => decide (e = x)).map fun _ => x) (by rw [h]; simp) (by rw [← hf]; simp [stayN]) (by rw [List.length_append]; omega)
    simp only [eNodeC] at hla hh ⊢
    simp only [List.length_append, List.length_cons, List.length_nil, List.length_map] at hh
    rw [exK_loop]
    simp only [E5, TK1 htk, lt_mid h, EVT, EVD, ↓reduceIte, Nat.reduceEqDiff, reduceCtorEq, Nat.reduceAdd, Nat.reduceLeDiff, ne_eq, Nat.reduceLT, Int.reduceLT, Int.reduceLE, Int.reduceNeg]
    refine hla _ _ (fun left' v q hl => ?_)
    subst hl
    simp only [E5, TK1 htk, hw, EVT, EVD, ↓reduceIte, Nat.reduceEqDiff, reduceCtorEq, Nat.reduceAdd, Nat.reduceLeDiff, ne_eq, Nat.reduceLT, Int.reduceLT, Int.reduceLE, Int.reduceNeg]
    exact hh
theorem loop5an {tk : Tk} (htk : TkOk tk) {tn : List Node} {tx tc : Int} {first now : Node} {a many : Nat} {btw : List Step} {d z i : Int} {got stays : List Ent} {s : Ent} {j : Nat} (hn : now.ents.length ≤ 100) (hs : stays[j]? = some s) {fin : List Ent} {k : List K} {r : Option (AVal × AMem)}
    (hx : ∀ (left : List Ent) v q, left = fin → kr (acall (tabX cLe)) [.tmp 8] 0 k ⟨.exit 4, [(2, .int .u8 many), (3, eSteps btw), (9, .bool true), (10, .ptr 0 0), (11, .int .i64 d), (14, .slice tk (stays.map eEnt)), (15, .slice (.own 3) (got.map eEnt)), (16, .int .i64 z), (17, .int .i64 i), (24, .ptr 4 0), (26, .slice (.own 5) (left.map eEnt)), (27, .int .i64 j), (28, v), (131, q)], [.cells [eNodes tn, .int .i64 tx, .int .i64 tc], .cells (eNodeC first), .tick 3 a, .tick 3 got.length, .cells (eNodeC now), .tick 3 left.length]⟩ = r) :
    ∀ (l pre : List Ent) (left : List Ent), now.ents = pre ++ l → left ++ (l.filter fun e => decide (e = s)).map (fun _ => s) = fin → left.length + l.length ≤ 10000 → exK (acall (tabX cLe)) [.tmp 8] 0 k (.loop [2, 3, 9, 10, 11, 14, 15, 16, 17, 24, 26, 27, 28] lb5_0) [(2, .int .u8 many), (3, eSteps btw), (9, .bool true), (10, .ptr 0 0), (11, .int .i64 d), (14, .slice tk (stays.map eEnt)), (15, .slice (.own 3) (got.map eEnt)), (16, .int .i64 z), (17, .int .i64 i), (24, .ptr 4 0), (26, .slice (.own 5) (left.map eEnt)), (27, .int .i64 j), (28, .int .i64 pre.length)] [.cells [eNodes tn, .int .i64 tx, .int .i64 tc], .cells (eNodeC first), .tick 3 a, .tick 3 got.length, .cells (eNodeC now), .tick 3 left.length] = r := by
  simp only [eNodeC] at hx ⊢
  intro l
  induction l with
  | nil =>
    intro pre left h hf hb
    rw [exK_loop]
    simp only [E5, TK1 htk, lt_end h, EVT, EVD, ↓reduceIte, Nat.reduceEqDiff, reduceCtorEq, Nat.reduceAdd, Nat.reduceLeDiff, ne_eq, Nat.reduceLT, Int.reduceLT, Int.reduceLE, Int.reduceNeg]
    exact hx _ _ _ (by simpa using hf)
  | cons x rest ih =>
    intro pre left h hf hb
    rw [exK_loop]
    have hlen : pre.length + 1 ≤ 100 := by rw [h] at hn; simp at hn; omega
    have hw : IntKind.i64.wrap ((pre.length : Int) + 1) = ((pre ++ [x]).length : Int) := by rw [wrap_small (by omega) (by omega)]; exact step_len
    rw [List.filter_cons] at hf
    simp only [List.length_cons] at hb
    simp only [E5, TK1 htk, lt_mid h, at_mid h, hs, tkE, shE, eqEnt, allE, EVT, EVD, ↓reduceIte, Nat.reduceEqDiff, reduceCtorEq, Nat.reduceAdd, Nat.reduceLeDiff, ne_eq, Nat.reduceLT, Int.reduceLT, Int.reduceLE, Int.reduceNeg]
    refine fork_split (fun hq => ?_) (fun hq => ?_)
    · rw [if_pos hq] at hf
      have hh := ih (pre ++ [x]) (left ++ [s]) (by rw [h]; simp) (by rw [← hf]; simp) (by simp; omega)
      simp only [List.length_append, List.length_cons, List.length_nil, List.map_append, List.map_cons, List.map_nil] at hh
      have hroom : roomOk (left.length + 1) 32 = True := room_ok (by omega) (by omega)
      simp only [E5, TK1 htk, hs, tkE, shE, allE, plainE, hw, hroom, EVT, EVD, ↓reduceIte, Nat.reduceEqDiff, reduceCtorEq, Nat.reduceAdd, Nat.reduceLeDiff, ne_eq, Nat.reduceLT, Int.reduceLT, Int.reduceLE, Int.reduceNeg]
      exact hh
    · rw [if_neg (by simp [hq])] at hf
      have hh := ih (pre ++ [x]) left (by rw [h]; simp) hf (by omega)
      simp only [List.length_append, List.length_cons, List.length_nil] at hh
      simp only [E5, TK1 htk, hw, EVT, EVD, ↓reduceIte, Nat.reduceEqDiff, reduceCtorEq, Nat.reduceAdd, Nat.reduceLeDiff, ne_eq, Nat.reduceLT, Int.reduceLT, Int.reduceLE, Int.reduceNeg]
      exact hh
theorem loop5bn {tk : Tk} (htk : TkOk tk) {tn : List Node} {tx tc : Int} {first now : Node} {a many : Nat} {btw : List Step} {d z i : Int} {got stays : List Ent} (hn : now.ents.length ≤ 100) (hsl : stays.length ≤ 5) {fin : List Ent} {k : List K} {r : Option (AVal × AMem)}
    (hx : ∀ (left : List Ent) v q, left = fin → kr (acall (tabX cLe)) [.tmp 8] 0 k ⟨.exit 2, [(2, .int .u8 many), (3, eSteps btw), (9, .bool true), (10, .ptr 0 0), (11, .int .i64 d), (14, .slice tk (stays.map eEnt)), (15, .slice (.own 3) (got.map eEnt)), (16, .int .i64 z), (17, .int .i64 i), (24, .ptr 4 0), (26, .slice (.own 5) (left.map eEnt)), (27, v), (124, q)], [.cells [eNodes tn, .int .i64 tx, .int .i64 tc], .cells (eNodeC first), .tick 3 a, .tick 3 got.length, .cells (eNodeC now), .tick 3 left.length]⟩ = r) :
    ∀ (l pre : List Ent) (left : List Ent), stays = pre ++ l → left ++ stayN now.ents l = fin → left.length + 100 * l.length ≤ 9000 → exK (acall (tabX cLe)) [.tmp 8] 0 k (.loop [2, 3, 9, 10, 11, 14, 15, 16, 17, 24, 26, 27] lb5_1) [(2, .int .u8 many), (3, eSteps btw), (9, .bool true), (10, .ptr 0 0), (11, .int .i64 d), (14, .slice tk (stays.map eEnt)), (15, .slice (.own 3) (got.map eEnt)), (16, .int .i64 z), (17, .int .i64 i), (24, .ptr 4 0), (26, .slice (.own 5) (left.map eEnt)), (27, .int .i64 pre.length)] [.cells [eNodes tn, .int .i64 tx, .int .i64 tc], .cells (eNodeC first), .tick 3 a, .tick 3 got.length, .cells (eNodeC now), .tick 3 left.length] = r := by
  intro l
  induction l with
  | nil =>
    intro pre left h hf hb
    simp only [eNodeC] at hx ⊢
    rw [exK_loop]
    simp only [E5, TK1 htk, lt_end h, EVT, EVD, ↓reduceIte, Nat.reduceEqDiff, reduceCtorEq, Nat.reduceAdd, Nat.reduceLeDiff, ne_eq, Nat.reduceLT, Int.reduceLT, Int.reduceLE, Int.reduceNeg]
    exact hx _ _ _ (by simpa [stayN] using hf)
  | cons x rest ih =>
    intro pre left h hf hb
    have hlen : pre.length + 1 ≤ 5 := by rw [h] at hsl; simp at hsl; omega
    have hw : IntKind.i64.wrap ((pre.length : Int) + 1) = ((pre ++ [x]).length : Int) := by rw [wrap_small (by omega) (by omega)]; exact step_len
    simp only [List.length_cons] at hb
    have hfl : ((now.ents.filter fun e => decide (e = x)).map fun _ => x).length ≤ 100 := by
      rw [List.length_map]; exact Nat.le_trans (List.length_filter_le _ _) hn
    have hla := fun k r hx => loop5an htk (tn := tn) (tx := tx) (tc := tc) (first := first) (now := now) (a := a) (many := many) (btw := btw) (d := d) (z := z) (i := i) (got := got) (stays := stays) (s := x) (j := pre.length) hn (at_mid h) (k := k) (r := r) hx now.ents [] left rfl rfl (by omega)
    have hh := ih (pre ++ [x]) (left ++ (now.ents.filter fun e => decide (e = x)).map fun _ => x) (by rw [h]; simp) (by rw [← hf]; simp [stayN]) (by rw [List.length_append]; omega)
    simp only [eNodeC] at hla hh ⊢
    simp only [List.length_append, List.length_cons, List.length_nil, List.length_map] at hh
    rw [exK_loop]
    simp only [E5, TK1 htk, lt_mid h, EVT, EVD, ↓reduceIte, Nat.reduceEqDiff, reduceCtorEq, Nat.reduceAdd, Nat.reduceLeDiff, ne_eq, Nat.reduceLT, Int.reduceLT, Int.reduceLE, Int.reduceNeg]
    refine hla _ _ (fun left' v q hl => ?_)
    subst hl
    simp only [E5, TK1 htk, hw, EVT, EVD, ↓reduceIte, Nat.reduceEqDiff, reduceCtorEq, Nat.reduceAdd, Nat.reduceLeDiff, ne_eq, Nat.reduceLT, Int.reduceLT, Int.reduceLE, Int.reduceNeg]
    exact hh
theorem doneN_cookie_ge {t : Tree} {dep : Int → Nat} (h : GInv t dep 0) (s : Step) : t.cookie ≤ (doneN t s).1.cookie := by
  have hc := h.cookie
  have hw : t.cookie < 1099511627776 → w64 (t.cookie + 1) = t.cookie + 1 := fun hl => wrap_small (by omega) (by omega)
  unfold doneN
  split
  · unfold addN
    split
    · exact Int.le_refl _
    split
    · exact Int.le_refl _
    · rename_i he
      split
      · exact Int.le_refl _
      · obtain ⟨_, _, _, _, _, _, _, d7⟩ := enter_ok (by simpa using he)
        show t.cookie ≤ w64 (t.cookie + 1)
        rw [hw d7]; omega
  split
  · unfold lnN
    split
    · exact Int.le_refl _
    split
    · exact Int.le_refl _
    split
    · exact Int.le_refl _
    · rename_i he
      obtain ⟨_, _, _, _, _, _, _, d7⟩ := enter_ok (by simpa using he)
      show t.cookie ≤ w64 (t.cookie + 1)
      rw [hw d7]; omega
  split
  · unfold unN
    split
    · exact Int.le_refl _
    split
    · exact Int.le_refl _
    · exact Int.le_refl _
  split
  · rcases mvN_cases h (inoAt t s.a) (nameOf s.n) (inoAt t s.b) (nameOf s.m) with ⟨c1, _⟩ | ⟨c1, _⟩ | ⟨_, _, _, _, k, _, _, c1⟩
    · rw [c1]; exact Int.le_refl _
    · rw [c1]; exact Int.le_refl _
    · rw [c1]
      simp only
      rw [moveN_cookie h k.cookie]; omega
  split
  · unfold putN
    split
    · exact Int.le_refl _
    split
    · exact Int.le_refl _
    split
    · exact Int.le_refl _
    · exact Int.le_refl _
  · unfold freeN
    split
    · exact Int.le_refl _
    split
    · exact Int.le_refl _
    split
    · exact Int.le_refl _
    · exact Int.le_refl _
set_option maxHeartbeats 4000000 in
theorem loop5m {first : Node} {a many : Nat} {btw : List Step} {d : Int} (hbt : ∀ s, s ∈ btw → s.Ok) (hmn : many < 256) (hbl : btw.length ≤ 60) {k : List K} {r : Option (AVal × AMem)}
    (hx : ∀ (t : Tree) (got stays : List Ent) (tk : Tk), TkOk tk → ∀ (v16 v17 v19 v91 : AVal), Up got → (∀ s, s ∈ stays → s ∈ got) → got.length ≤ 1000 → stays.length ≤ 5 →
      kr (acall (tabX cLe)) [.tmp 8] 0 k ⟨.exit 0, [(2, .int .u8 many), (3, eSteps btw), (9, .bool true), (10, .ptr 0 0), (11, .int .i64 d), (14, .slice tk (stays.map eEnt)), (15, .slice (.own 3) (got.map eEnt)), (16, v16), (17, v17), (19, v19), (91, v91)], [.cells (eTreeC t), .cells (eNodeC first), .tick 3 a, .tick 3 got.length]⟩ = r)
    (hret : ∀ M, kr (acall (tabX cLe)) [.tmp 8] 0 k ⟨.ret, [(8, .bool true)], M⟩ = r) :
    ∀ (m i : Nat) (t : Tree) (z : Int) (got stays : List Ent) (tk : Tk), TkOk tk → i + m = 125 → LInv d t z got stays i (61 + min i btw.length) → Sz (301 + 5 * i) t →
      exK (acall (tabX cLe)) [.tmp 8] 0 k (.loop [2, 3, 9, 10, 11, 14, 15, 16, 17] lb5_2) [(2, .int .u8 many), (3, eSteps btw), (9, .bool true), (10, .ptr 0 0), (11, .int .i64 d), (14, .slice tk (stays.map eEnt)), (15, .slice (.own 3) (got.map eEnt)), (16, .int .i64 z), (17, .int .i64 i)] [.cells (eTreeC t), .cells (eNodeC first), .tick 3 a, .tick 3 got.length] = r := by
  intro m
  induction m with
  | zero =>
    intro i t z got stays tk htk hm hL hz
    exfalso
    have h1 := hL.pos; have h2 := hL.top; have h3 := hL.ck
    omega
  | succ m ih =>
    intro i t z got stays tk htk hm hL hz
    obtain ⟨tn, tx, tc⟩ := t
    obtain ⟨dep, hi⟩ := hL.inv
    have hpos := hL.pos
    have hgl := hL.gl
    have hfew := hL.few
    have ht : Small ⟨tn, tx, tc⟩ := hz.small (by omega)
    have hi200 : decide ((i : Int) < 200) = true := by rw [decide_eq_true_eq]; omega
    have hwm0 : IntKind.i64.wrap (many : Int) = many := wrap_small (by omega) (by omega)
    have hm3 : (many : Int).tmod 3 = ((many % 3 : Nat) : Int) := by rw [Int.tmod_eq_emod_of_nonneg (by omega)]; rfl
    have hwm : IntKind.i64.wrap (((many % 3 : Nat) : Int) + 1) = ((many % 3 + 1 : Nat) : Int) := by rw [wrap_small (by omega) (by omega)]; omega
    have e3 : ((3 : Int) = 0) = False := by simp
    have hcb := hi.cookie
    simp only at hcb
    have q24 := fun M => k24 xLe rfl rfl hi ht d z (many % 3 + 1) (by omega) (by omega) (by omega) hcb.2 M
    simp only [eTreeC, eNodeC] at hx ih ⊢
    by_cases he : (listN tn d z (many % 3 + 1)).2.2 = 0
    · obtain ⟨n, p, hf, hp, hup, hmem, hcase⟩ := LInv.piece hL he (many := many % 3 + 1) (by omega) (by omega)
      simp only at hf
      have hpl : p.length ≤ 5 := by
        rw [hp, isort_len]; exact Nat.le_trans (List.length_filter_le _ _) (hi.few hf)
      rcases hcase with ⟨_, hl⟩ | ⟨_, y, hy, hl, hy1, hy2, hy3⟩
      · obtain ⟨l1, l2⟩ := hL.last hf hup hmem
        have hroom : roomOk (got.length + p.length) 32 = True := room_ok (by omega) (by omega)
        have h00 : ((0 : Int) == 0) = true := rfl
        have hx' := hx ⟨tn, tx, tc⟩ (got ++ p) stays tk htk (.int .i64 z) (.int .i64 i) (.int .i64 0) (.bool true) l1 l2 (by simp; omega) hL.few
        simp only [List.map_append, List.length_append, eTreeC, eNodeC] at hx'
        simp only at hl
        rw [exK_loop]
        simp only [E5, TK1 htk, eNodeC, hi200, hwm0, hm3, hwm, e3, q24, hl, hroom, wid_ents, h00, bne_self_eq_false, EVT, EVD, ↓reduceIte, Nat.reduceEqDiff, reduceCtorEq, Nat.reduceAdd, Nat.reduceLeDiff, ne_eq, Nat.reduceLT, Int.reduceLT, Int.reduceLE, Int.reduceNeg]
        exact hx'
      · simp only at hl hy2
        have hyl := up_take_le hup (many := many % 3 + 1) (by omega) hy
        obtain ⟨P, hP⟩ : ∃ P, P = p.take (many % 3 + 1) := ⟨_, rfl⟩
        rw [← hP] at hl hy3 hyl
        have htl : P.length ≤ 5 := by rw [hP]; exact Nat.le_trans (List.length_take_le _ _) (by omega)
        have hroom : roomOk (got.length + P.length) 32 = True := room_ok (by omega) (by omega)
        have c1 : ((y.cookie + 1) == 0) = false := by simp; omega
        have c2 : decide (y.cookie + 1 ≤ z) = false := by rw [decide_eq_false_iff_not]; omega
        have c3 : ((i : Int) == 199) = false := by simp; omega
        have hwi : IntKind.i64.wrap ((i : Int) + 1) = ((i + 1 : Nat) : Int) := by rw [wrap_small (by omega) (by omega)]; omega
        by_cases hib : i < btw.length
        · have hlt : decide ((i : Int) < (btw.length : Int)) = true := by rw [decide_eq_true_eq]; omega
          obtain ⟨s, hs⟩ : ∃ s, btw[i]? = some s := ⟨_, List.getElem?_eq_getElem hib⟩
          have hso := hbt s (List.mem_of_getElem? hs)
          have q25 := fun M => kX xLe (k25 tn tx tc s (hz.up (by omega)) hso M)
          have hdi := doneN_inv hi s
          have hdk := doneN_kinds hi s
          have hdc := doneN_cookie hi s
          have hdc0 := doneN_cookie_ge hi s
          have hdz := hz.done s hso
          have hcc := hL.ck
          generalize doneN ⟨tn, tx, tc⟩ s = U3 at *
          obtain ⟨⟨un, ux, uc⟩, uy, ue⟩ := U3
          simp only at hdi hdk hdc hdc0 hdz hcc
          obtain ⟨depu, hui⟩ := hdi
          have hsu : Small ⟨un, ux, uc⟩ := hdz.small (by omega)
          have q19 := fun M => kX xLe (k19 un ux uc d hsu hui.srt M)
          have hnx := hL.next (u := ⟨un, ux, uc⟩) (c' := 61 + min (i + 1) btw.length) hP hf hup hmem (many := many % 3 + 1) (by omega) hy1 hy2 hy3 hyl ⟨depu, hui⟩ hdk hdc0 (by simp only; omega)
          simp only at hnx
          have hh := ih (i + 1) ⟨un, ux, uc⟩ (y.cookie + 1) (got ++ P) (stayN (nodeN un d).ents stays) .sh tkS (by omega) hnx (hdz.up (by omega))
          have hnl : (nodeN un d).ents.length ≤ 100 := by
            cases hd' : find un d with
            | none => simp [nodeN, hd', Node.zero]
            | some m' => simp only [nodeN, hd', Option.getD_some]; have := hui.few hd'; omega
          have hlb := fun k r hx => loop5bu htk (tn := un) (tx := ux) (tc := uc) (un := un) (ux := ux) (uc := uc) (first := first) (now := nodeN un d) (a := a) (many := many) (btw := btw) (d := d) (z := y.cookie + 1) (i := (i : Int)) (got := got ++ P) (stays := stays) hnl hL.few (k := k) (r := r) hx stays [] [] rfl rfl (by have := hL.few; simp; omega)
          simp only [eTreeC, eNodeC, List.map_append, List.length_append, List.map_nil, List.length_nil] at hlb hh
          have tk6 : List.take 6 (eStepC s) = eStepC s := rfl
          have sh6 : List.map AVal.shut (eStepC s) = eStepC s := rfl
          have id6 : List.flatMap AVal.ids1 (eStepC s) = [] := rfl
          rw [exK_loop]
          simp only [E5, TK1 htk, eNodeC, eNode, eTree, eTreeC, hi200, hwm0, hm3, hwm, e3, q24, hl, hroom, wid_ents, c1, c2, c3, hlt, hs, tk6, sh6, id6, q25, q19, bne_self_eq_false, EVT, EVD, ↓reduceIte, Nat.reduceEqDiff, reduceCtorEq, Nat.reduceAdd, Nat.reduceLeDiff, ne_eq, Nat.reduceLT, Int.reduceLT, Int.reduceLE, Int.reduceNeg]
          refine hlb _ _ (fun left v q hfin => ?_)
          have hfin' : left = stayN (nodeN un d).ents stays := hfin
          subst hfin'
          simp only [E5, TK1 htk, hwi, EVT, EVD, ↓reduceIte, Nat.reduceEqDiff, reduceCtorEq, Nat.reduceAdd, Nat.reduceLeDiff, ne_eq, Nat.reduceLT, Int.reduceLT, Int.reduceLE, Int.reduceNeg]
          exact hh
        · have hlt : decide ((i : Int) < (btw.length : Int)) = false := by rw [decide_eq_false_iff_not]; omega
          have q19 := fun M => kX xLe (k19 tn tx tc d ht hi.srt M)
          have hcc := hL.ck
          simp only at hcc
          have hnx := hL.next (u := ⟨tn, tx, tc⟩) (c' := 61 + min (i + 1) btw.length) hP hf hup hmem (many := many % 3 + 1) (by omega) hy1 hy2 hy3 hyl ⟨dep, hi⟩ ⟨Int.le_refl _, fun _ n' _ hn => ⟨n', hn, rfl⟩⟩ (Int.le_refl _) (by simp only; omega)
          simp only at hnx
          have hh := ih (i + 1) ⟨tn, tx, tc⟩ (y.cookie + 1) (got ++ P) (stayN (nodeN tn d).ents stays) .sh tkS (by omega) hnx (hz.up (by omega))
          have hnl : (nodeN tn d).ents.length ≤ 100 := by simp only [nodeN, hf, Option.getD_some]; have := hi.few hf; omega
          have hlb := fun k r hx => loop5bn htk (tn := tn) (tx := tx) (tc := tc) (first := first) (now := nodeN tn d) (a := a) (many := many) (btw := btw) (d := d) (z := y.cookie + 1) (i := (i : Int)) (got := got ++ P) (stays := stays) hnl hL.few (k := k) (r := r) hx stays [] [] rfl rfl (by have := hL.few; simp; omega)
          simp only [eTreeC, eNodeC, List.map_append, List.length_append, List.map_nil, List.length_nil] at hlb hh
          rw [exK_loop]
          simp only [E5, TK1 htk, eNodeC, eNode, hi200, hwm0, hm3, hwm, e3, q24, hl, hroom, wid_ents, c1, c2, c3, hlt, q19, bne_self_eq_false, EVT, EVD, ↓reduceIte, Nat.reduceEqDiff, reduceCtorEq, Nat.reduceAdd, Nat.reduceLeDiff, ne_eq, Nat.reduceLT, Int.reduceLT, Int.reduceLE, Int.reduceNeg]
          refine hlb _ _ (fun left v q hfin => ?_)
          have hfin' : left = stayN (nodeN tn d).ents stays := hfin
          subst hfin'
          simp only [E5, TK1 htk, hwi, EVT, EVD, ↓reduceIte, Nat.reduceEqDiff, reduceCtorEq, Nat.reduceAdd, Nat.reduceLeDiff, ne_eq, Nat.reduceLT, Int.reduceLT, Int.reduceLE, Int.reduceNeg]
          exact hh
    · have hb : ((listN tn d z (many % 3 + 1)).2.2 != 0) = true := by simpa using he
      have h70 : ((listN tn d z (many % 3 + 1)).2.2 == 70) = true := by
        have := LInv.err hL (many := many % 3 + 1) he
        simp only at this
        simp [this]
      rw [exK_loop]
      simp only [E5, TK1 htk, eNodeC, hi200, hwm0, hm3, hwm, e3, q24, hb, h70, EVT, EVD, ↓reduceIte, Nat.reduceEqDiff, reduceCtorEq, Nat.reduceAdd, Nat.reduceLeDiff, ne_eq, Nat.reduceLT, Int.reduceLT, Int.reduceLE, Int.reduceNeg]
      exact hret _
set_option maxHeartbeats 4000000 in
theorem c5 (l : List Step) (a many : Nat) (btw : List Step) (hl : ∀ s, s ∈ l → stepOk s) (ha : a < 256) (hmn : many < 256) (hbs : ∀ s, s ∈ btw → stepOk s) : acall (tabX cLe) 5 [eSteps l, eU a, eU many, eSteps btw] [] = some (.bool true, []) := by
  refine acall_ex rfl rfl rfl ?_
  simp only [fn5, E5, kHead xLe, kGreat xLe, EVT, EVD, ↓reduceIte, Nat.reduceEqDiff, reduceCtorEq, Nat.reduceAdd, Nat.reduceLeDiff, ne_eq, Nat.reduceLT, Int.reduceLT, Int.reduceLE, Int.reduceNeg]
  refine guard_split (fun hg => ?_) (fun hg => ?_)
  rotate_left
  · simp only [E5, hg, EVT, EVD, ↓reduceIte, Nat.reduceEqDiff, reduceCtorEq, Nat.reduceAdd, Nat.reduceLeDiff, ne_eq, Nat.reduceLT, Int.reduceLT, Int.reduceLE, Int.reduceNeg]
  simp only [E5, hg, kGreat xLe, EVT, EVD, ↓reduceIte, Nat.reduceEqDiff, reduceCtorEq, Nat.reduceAdd, Nat.reduceLeDiff, ne_eq, Nat.reduceLT, Int.reduceLT, Int.reduceLE, Int.reduceNeg]
  refine fork_split (fun hd => ?_) (fun hd => ?_)
  · simp only [E5, EVT, EVD, ↓reduceIte, Nat.reduceEqDiff, reduceCtorEq, Nat.reduceAdd, Nat.reduceLeDiff, ne_eq, Nat.reduceLT, Int.reduceLT, Int.reduceLE, Int.reduceNeg]
  obtain ⟨hlen, hok⟩ := great_ok hg hl
  obtain ⟨hbl, hbt⟩ := great_ok hd hbs
  have hmade := fun M => kX xLe (k13 l (by omega) hok M)
  obtain ⟨dep, hinv⟩ := madeN_inv l
  have hck := madeN_cookie l
  have hz : Sz 301 (madeN l) := (madeN_sz l hok).up (by omega)
  generalize madeN l = T at *
  obtain ⟨nodes, next, cookie⟩ := T
  have ht : Small ⟨nodes, next, cookie⟩ := hz.small (by omega)
  have q14 := fun i hi M => kX xLe (k14 nodes next cookie i hi ht.nodes M)
  have q19 := fun ino M => kX xLe (k19 nodes next cookie ino ht hinv.srt M)
  simp only [E5, hmade, eTree, eTreeC, q14, ha, q19, eNode, eNodeC, EVT, EVD, ↓reduceIte, Nat.reduceEqDiff, reduceCtorEq, Nat.reduceAdd, Nat.reduceLeDiff, ne_eq, Nat.reduceLT, Int.reduceLT, Int.reduceLE, Int.reduceNeg]
  generalize inoAt ⟨nodes, next, cookie⟩ a = d at *
  cases hf : find nodes d with
  | none => simp only [E5, nodeN, hf, Option.isSome_none, EVT, EVD, ↓reduceIte, Nat.reduceEqDiff, reduceCtorEq, Nat.reduceAdd, Nat.reduceLeDiff, ne_eq, Nat.reduceLT, Int.reduceLT, Int.reduceLE, Int.reduceNeg]
  | some first =>
    have hnd : nodeN nodes d = first := by simp [nodeN, hf]
    by_cases hk : first.kind = 2
    rotate_left
    · have hkb : (first.kind != 2) = true := by simpa using hk
      simp only [E5, hnd, Option.isSome_some, hkb, EVT, EVD, ↓reduceIte, Nat.reduceEqDiff, reduceCtorEq, Nat.reduceAdd, Nat.reduceLeDiff, ne_eq, Nat.reduceLT, Int.reduceLT, Int.reduceLE, Int.reduceNeg]
    have hkb : (first.kind != 2) = false := by simp [hk]
    have hfew : first.ents.length ≤ 5 := hinv.few hf
    have hnum := hinv.num _ _ hf
    have hroom : roomOk first.ents.length 32 = True := room_ok (by omega) (by omega)
    have hL : LInv d ⟨nodes, next, cookie⟩ 0 [] first.ents 0 (61 + min 0 btw.length) := by
      refine ⟨⟨dep, hinv⟩, fun n hn => ?_, hnum.2, List.Pairwise.nil, fun e he => (by cases he), fun e he => ⟨first, hf, he⟩, fun e he hc => ?_, hfew, by simp, ?_, ?_, by simp⟩
      · simp only at hn; rw [hf] at hn; injection hn with hn; subst hn; exact hk
      · have := (hinv.ent _ _ e hf he).1; omega
      · have := hinv.cookie; simp only at this ⊢; omega
      · simp only at hck ⊢; omega
    have hlp := fun k r hx hret => loop5m (first := first) (a := first.ents.length) (many := many) (btw := btw) (d := d) hbt hmn hbl (k := k) (r := r) hx hret 125 0 ⟨nodes, next, cookie⟩ 0 [] first.ents (.own 2) tkO rfl hL hz
    simp only [eTreeC, eNodeC, List.map_nil, List.length_nil] at hlp
    simp only [E5, hnd, Option.isSome_some, hkb, hroom, wid_ents, EVT, EVD, ↓reduceIte, Nat.reduceEqDiff, reduceCtorEq, Nat.reduceAdd, Nat.reduceLeDiff, ne_eq, Nat.reduceLT, Int.reduceLT, Int.reduceLE, Int.reduceNeg]
    refine hlp _ _ (fun t got stays tk htk v16 v17 v19 v91 hup hin hg hsl => ?_) (fun M => ?_)
    ·
      have hld := fun k r hx => loop5d htk (tn := t.nodes) (tx := t.next) (tc := t.cookie) (first := first) (a := first.ents.length) (g := got.length) (got := got) (stays := stays) hg hup (k := k) (r := r) hx got [] rfl
      have hlf := fun k r hx => loop5f htk (tn := t.nodes) (tx := t.next) (tc := t.cookie) (first := first) (a := first.ents.length) (g := got.length) (got := got) (stays := stays) hg (by omega) (fun s hs => up_count hup (hin s hs)) (k := k) (r := r) hx stays [] rfl
      simp only [eNodeC] at hld hlf
      simp only [E5, TK1 htk, eTreeC, eNodeC, EVT, EVD, ↓reduceIte, Nat.reduceEqDiff, reduceCtorEq, Nat.reduceAdd, Nat.reduceLeDiff, ne_eq, Nat.reduceLT, Int.reduceLT, Int.reduceLE, Int.reduceNeg]
      refine hld _ _ (fun v q => ?_)
      simp only [E5, TK1 htk, EVT, EVD, ↓reduceIte, Nat.reduceEqDiff, reduceCtorEq, Nat.reduceAdd, Nat.reduceLeDiff, ne_eq, Nat.reduceLT, Int.reduceLT, Int.reduceLE, Int.reduceNeg]
      refine hlf _ _ (fun v q => ?_)
      simp only [E5, TK1 htk, EVT, EVD, ↓reduceIte, Nat.reduceEqDiff, reduceCtorEq, Nat.reduceAdd, Nat.reduceLeDiff, ne_eq, Nat.reduceLT, Int.reduceLT, Int.reduceLE, Int.reduceNeg]
    · simp only [E5, EVT, EVD, ↓reduceIte, Nat.reduceEqDiff, reduceCtorEq, Nat.reduceAdd, Nat.reduceLeDiff, ne_eq, Nat.reduceLT, Int.reduceLT, Int.reduceLE, Int.reduceNeg]
theorem treeList_holds : Rows.TreeListSaid := treeList_of (soundX xLe) c5
end Go.Proofs.YtnapockikkbkcaaGreat
