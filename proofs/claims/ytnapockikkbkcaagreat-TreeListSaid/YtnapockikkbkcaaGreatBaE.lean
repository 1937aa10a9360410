import Derived.Laws.RangeString
import Derived.RangeFuncBox
import Derived.RangeFuncFrom
import Derived.RangeFuncLeaves
import Derived.Shelf.Abstract
import Derived.WalkKit
import Derived.OwnWalkIn
import Derived.TacticsInMore
import Derived.LoopNIn
import Derived.LoopIn
import Derived.Maps.AppendAt
import Derived.Test.YtnapockikkbkcaaGreatBaD
set_option linter.unusedSimpArgs false
set_option linter.unusedVariables false
namespace Go.Proofs.YtnapockikkbkcaaGreat
open Go Go.Abs
attribute [local irreducible] exK opsK opK gK forkK kr acall callOp owhen obind
theorem insL_len (e : Ent) : ∀ (l out : List Ent) (d : Bool), (insL e l out d).1.length + (if (insL e l out d).2 = true then 0 else 1) ≤ out.length + l.length + (if d = true then 0 else 1)
  | [], out, d => by simp only [insL, List.length_nil, Nat.add_zero]; exact Nat.le_refl _
  | m :: r, out, d => by
    rw [insL]
    refine Nat.le_trans (insL_len e r _ _) ?_
    cases d <;> cases h1 : gtB m.name e.name <;> simp <;> omega
theorem insE_len (l : List Ent) (e : Ent) : (insE l e).length ≤ l.length + 1 := by
  have := insL_len e l [] false
  unfold insE
  split at this <;> simp_all
theorem Sz.entered {b : Nat} {t : Tree} (h : Sz b t) (ino : Int) (s : Bytes) (of : Int) : Sz (b + 1) (enteredN t ino s of) :=
  h.with (n := { nodeN t.nodes ino with ents := insE (nodeN t.nodes ino).ents ⟨s, of, t.cookie⟩ }) (Nat.le_trans (insE_len _ _) (Nat.succ_le_succ (h.find ino).1)) (h.find ino).2 t.next (w64 (t.cookie + 1))
theorem Sz.add {b : Nat} {t : Tree} (h : Sz b t) (ino : Int) (s : Bytes) (kind : Int) : Sz (b + 5) (addN t ino s kind).1 := by
  unfold addN
  split
  · exact h.up (by omega)
  · split
    · exact h.up (by omega)
    · split
      · exact h.up (by omega)
      · exact ((h.with (n := ⟨t.next, kind, 1, [], [], if (kind == 2) = true then ino else 0⟩) (by simp) (by simp) (w64 (t.next + 1)) t.cookie).entered ino s t.next).up (by omega)
theorem Sz.ln {b : Nat} {t : Tree} (h : Sz b t) (ino to : Int) (s : Bytes) : Sz (b + 5) (lnN t ino to s).1 := by
  unfold lnN
  split
  · exact h.up (by omega)
  · split
    · exact h.up (by omega)
    · split
      · exact h.up (by omega)
      · exact ((h.with (n := { nodeN t.nodes ino with links := w64 ((nodeN t.nodes ino).links + 1) }) (Nat.le_succ_of_le (h.find ino).1) (h.find ino).2 t.next t.cookie).entered to s ino).up (by omega)
theorem Sz.un {b : Nat} {t : Tree} (h : Sz b t) (ino : Int) (s : Bytes) : Sz (b + 5) (unN t ino s).1 := by
  unfold unN
  split
  · exact h.up (by omega)
  · split
    · exact h.up (by omega)
    · exact ((h.left ino s t.next t.cookie).unnamed _ t.next t.cookie).up (by omega)
theorem Sz.put {b : Nat} {t : Tree} (h : Sz b t) (ino : Int) (data : Bytes) (hd : data.length ≤ 100000) : Sz (b + 5) (putN t ino data).1 := by
  unfold putN
  split
  · exact h.up (by omega)
  · split
    · exact h.up (by omega)
    · split
      · exact h.up (by omega)
      · exact (h.with (n := { nodeN t.nodes ino with data := data }) (Nat.le_succ_of_le (h.find ino).1) hd t.next t.cookie).up (by omega)
theorem Sz.free {b : Nat} {t : Tree} (h : Sz b t) (ino : Int) : Sz (b + 5) (freeN t ino).1 := by
  unfold freeN
  split
  · exact h.up (by omega)
  · split
    · exact h.up (by omega)
    · split
      · exact h.up (by omega)
      · exact (h.without ino t.next t.cookie).up (by omega)
theorem Sz.move {b : Nat} {t : Tree} (h : Sz b t) (frm : Int) (s : Bytes) (to : Int) (nm : Bytes) (ino y : Int) : Sz (b + 5) (moveN t frm s to nm ino y) := by
  unfold moveN
  have z1 := h.left frm s t.next t.cookie
  have z3 := (z1.left to nm t.next t.cookie).unnamed y t.next t.cookie
  have z : Sz (b + 3) ⟨if (y != 0) = true then unnamedN (leftN (leftN t.nodes frm s) to nm) y else leftN t.nodes frm s, t.next, t.cookie⟩ := by
    split
    · exact z3
    · exact z1.up (by omega)
  split
  · exact ((z.with (n := { nodeN t.nodes ino with up := to }) (Nat.le_trans (h.find ino).1 (by omega)) (h.find ino).2 t.next t.cookie).entered to nm ino).up (by omega)
  · exact (z.entered to nm ino).up (by omega)
theorem Sz.mv {b : Nat} {t : Tree} (h : Sz b t) (frm : Int) (s : Bytes) (to : Int) (nm : Bytes) : Sz (b + 5) (mvN t frm s to nm).1 := by
  unfold mvN
  repeat' split
  all_goals first
    | exact h.up (by omega)
    | exact h.move frm s to nm _ _
theorem Sz.done {b : Nat} {t : Tree} (h : Sz b t) (s : Step) (hs : s.Ok) : Sz (b + 5) (doneN t s).1 := by
  unfold doneN
  repeat' split
  all_goals first
    | exact h.add _ _ _
    | exact h.ln _ _ _
    | exact h.un _ _
    | exact h.mv _ _ _ _
    | exact h.put _ _ hs.data
    | exact h.free _
def madeN (l : List Step) : Tree := l.foldl (fun t s => (doneN t s).1) newN
theorem Sz.newN : Sz 1 newN := ⟨by simp [Go.Proofs.YtnapockikkbkcaaGreat.newN], fun n hn => by simp [Go.Proofs.YtnapockikkbkcaaGreat.newN] at hn; subst hn; simp, fun n hn => by simp [Go.Proofs.YtnapockikkbkcaaGreat.newN] at hn; subst hn; simp⟩
theorem k25 (nodes : List Node) (next cookie : Int) (s : Step) (hz : Sz 1000 ⟨nodes, next, cookie⟩) (hs : s.Ok) (M : AMem) : callOp (acall tab) 25 [.agg [eNodes nodes, .int .i64 next, .int .i64 cookie], .agg (eStepC s)] M =
    some (.tuple [eTree (doneN ⟨nodes, next, cookie⟩ s).1, .int .i64 (doneN ⟨nodes, next, cookie⟩ s).2.1, .int .i64 (doneN ⟨nodes, next, cookie⟩ s).2.2], M) := callOp0 (c25 ⟨nodes, next, cookie⟩ s hz hs) rfl rfl rfl rfl rfl M
theorem loop13 {steps : List Step} (hl : steps.length ≤ 100) (ho : ∀ s, s ∈ steps → s.Ok) {k : List K} {R : Tree → Option (AVal × AMem)}
    (hx : ∀ t v q, kr (acall tab) [.cellA 2 3] 0 k ⟨.exit 0, [(0, .slice .sh (steps.map eStep)), (2, .ptr 0 0), (3, .ptr 1 0), (4, v), (12, q)], [.cells zT, .cells (eTreeC t)]⟩ = R t) :
    ∀ (l pre : List Step) (t : Tree), steps = pre ++ l → Sz (1 + 5 * pre.length) t → exK (acall tab) [.cellA 2 3] 0 k (.loop [0, 2, 3, 4] lb13_0) [(0, .slice .sh (steps.map eStep)), (2, .ptr 0 0), (3, .ptr 1 0), (4, .int .i64 pre.length)] [.cells zT, .cells (eTreeC t)] = R (l.foldl (fun t s => (doneN t s).1) t) := by
  intro l
  induction l with
  | nil =>
    intro pre t h hz
    rw [exK_loop]
    simp only [E13, lt_end h, EVT, EVD, ↓reduceIte, Nat.reduceEqDiff, reduceCtorEq, Nat.reduceAdd, Nat.reduceLeDiff, ne_eq, Nat.reduceLT, Int.reduceLT, Int.reduceLE, Int.reduceNeg]
    exact hx _ _ _
  | cons n r ih =>
    intro pre t h hz
    have hlen : pre.length + 1 ≤ 100 := by rw [h] at hl; simp at hl; omega
    have hw : IntKind.i64.wrap ((pre.length : Int) + 1) = ((pre ++ [n]).length : Int) := by rw [wrap_small (by omega) (by omega)]; exact step_len
    have hok : n.Ok := ho n (by rw [h]; simp)
    have hd : Sz (1 + 5 * (pre ++ [n]).length) (doneN t n).1 := (hz.done n hok).up (by simp; omega)
    have hi := ih (pre ++ [n]) (doneN t n).1 (by rw [h]; simp) hd
    have hz' : Sz 1000 ⟨t.nodes, t.next, t.cookie⟩ := hz.up (by omega)
    have ht4 : List.take 6 (eStepC n) = eStepC n := rfl
    have hsh : List.map AVal.shut (eStepC n) = eStepC n := rfl
    have hid : List.flatMap AVal.ids1 (eStepC n) = [] := rfl
    simp only [List.length_append, List.length_cons, List.length_nil] at hi
    rw [exK_loop, List.foldl_cons]
    simp only [E13, lt_mid h, at_mid h, eTreeC, zT, k25, hz', hok, ht4, hsh, hid, eTree, hw, EVT, EVD, ↓reduceIte, Nat.reduceEqDiff, reduceCtorEq, Nat.reduceAdd, Nat.reduceLeDiff, ne_eq, Nat.reduceLT, Int.reduceLT, Int.reduceLE, Int.reduceNeg]
    exact hi
theorem c13 (steps : List Step) (hl : steps.length ≤ 100) (ho : ∀ s, s ∈ steps → s.Ok) : acall tab 13 [.slice .sh (steps.map eStep)] [] = some (eTree (madeN steps), []) := by
  refine acall_ex rfl rfl rfl ?_
  simp only [fn13, E13, k39, eTree, eTreeC, EVT, EVD, ↓reduceIte, Nat.reduceEqDiff, reduceCtorEq, Nat.reduceAdd, Nat.reduceLeDiff, ne_eq, Nat.reduceLT, Int.reduceLT, Int.reduceLE, Int.reduceNeg]
  exact loop13 (R := fun t => some (eTree t, [])) hl ho (fun t v q => by simp only [E13, zT, eTree, eTreeC, EVT, EVD, ↓reduceIte, Nat.reduceEqDiff, reduceCtorEq, Nat.reduceAdd, Nat.reduceLeDiff, ne_eq, Nat.reduceLT, Int.reduceLT, Int.reduceLE, Int.reduceNeg]) steps [] newN rfl Sz.newN
theorem madeN_sz (steps : List Step) (ho : ∀ s, s ∈ steps → s.Ok) : Sz (1 + 5 * steps.length) (madeN steps) := by
  have key : ∀ (l : List Step) (b : Nat) (t : Tree), (∀ s, s ∈ l → s.Ok) → Sz b t → Sz (b + 5 * l.length) (l.foldl (fun t s => (doneN t s).1) t) := by
    intro l
    induction l with
    | nil => intro b t _ h; exact h
    | cons s r ih =>
      intro b t ho h
      exact (ih (b + 5) _ (fun x hx => ho x (List.mem_cons_of_mem _ hx)) (h.done s (ho s (List.mem_cons_self ..)))).up (by simp; omega)
  exact key steps 1 newN ho Sz.newN
theorem k13 (steps : List Step) (hl : steps.length ≤ 100) (ho : ∀ s, s ∈ steps → s.Ok) (M : AMem) : callOp (acall tab) 13 [.slice .sh (steps.map eStep)] M = some (eTree (madeN steps), M) := callOp0 (c13 steps hl ho) rfl rfl rfl rfl rfl M
def lbelowGo (nodes : List Node) (of : Int) : Nat → Int → Bool
  | 0, _ => false
  | m + 1, ino => if (ino == of) = true then true else if (!(find nodes ino).isSome || ino == 1) = true then false else lbelowGo nodes of m (upOf nodes ino)
def lbelowN (nodes : List Node) (ino of : Int) : Bool := lbelowGo nodes of (nodes.length + 1) ino
theorem loop23 {nodes : List Node} {next cookie of : Int} (ht : nodes.length ≤ 100000) {k : List K} {R : Bool → Option (AVal × AMem)}
    (hx : ∀ e, kr (acall tab) [.tmp 6] 0 k ⟨.exit 0, e, [.cells (eTreeC ⟨nodes, next, cookie⟩)]⟩ = R false) (hr : ∀ b M, kr (acall tab) [.tmp 6] 0 k ⟨.ret, [(6, .bool b)], M⟩ = R b) :
    ∀ (m : Nat) (ino : Int) (d : Nat), d + m = nodes.length + 1 → exK (acall tab) [.tmp 6] 0 k (.loop [1, 2, 3, 7] lb23_0) [(1, .int .i64 ino), (2, .int .i64 of), (3, .ptr 0 0), (7, .int .i64 d)] [.cells (eTreeC ⟨nodes, next, cookie⟩)] = R (lbelowGo nodes of m ino) := by
  intro m
  induction m with
  | zero =>
    intro ino d hd
    rw [exK_loop]
    have hd' : ((d : Int) ≤ (nodes.length : Int)) = False := by simp; omega
    simp only [E23, eTreeC, hd', EVT, EVD, ↓reduceIte, Nat.reduceEqDiff, reduceCtorEq, Nat.reduceAdd, Nat.reduceLeDiff, ne_eq, Nat.reduceLT, Int.reduceLT, Int.reduceLE, Int.reduceNeg]
    exact hx _
  | succ m ih =>
    intro ino d hd
    rw [exK_loop]
    have hd' : ((d : Int) ≤ (nodes.length : Int)) = True := by simp; omega
    have hw : IntKind.i64.wrap ((d : Int) + 1) = ((d + 1 : Nat) : Int) := by rw [wrap_small (by omega) (by omega)]; rfl
    have hi := fun ino => ih ino (d + 1) (by omega)
    simp only [eTreeC] at hi
    rw [lbelowGo]
    simp only [E23, eTreeC, hd', EVT, EVD, ↓reduceIte, Nat.reduceEqDiff, reduceCtorEq, Nat.reduceAdd, Nat.reduceLeDiff, ne_eq, Nat.reduceLT, Int.reduceLT, Int.reduceLE, Int.reduceNeg]
    refine fork_split (fun hb => ?_) (fun hb => ?_)
    · simp only [E23, hb, EVT, EVD, ↓reduceIte, Nat.reduceEqDiff, reduceCtorEq, Nat.reduceAdd, Nat.reduceLeDiff, ne_eq, Nat.reduceLT, Int.reduceLT, Int.reduceLE, Int.reduceNeg]
      exact hr _ _
    · simp only [E23, hb, hw, k56, ht, eNode, eNodeC, EVT, EVD, ↓reduceIte, Nat.reduceEqDiff, reduceCtorEq, Nat.reduceAdd, Nat.reduceLeDiff, ne_eq, Nat.reduceLT, Int.reduceLT, Int.reduceLE, Int.reduceNeg]
      refine guard_split (fun hb1 => ?_) (fun hb1 => ?_)
      · simp only [E23, hb1, hw, EVT, EVD, ↓reduceIte, Nat.reduceEqDiff, reduceCtorEq, Nat.reduceAdd, Nat.reduceLeDiff, ne_eq, Nat.reduceLT, Int.reduceLT, Int.reduceLE, Int.reduceNeg]
        refine fork_split (fun hb2 => ?_) (fun hb2 => ?_)
        · simp only [E23, hb2, hb1, Bool.or_true, Bool.false_eq_true, EVT, EVD, ↓reduceIte, Nat.reduceEqDiff, reduceCtorEq, Nat.reduceAdd, Nat.reduceLeDiff, ne_eq, Nat.reduceLT, Int.reduceLT, Int.reduceLE, Int.reduceNeg]
          exact hr _ _
        · simp only [E23, hb2, hb1, hw, Bool.or_false, Bool.false_eq_true, EVT, EVD, ↓reduceIte, Nat.reduceEqDiff, reduceCtorEq, Nat.reduceAdd, Nat.reduceLeDiff, ne_eq, Nat.reduceLT, Int.reduceLT, Int.reduceLE, Int.reduceNeg]
          exact hi _
      · simp only [E23, hb1, hw, Bool.not_false, Bool.true_or, Bool.false_eq_true, EVT, EVD, ↓reduceIte, Nat.reduceEqDiff, reduceCtorEq, Nat.reduceAdd, Nat.reduceLeDiff, ne_eq, Nat.reduceLT, Int.reduceLT, Int.reduceLE, Int.reduceNeg]
        exact hr _ _
theorem c23 (t : Tree) (ino of : Int) (ht : t.nodes.length ≤ 100000) : acall tab 23 [eTree t, .int .i64 ino, .int .i64 of] [] = some (.bool (lbelowN t.nodes ino of), []) := by
  obtain ⟨nodes, next, cookie⟩ := t
  have ht : nodes.length ≤ 100000 := ht
  refine acall_ex rfl rfl rfl ?_
  simp only [fn23, E23, eTree, EVT, EVD, ↓reduceIte, Nat.reduceEqDiff, reduceCtorEq, Nat.reduceAdd, Nat.reduceLeDiff, ne_eq, Nat.reduceLT, Int.reduceLT, Int.reduceLE, Int.reduceNeg]
  exact loop23 (R := fun b => some (.bool b, [])) ht (fun e => by simp only [E23, EVT, EVD, ↓reduceIte, Nat.reduceEqDiff, reduceCtorEq, Nat.reduceAdd, Nat.reduceLeDiff, ne_eq, Nat.reduceLT, Int.reduceLT, Int.reduceLE, Int.reduceNeg]) (fun b M => by simp only [E23, EVT, EVD, ↓reduceIte, Nat.reduceEqDiff, reduceCtorEq, Nat.reduceAdd, Nat.reduceLeDiff, ne_eq, Nat.reduceLT, Int.reduceLT, Int.reduceLE, Int.reduceNeg]) (nodes.length + 1) ino 0 (by omega)
theorem k23 (nodes : List Node) (next cookie ino of : Int) (h : nodes.length ≤ 100000) (M : AMem) : callOp (acall tab) 23 [.agg [eNodes nodes, .int .i64 next, .int .i64 cookie], .int .i64 ino, .int .i64 of] M = some (.bool (lbelowN nodes ino of), M) :=
  callOp0 (c23 ⟨nodes, next, cookie⟩ ino of h) rfl rfl rfl rfl rfl M
end Go.Proofs.YtnapockikkbkcaaGreat
namespace Go.Proofs.YtnapockikkbkcaaGreat
open Go Go.Abs
attribute [local irreducible] exK opsK opK gK forkK kr acall callOp owhen obind
theorem tkN (n : Node) : List.take 6 (eNodeC n) = eNodeC n := rfl
theorem shN (n : Node) : List.map AVal.shut (eNodeC n) = eNodeC n := rfl
theorem tkE (n : Ent) : List.take 3 (eEntC n) = eEntC n := rfl
theorem shE (n : Ent) : List.map AVal.shut (eEntC n) = eEntC n := rfl
theorem c92 (a : Int) : acall tab 92 [.int .i64 a] [] = some (.bool false, []) := by
  refine acall_ex rfl rfl rfl ?_
  simp only [fn92, E92, bne_self_eq_false, EVT, EVD, ↓reduceIte, Nat.reduceEqDiff, reduceCtorEq, Nat.reduceAdd, Nat.reduceLeDiff, ne_eq, Nat.reduceLT, Int.reduceLT, Int.reduceLE, Int.reduceNeg]
theorem k92 (a : Int) (M : AMem) : callOp (acall tab) 92 [.int .i64 a] M = some (.bool false, M) := callOp0 (c92 a) rfl rfl rfl rfl rfl M
def cmpI (a b : Int) : Int := if decide (a < b) = true then -1 else if decide (b < a) = true then 1 else 0
theorem c62 (a b : Int) : acall tab 62 [.int .i64 a, .int .i64 b] [] = some (.int .i64 (cmpI a b), []) := by
  refine acall_ex rfl rfl rfl ?_
  simp only [fn62, E62, k92, EVT, EVD, ↓reduceIte, Nat.reduceEqDiff, reduceCtorEq, Nat.reduceAdd, Nat.reduceLeDiff, ne_eq, Nat.reduceLT, Int.reduceLT, Int.reduceLE, Int.reduceNeg]
  repeat' (first | (refine fork_split (fun hb => ?_) (fun hb => ?_) <;> simp only [hb, E62, EVT, EVD, ↓reduceIte, Nat.reduceEqDiff, reduceCtorEq, Nat.reduceAdd, Nat.reduceLeDiff, ne_eq, Nat.reduceLT, Int.reduceLT, Int.reduceLE, Int.reduceNeg]) | (refine guard_split (fun hb => ?_) (fun hb => ?_) <;> simp only [hb, E62, EVT, EVD, ↓reduceIte, Nat.reduceEqDiff, reduceCtorEq, Nat.reduceAdd, Nat.reduceLeDiff, ne_eq, Nat.reduceLT, Int.reduceLT, Int.reduceLE, Int.reduceNeg]) | (refine opK_pick (fun hb => ?_) (fun hb => ?_) <;> simp only [hb, E62, EVT, EVD, ↓reduceIte, Nat.reduceEqDiff, reduceCtorEq, Nat.reduceAdd, Nat.reduceLeDiff, ne_eq, Nat.reduceLT, Int.reduceLT, Int.reduceLE, Int.reduceNeg]))
  all_goals (simp_all only [cmpI, BBT, ↓reduceIte, reduceCtorEq, bne_self_eq_false]; done)
theorem k62 (a b : Int) (M : AMem) : callOp (acall tab) 62 [.int .i64 a, .int .i64 b] M = some (.int .i64 (cmpI a b), M) := callOp0 (c62 a b) rfl rfl rfl rfl rfl M
theorem cmpI_lt (a b : Int) : (cmpI a b < 0) = (a < b) := by
  unfold cmpI
  by_cases h1 : a < b
  · simp [h1]
  · by_cases h2 : b < a <;> simp [h1, h2]
theorem cmpI_eq (a b : Int) : (cmpI a b == 0) = (a == b) := by
  unfold cmpI
  by_cases h1 : a < b
  · have : ¬ a = b := by omega
    simp [h1, this]
  · by_cases h2 : b < a
    · have : ¬ a = b := by omega
      simp [h1, h2, this]
    · have : a = b := by omega
      simp [this]
theorem c112 (n : Node) (ino : Int) : acall tab 112 [eNode n, .int .i64 ino] [] = some (.int .i64 (cmpI n.ino ino), []) := by
  refine acall_ex rfl rfl rfl ?_
  simp only [fn112, E112, eNode, eNodeC, k62, EVT, EVD, ↓reduceIte, Nat.reduceEqDiff, reduceCtorEq, Nat.reduceAdd, Nat.reduceLeDiff, ne_eq, Nat.reduceLT, Int.reduceLT, Int.reduceLE, Int.reduceNeg]
theorem k112 (n : Node) (ino : Int) (M : AMem) : callOp (acall tab) 112 [.agg (eNodeC n), .int .i64 ino] M = some (.int .i64 (cmpI n.ino ino), M) := callOp0 (c112 n ino) rfl rfl rfl rfl rfl M
structure LowI (nodes : List Node) (ino : Int) (b : Nat) : Prop where
  le : b ≤ nodes.length
  lt : ∀ h n, nodes[h]? = some n → (n.ino < ino ↔ h < b)
theorem mid_eq (i j : Nat) (hj : j ≤ 100000) (hi : i ≤ j) : IntKind.i64.wrap ((i : Int) + (j : Int)) = ((i + j : Nat) : Int) ∧ IntKind.u64.wrap ((i + j : Nat) : Int) = ((i + j : Nat) : Int) ∧
    (((i + j : Nat) : Int)).fdiv (2 ^ min (Int.toNat 1) IntKind.u64.bits) = (((i + j) / 2 : Nat) : Int) ∧ IntKind.i64.wrap (((i + j) / 2 : Nat) : Int) = (((i + j) / 2 : Nat) : Int) ∧ IntKind.i64.wrap ((((i + j) / 2 : Nat) : Int) + 1) = (((i + j) / 2 + 1 : Nat) : Int) := by
  refine ⟨?_, ?_, ?_, ?_, ?_⟩
  · rw [wrap_small (by omega) (by omega)]; rfl
  · have : IntKind.u64.wrap ((i + j : Nat) : Int) = ((i + j : Nat) : Int) % 18446744073709551616 := by simp [IntKind.wrap, IntKind.bits, IntKind.signed]
    rw [this]; omega
  · have : (2 : Int) ^ min (Int.toNat 1) IntKind.u64.bits = 2 := by decide
    rw [this, Int.fdiv_eq_ediv_of_nonneg _ (by omega)]; omega
  · exact wrap_small (by omega) (by omega)
  · rw [wrap_small (by omega) (by omega)]; rfl
theorem loop111 {nodes : List Node} {ino : Int} {b : Nat} (hb : LowI nodes ino b) (hn : nodes.length ≤ 100000) {k : List K} {r : Option (AVal × AMem)}
    (hx : ∀ v q, kr (acall tab) [.tmp 6, .tmp 7] 0 k ⟨.exit 0, [(0, eNodes nodes), (1, .int .i64 ino), (2, .func 112 []), (8, .int .i64 nodes.length), (9, .int .i64 b), (10, v), (17, q)], []⟩ = r) :
    ∀ (f i j : Nat), j - i ≤ f → i ≤ b → b ≤ j → j ≤ nodes.length → exK (acall tab) [.tmp 6, .tmp 7] 0 k (.loop [0, 1, 2, 8, 9, 10] lb111_0) [(0, eNodes nodes), (1, .int .i64 ino), (2, .func 112 []), (8, .int .i64 nodes.length), (9, .int .i64 i), (10, .int .i64 j)] [] = r := by
  intro f
  induction f with
  | zero =>
    intro i j h1 h2 h3 h4
    obtain rfl : i = b := by omega
    rw [exK_loop]
    have hlt : ((i : Int) < (j : Int)) = False := by simp; omega
    simp only [E111, hlt, EVT, EVD, ↓reduceIte, Nat.reduceEqDiff, reduceCtorEq, Nat.reduceAdd, Nat.reduceLeDiff, ne_eq, Nat.reduceLT, Int.reduceLT, Int.reduceLE, Int.reduceNeg]
    exact hx _ _
  | succ f ih =>
    intro i j h1 h2 h3 h4
    rw [exK_loop]
    by_cases hij : i < j
    · have hlt : ((i : Int) < (j : Int)) = True := by simp; omega
      obtain ⟨m1, m2, m3, m4, m5⟩ := mid_eq i j (by omega) (by omega)
      have hmid : (i + j) / 2 < nodes.length := by omega
      have hx := List.getElem?_eq_getElem hmid
      have hl := hb.lt _ _ hx
      simp only [E111, hlt, m1, m2, m3, m4, hx, k112, cmpI_lt, tkN, shN, EVT, EVD, ↓reduceIte, Nat.reduceEqDiff, reduceCtorEq, Nat.reduceAdd, Nat.reduceLeDiff, ne_eq, Nat.reduceLT, Int.reduceLT, Int.reduceLE, Int.reduceNeg]
      refine fork_split (fun hq => ?_) (fun hq => ?_)
      · have hq : nodes[(i + j) / 2].ino < ino := by simpa using hq
        simp only [E111, m5, EVT, EVD, ↓reduceIte, Nat.reduceEqDiff, reduceCtorEq, Nat.reduceAdd, Nat.reduceLeDiff, ne_eq, Nat.reduceLT, Int.reduceLT, Int.reduceLE, Int.reduceNeg]
        exact ih ((i + j) / 2 + 1) j (by omega) (hl.1 hq) h3 h4
      · have hq : ¬ nodes[(i + j) / 2].ino < ino := by simpa using hq
        simp only [E111, EVT, EVD, ↓reduceIte, Nat.reduceEqDiff, reduceCtorEq, Nat.reduceAdd, Nat.reduceLeDiff, ne_eq, Nat.reduceLT, Int.reduceLT, Int.reduceLE, Int.reduceNeg]
        exact ih i ((i + j) / 2) (by omega) h2 (Nat.not_lt.1 fun h => hq (hl.2 h)) (by omega)
    · obtain rfl : i = b := by omega
      have hlt : ((i : Int) < (j : Int)) = False := by simp; omega
      simp only [E111, hlt, EVT, EVD, ↓reduceIte, Nat.reduceEqDiff, reduceCtorEq, Nat.reduceAdd, Nat.reduceLeDiff, ne_eq, Nat.reduceLT, Int.reduceLT, Int.reduceLE, Int.reduceNeg]
      exact hx _ _
def isAt (nodes : List Node) (ino : Int) (b : Nat) : Bool := match nodes[b]? with
  | some n => n.ino == ino
  | none => false
theorem c111 (nodes : List Node) (ino : Int) (b : Nat) (hb : LowI nodes ino b) (hn : nodes.length ≤ 100000) : acall tab 111 [eNodes nodes, .int .i64 ino, .func 112 []] [] = some (.tuple [.int .i64 b, .bool (isAt nodes ino b)], []) := by
  refine acall_ex rfl rfl rfl ?_
  simp only [fn111, E111, EVT, EVD, ↓reduceIte, Nat.reduceEqDiff, reduceCtorEq, Nat.reduceAdd, Nat.reduceLeDiff, ne_eq, Nat.reduceLT, Int.reduceLT, Int.reduceLE, Int.reduceNeg]
  refine loop111 hb hn (fun v q => ?_) nodes.length 0 nodes.length (by omega) (by omega) hb.le (by omega)
  unfold isAt
  by_cases hlt : b < nodes.length
  · have hx := List.getElem?_eq_getElem hlt
    have h1 : ((b : Int) < (nodes.length : Int)) = True := by simp; omega
    simp only [E111, hx, h1, k112, cmpI_eq, tkN, shN, EVT, EVD, ↓reduceIte, Nat.reduceEqDiff, reduceCtorEq, Nat.reduceAdd, Nat.reduceLeDiff, ne_eq, Nat.reduceLT, Int.reduceLT, Int.reduceLE, Int.reduceNeg]
  · have hx : nodes[b]? = none := List.getElem?_eq_none (by omega)
    have h1 : ((b : Int) < (nodes.length : Int)) = False := by simp; omega
    simp only [E111, hx, h1, EVT, EVD, ↓reduceIte, Nat.reduceEqDiff, reduceCtorEq, Nat.reduceAdd, Nat.reduceLeDiff, ne_eq, Nat.reduceLT, Int.reduceLT, Int.reduceLE, Int.reduceNeg]
theorem k111 (nodes : List Node) (ino : Int) (b : Nat) (hb : LowI nodes ino b) (hn : nodes.length ≤ 100000) (M : AMem) : callOp (acall tab) 111 [eNodes nodes, .int .i64 ino, .func 112 []] M = some (.tuple [.int .i64 b, .bool (isAt nodes ino b)], M) :=
  callOp0 (c111 nodes ino b hb hn) rfl rfl rfl rfl rfl M
end Go.Proofs.YtnapockikkbkcaaGreat
namespace Go.Proofs.YtnapockikkbkcaaGreat
open Go Go.Abs
attribute [local irreducible] exK opsK opK gK forkK kr acall callOp owhen obind
def Asc (nodes : List Node) : Prop := nodes.Pairwise fun a b => a.ino < b.ino
def lowB (nodes : List Node) (ino : Int) : Nat := (nodes.takeWhile fun n => decide (n.ino < ino)).length
theorem lowI_of {nodes : List Node} (h : Asc nodes) (ino : Int) : LowI nodes ino (lowB nodes ino) := by
  unfold lowB
  induction nodes with
  | nil => exact ⟨by simp, fun h n hn => by simp at hn⟩
  | cons a r ih =>
    obtain ⟨h1, h2⟩ := List.pairwise_cons.1 h
    obtain ⟨i1, i2⟩ := ih h2
    by_cases ha : a.ino < ino
    · rw [List.takeWhile_cons, if_pos (by simpa using ha)]
      refine ⟨by simpa using i1, fun k n hn => ?_⟩
      cases k with
      | zero => simp at hn; subst hn; simp [ha]
      | succ k => rw [i2 k n (by simpa using hn)]; simp
    · rw [List.takeWhile_cons, if_neg (by simpa using ha)]
      refine ⟨by simp, fun k n hn => ?_⟩
      simp only [List.length_nil, Nat.not_lt_zero, iff_false]
      cases k with
      | zero => simp at hn; subst hn; exact ha
      | succ k =>
        have := h1 n (List.mem_of_getElem? (by simpa using hn))
        omega
theorem at_find {nodes : List Node} (h : Asc nodes) (ino : Int) : (isAt nodes ino (lowB nodes ino) = true ∧ ∃ n, nodes[lowB nodes ino]? = some n ∧ find nodes ino = some n ∧ n.ino = ino) ∨ (isAt nodes ino (lowB nodes ino) = false ∧ find nodes ino = none) := by
  obtain ⟨l1, l2⟩ := lowI_of h ino
  cases hf : find nodes ino with
  | some n =>
    left
    obtain ⟨hm, he⟩ := find_mem hf
    obtain ⟨k, hk⟩ := List.getElem?_of_mem hm
    have hkb : ¬ k < lowB nodes ino := fun hc => by have := (l2 k n hk).2 hc; omega
    have hb : lowB nodes ino < nodes.length := by have := (List.getElem?_eq_some_iff.1 hk).1; omega
    have hx := List.getElem?_eq_getElem hb
    have hnl : ¬ nodes[lowB nodes ino].ino < ino := fun hc => Nat.lt_irrefl _ ((l2 _ _ hx).1 hc)
    have hke : k = lowB nodes ino := by
      rcases Nat.lt_or_ge (lowB nodes ino) k with hlt | hge
      · have hkl := (List.getElem?_eq_some_iff.1 hk).1
        have h3 := List.pairwise_iff_getElem.1 h _ _ hb hkl hlt
        have h4 : nodes[k] = n := by rw [List.getElem?_eq_getElem hkl] at hk; injection hk
        rw [h4] at h3
        omega
      · omega
    subst hke
    exact ⟨by unfold isAt; rw [hk]; simp [he], n, hk, rfl, he⟩
  | none =>
    right
    refine ⟨?_, rfl⟩
    unfold isAt
    split
    · rename_i n hn
      have := List.find?_eq_none.1 hf n (List.mem_of_getElem? hn)
      simpa using this
    · rfl
theorem set_nth {M : AMem} {p : Nat} {b : ABox} (h : nth M p = some b) : setN M p b = M := by
  rw [nth_eq] at h; rw [setN_eq]
  apply List.ext_getElem?
  intro i
  by_cases e : p = i
  · subst e; rw [set_same (lt_of_some h), h]
  · rw [set_other e]
theorem c79 (nodes : List Node) (next cookie ino : Int) (h : Asc nodes) (hn : nodes.length ≤ 100000) : acall tab 79 [.ptr 0 0, .int .i64 ino] [.cells [eNodes nodes, .int .i64 next, .int .i64 cookie]] =
    some (.tuple [.int .i64 (lowB nodes ino), .bool (isAt nodes ino (lowB nodes ino))], [.cells [eNodes nodes, .int .i64 next, .int .i64 cookie]]) := by
  refine acall_ex rfl rfl rfl ?_
  have hk := k111 nodes ino _ (lowI_of h ino) hn
  simp only [fn79, E79, hk, EVT, EVD, ↓reduceIte, Nat.reduceEqDiff, reduceCtorEq, Nat.reduceAdd, Nat.reduceLeDiff, ne_eq, Nat.reduceLT, Int.reduceLT, Int.reduceLE, Int.reduceNeg]
theorem k79 (nodes : List Node) (next cookie ino : Int) (h : Asc nodes) (hn : nodes.length ≤ 100000) (p : Nat) (M : AMem) (hM : nth M p = some (.cells [eNodes nodes, .int .i64 next, .int .i64 cookie])) :
    callOp (acall tab) 79 [.ptr p 0, .int .i64 ino] M = some (.tuple [.int .i64 (lowB nodes ino), .bool (isAt nodes ino (lowB nodes ino))], M) := by
  have := callOp1 hM (c79 nodes next cookie ino h hn) rfl rfl rfl rfl rfl rfl rfl rfl rfl rfl
  rwa [set_nth hM] at this
theorem c43 (nodes : List Node) (next cookie ino : Int) (h : Asc nodes) (hn : nodes.length ≤ 100000) : acall tab 43 [.ptr 0 0, .int .i64 ino] [.cells [eNodes nodes, .int .i64 next, .int .i64 cookie]] =
    some (.tuple [eNode (nodeN nodes ino), .bool (find nodes ino).isSome], [.cells [eNodes nodes, .int .i64 next, .int .i64 cookie]]) := by
  refine acall_ex rfl rfl rfl ?_
  have hk := fun M => k79 nodes next cookie ino h hn 0 (.cells [eNodes nodes, .int .i64 next, .int .i64 cookie] :: M) rfl
  simp only [fn43, E43, hk, EVT, EVD, ↓reduceIte, Nat.reduceEqDiff, reduceCtorEq, Nat.reduceAdd, Nat.reduceLeDiff, ne_eq, Nat.reduceLT, Int.reduceLT, Int.reduceLE, Int.reduceNeg]
  rcases at_find h ino with ⟨h1, n, h2, h3, h4⟩ | ⟨h1, h2⟩
  · simp only [E43, h1, h2, h3, nodeN, eNodeC, EVT, EVD, ↓reduceIte, Nat.reduceEqDiff, reduceCtorEq, Nat.reduceAdd, Nat.reduceLeDiff, ne_eq, Nat.reduceLT, Int.reduceLT, Int.reduceLE, Int.reduceNeg]
    rfl
  · simp only [E43, h1, h2, nodeN, EVT, EVD, ↓reduceIte, Nat.reduceEqDiff, reduceCtorEq, Nat.reduceAdd, Nat.reduceLeDiff, ne_eq, Nat.reduceLT, Int.reduceLT, Int.reduceLE, Int.reduceNeg]
    rfl
theorem k43 (nodes : List Node) (next cookie ino : Int) (h : Asc nodes) (hn : nodes.length ≤ 100000) (p : Nat) (M : AMem) (hM : nth M p = some (.cells [eNodes nodes, .int .i64 next, .int .i64 cookie])) :
    callOp (acall tab) 43 [.ptr p 0, .int .i64 ino] M = some (.tuple [eNode (nodeN nodes ino), .bool (find nodes ino).isSome], M) := by
  have := callOp1 hM (c43 nodes next cookie ino h hn) rfl rfl rfl rfl rfl rfl rfl rfl rfl rfl
  rwa [set_nth hM] at this
theorem c40 (nodes : List Node) (next cookie ino : Int) (h : Asc nodes) (hn : nodes.length ≤ 100000) : acall tab 40 [.ptr 0 0, .int .i64 ino] [.cells [eNodes nodes, .int .i64 next, .int .i64 cookie]] =
    some (.tuple [eNode (dirN nodes ino).1, .int .i64 (dirN nodes ino).2], [.cells [eNodes nodes, .int .i64 next, .int .i64 cookie]]) := by
  refine acall_ex rfl rfl rfl ?_
  have hk := fun M => k43 nodes next cookie ino h hn 0 (.cells [eNodes nodes, .int .i64 next, .int .i64 cookie] :: M) rfl
  simp only [fn40, E40, hk, eNode, eNodeC, EVT, EVD, ↓reduceIte, Nat.reduceEqDiff, reduceCtorEq, Nat.reduceAdd, Nat.reduceLeDiff, ne_eq, Nat.reduceLT, Int.reduceLT, Int.reduceLE, Int.reduceNeg]
  unfold dirN
  cases hf : find nodes ino with
  | none => simp only [E40, nodeN, hf, Option.isSome, EVT, EVD, ↓reduceIte, Nat.reduceEqDiff, reduceCtorEq, Nat.reduceAdd, Nat.reduceLeDiff, ne_eq, Nat.reduceLT, Int.reduceLT, Int.reduceLE, Int.reduceNeg]; first | done | rfl
  | some n =>
    simp only [E40, nodeN, hf, Option.isSome, Option.getD_some, EVT, EVD, ↓reduceIte, Nat.reduceEqDiff, reduceCtorEq, Nat.reduceAdd, Nat.reduceLeDiff, ne_eq, Nat.reduceLT, Int.reduceLT, Int.reduceLE, Int.reduceNeg]
    repeat' (first | (refine fork_split (fun hb => ?_) (fun hb => ?_) <;> simp only [hb, E40, EVT, EVD, ↓reduceIte, Nat.reduceEqDiff, reduceCtorEq, Nat.reduceAdd, Nat.reduceLeDiff, ne_eq, Nat.reduceLT, Int.reduceLT, Int.reduceLE, Int.reduceNeg]) | (refine guard_split (fun hb => ?_) (fun hb => ?_) <;> simp only [hb, E40, EVT, EVD, ↓reduceIte, Nat.reduceEqDiff, reduceCtorEq, Nat.reduceAdd, Nat.reduceLeDiff, ne_eq, Nat.reduceLT, Int.reduceLT, Int.reduceLE, Int.reduceNeg]) | (refine opK_pick (fun hb => ?_) (fun hb => ?_) <;> simp only [hb, E40, EVT, EVD, ↓reduceIte, Nat.reduceEqDiff, reduceCtorEq, Nat.reduceAdd, Nat.reduceLeDiff, ne_eq, Nat.reduceLT, Int.reduceLT, Int.reduceLE, Int.reduceNeg]))
    all_goals (clear hk; simp_all [Node.zero])
theorem k40 (nodes : List Node) (next cookie ino : Int) (h : Asc nodes) (hn : nodes.length ≤ 100000) (p : Nat) (M : AMem) (hM : nth M p = some (.cells [eNodes nodes, .int .i64 next, .int .i64 cookie])) :
    callOp (acall tab) 40 [.ptr p 0, .int .i64 ino] M = some (.tuple [eNode (dirN nodes ino).1, .int .i64 (dirN nodes ino).2], M) := by
  have := callOp1 hM (c40 nodes next cookie ino h hn) rfl rfl rfl rfl rfl rfl rfl rfl rfl rfl
  rwa [set_nth hM] at this
end Go.Proofs.YtnapockikkbkcaaGreat
namespace Go.Proofs.YtnapockikkbkcaaGreat
open Go Go.Abs
attribute [local irreducible] exK opsK opK gK forkK kr acall callOp owhen obind
def Ascii (s : Bytes) : Prop := ∀ b, b ∈ s → b.toNat < 128
theorem dec_mid {s pre r : Bytes} {n : UInt8} (h : s = pre ++ n :: r) (ha : Ascii s) : Utf8.decode ⟨s.toArray⟩ pre.length = (n.toNat, 1) := by
  have hlt : pre.length < (⟨s.toArray⟩ : ByteArray).size := by show pre.length < s.toArray.size; rw [h]; simp
  have hg : (⟨s.toArray⟩ : ByteArray)[pre.length]'hlt = n := by
    show s.toArray[pre.length]'_ = n
    subst h; simp
  have := decode_ascii ⟨s.toArray⟩ pre.length hlt (by rw [hg]; exact ha n (by rw [h]; simp))
  rw [this, hg]
theorem loop41 {s : Bytes} (hs : s.length ≤ 100000) (ha : Ascii s) {k : List K} {R : Bool → Option (AVal × AMem)}
    (hx : ∀ e p, kr (acall tab) [.tmp 2] 0 k ⟨.exit 0, e, [.siter s p]⟩ = R true) (hr : ∀ p, kr (acall tab) [.tmp 2] 0 k ⟨.ret, [(2, .bool false)], [.siter s p]⟩ = R false) :
    ∀ (l pre : Bytes), s = pre ++ l → exK (acall tab) [.tmp 2] 0 k (.loop [21] lb41_0) [(21, .iref 0)] [.siter s pre.length] = R (l.all okByte) := by
  intro l
  induction l with
  | nil =>
    intro pre h
    rw [exK_loop]
    have hlt : (pre.length < s.length) = False := by rw [h]; simp
    simp only [E41, hlt, EVT, EVD, ↓reduceIte, Nat.reduceEqDiff, reduceCtorEq, Nat.reduceAdd, Nat.reduceLeDiff, ne_eq, Nat.reduceLT, Int.reduceLT, Int.reduceLE, Int.reduceNeg]
    exact hx _ _
  | cons n r ih =>
    intro pre h
    rw [exK_loop]
    have hlt : (pre.length < s.length) = True := by rw [h]; simp
    have hd := dec_mid h ha
    have hi := ih (pre ++ [n]) (by rw [h]; simp)
    simp only [List.length_append, List.length_cons, List.length_nil, Nat.zero_add] at hi
    simp only [E41, hlt, hd, EVT, EVD, ↓reduceIte, Nat.reduceEqDiff, reduceCtorEq, Nat.reduceAdd, Nat.reduceLeDiff, ne_eq, Nat.reduceLT, Int.reduceLT, Int.reduceLE, Int.reduceNeg]
    repeat' (first | (refine fork_split (fun hb => ?_) (fun hb => ?_) <;> simp only [hb, E41, hd, EVT, EVD, ↓reduceIte, Nat.reduceEqDiff, reduceCtorEq, Nat.reduceAdd, Nat.reduceLeDiff, ne_eq, Nat.reduceLT, Int.reduceLT, Int.reduceLE, Int.reduceNeg]) | (refine guard_split (fun hb => ?_) (fun hb => ?_) <;> simp only [hb, E41, hd, EVT, EVD, ↓reduceIte, Nat.reduceEqDiff, reduceCtorEq, Nat.reduceAdd, Nat.reduceLeDiff, ne_eq, Nat.reduceLT, Int.reduceLT, Int.reduceLE, Int.reduceNeg]) | (refine opK_pick (fun hb => ?_) (fun hb => ?_) <;> simp only [hb, E41, hd, EVT, EVD, ↓reduceIte, Nat.reduceEqDiff, reduceCtorEq, Nat.reduceAdd, Nat.reduceLeDiff, ne_eq, Nat.reduceLT, Int.reduceLT, Int.reduceLE, Int.reduceNeg]))
    all_goals first
      | (refine (hr _).trans ?_; congr 1; symm; clear hi ih hx hr hd h; simp_all [okByte]; done)
      | (refine hi.trans ?_; congr 1; symm; clear hi ih hx hr hd h; simp_all [okByte]; done)
theorem c41 (s : Bytes) (hs : s.length ≤ 100000) (ha : Ascii s) : acall tab 41 [.str s] [] = some (.bool (nameOk s), []) := by
  refine acall_ex rfl rfl rfl ?_
  simp only [fn41, E41, EVT, EVD, ↓reduceIte, Nat.reduceEqDiff, reduceCtorEq, Nat.reduceAdd, Nat.reduceLeDiff, ne_eq, Nat.reduceLT, Int.reduceLT, Int.reduceLE, Int.reduceNeg]
  have hl := fun k hx hr => loop41 (k := k) (R := fun b => some (AVal.bool b, [])) hs ha hx hr s [] rfl
  have he : (s == []) = decide ((s.length : Int) < 1) := by cases s <;> simp; omega
  rw [he]
  repeat' (first | (refine fork_split (fun hb => ?_) (fun hb => ?_) <;> simp only [hb, E41, EVT, EVD, ↓reduceIte, Nat.reduceEqDiff, reduceCtorEq, Nat.reduceAdd, Nat.reduceLeDiff, ne_eq, Nat.reduceLT, Int.reduceLT, Int.reduceLE, Int.reduceNeg]) | (refine guard_split (fun hb => ?_) (fun hb => ?_) <;> simp only [hb, E41, EVT, EVD, ↓reduceIte, Nat.reduceEqDiff, reduceCtorEq, Nat.reduceAdd, Nat.reduceLeDiff, ne_eq, Nat.reduceLT, Int.reduceLT, Int.reduceLE, Int.reduceNeg]) | (refine opK_pick (fun hb => ?_) (fun hb => ?_) <;> simp only [hb, E41, EVT, EVD, ↓reduceIte, Nat.reduceEqDiff, reduceCtorEq, Nat.reduceAdd, Nat.reduceLeDiff, ne_eq, Nat.reduceLT, Int.reduceLT, Int.reduceLE, Int.reduceNeg]))
  all_goals first
    | (clear hl he; simp_all [nameOk]; done)
    | (refine (hl _ (fun e p => by simp only [E41, EVT, EVD, ↓reduceIte, Nat.reduceEqDiff, reduceCtorEq, Nat.reduceAdd, Nat.reduceLeDiff, ne_eq, Nat.reduceLT, Int.reduceLT, Int.reduceLE, Int.reduceNeg]) (fun p => by simp only [E41, EVT, EVD, ↓reduceIte, Nat.reduceEqDiff, reduceCtorEq, Nat.reduceAdd, Nat.reduceLeDiff, ne_eq, Nat.reduceLT, Int.reduceLT, Int.reduceLE, Int.reduceNeg])).trans ?_; clear hl he; simp_all [nameOk]; done)
theorem k41 (s : Bytes) (hs : s.length ≤ 100000) (ha : Ascii s) (M : AMem) : callOp (acall tab) 41 [.str s] M = some (.bool (nameOk s), M) := callOp0 (c41 s hs ha) rfl rfl rfl rfl rfl M
theorem k110 (a b : Bytes) (M : AMem) : callOp (acall tab) 110 [.str a, .str b] M = some (.int .i64 (Lib.compareBytes a b), M) :=
  callOp0 (acall_prim (g := pCompare) rfl rfl) rfl rfl rfl rfl rfl M
theorem c78 (a b : Bytes) : acall tab 78 [.str a, .str b] [] = some (.int .i64 (Lib.compareBytes a b), []) := by
  refine acall_ex rfl rfl rfl ?_
  simp only [fn78, E78, k110, EVT, EVD, ↓reduceIte, Nat.reduceEqDiff, reduceCtorEq, Nat.reduceAdd, Nat.reduceLeDiff, ne_eq, Nat.reduceLT, Int.reduceLT, Int.reduceLE, Int.reduceNeg]
theorem k78 (a b : Bytes) (M : AMem) : callOp (acall tab) 78 [.str a, .str b] M = some (.int .i64 (Lib.compareBytes a b), M) := callOp0 (c78 a b) rfl rfl rfl rfl rfl M
theorem cmpB_lt : ∀ (a b : Bytes), (Lib.compareBytes a b < 0) = (strLt a b = true)
  | [], [] => by simp [Lib.compareBytes, strLt]
  | [], _ :: _ => by simp [Lib.compareBytes, strLt]
  | _ :: _, [] => by simp [Lib.compareBytes, strLt]
  | a :: x, b :: y => by
    rw [Lib.compareBytes, strLt]
    by_cases h1 : a < b
    · simp [h1]
    · by_cases h2 : b < a
      · have h3 : ¬ a = b := by rintro rfl; exact UInt8.lt_irrefl _ h2
        simp [h1, h2, h3]
      · have h3 : a = b := by rw [← UInt8.toNat_inj]; simp only [UInt8.lt_iff_toNat_lt] at h1 h2; omega
        subst h3
        simp [h1, cmpB_lt x y]
theorem cmpB_eq : ∀ (a b : Bytes), (Lib.compareBytes a b == 0) = (a == b)
  | [], [] => by simp [Lib.compareBytes]
  | [], _ :: _ => by simp [Lib.compareBytes]
  | _ :: _, [] => by simp [Lib.compareBytes]
  | a :: x, b :: y => by
    rw [Lib.compareBytes]
    by_cases h1 : a < b
    · have h3 : ¬ a = b := by rintro rfl; exact UInt8.lt_irrefl _ h1
      simp [h1, h3]
    · by_cases h2 : b < a
      · have h3 : ¬ a = b := by rintro rfl; exact UInt8.lt_irrefl _ h2
        simp [h1, h2, h3]
      · have h3 : a = b := by rw [← UInt8.toNat_inj]; simp only [UInt8.lt_iff_toNat_lt] at h1 h2; omega
        subst h3
        simp only [h1, if_false, cmpB_eq x y]
        simp
theorem c77 (e : Ent) (s : Bytes) : acall tab 77 [eEnt e, .str s] [] = some (.int .i64 (Lib.compareBytes e.name s), []) := by
  refine acall_ex rfl rfl rfl ?_
  simp only [fn77, E77, eEnt, eEntC, k78, EVT, EVD, ↓reduceIte, Nat.reduceEqDiff, reduceCtorEq, Nat.reduceAdd, Nat.reduceLeDiff, ne_eq, Nat.reduceLT, Int.reduceLT, Int.reduceLE, Int.reduceNeg]
theorem k77 (e : Ent) (s : Bytes) (M : AMem) : callOp (acall tab) 77 [.agg (eEntC e), .str s] M = some (.int .i64 (Lib.compareBytes e.name s), M) := callOp0 (c77 e s) rfl rfl rfl rfl rfl M
structure LowE (ents : List Ent) (s : Bytes) (b : Nat) : Prop where
  le : b ≤ ents.length
  lt : ∀ h n, ents[h]? = some n → (strLt n.name s = true ↔ h < b)
theorem loop76 {ents : List Ent} {s : Bytes} {b : Nat} (hb : LowE ents s b) (hn : ents.length ≤ 100000) {k : List K} {r : Option (AVal × AMem)}
    (hx : ∀ v q, kr (acall tab) [.tmp 6, .tmp 7] 0 k ⟨.exit 0, [(0, eEnts ents), (1, .str s), (2, .func 77 []), (8, .int .i64 ents.length), (9, .int .i64 b), (10, v), (17, q)], []⟩ = r) :
    ∀ (f i j : Nat), j - i ≤ f → i ≤ b → b ≤ j → j ≤ ents.length → exK (acall tab) [.tmp 6, .tmp 7] 0 k (.loop [0, 1, 2, 8, 9, 10] lb76_0) [(0, eEnts ents), (1, .str s), (2, .func 77 []), (8, .int .i64 ents.length), (9, .int .i64 i), (10, .int .i64 j)] [] = r := by
  intro f
  induction f with
  | zero =>
    intro i j h1 h2 h3 h4
    obtain rfl : i = b := by omega
    rw [exK_loop]
    have hlt : ((i : Int) < (j : Int)) = False := by simp; omega
    simp only [E76, hlt, EVT, EVD, ↓reduceIte, Nat.reduceEqDiff, reduceCtorEq, Nat.reduceAdd, Nat.reduceLeDiff, ne_eq, Nat.reduceLT, Int.reduceLT, Int.reduceLE, Int.reduceNeg]
    exact hx _ _
  | succ f ih =>
    intro i j h1 h2 h3 h4
    rw [exK_loop]
    by_cases hij : i < j
    · have hlt : ((i : Int) < (j : Int)) = True := by simp; omega
      obtain ⟨m1, m2, m3, m4, m5⟩ := mid_eq i j (by omega) (by omega)
      have hmid : (i + j) / 2 < ents.length := by omega
      have hx := List.getElem?_eq_getElem hmid
      have hl := hb.lt _ _ hx
      simp only [E76, hlt, m1, m2, m3, m4, hx, k77, cmpB_lt, tkE, shE, EVT, EVD, ↓reduceIte, Nat.reduceEqDiff, reduceCtorEq, Nat.reduceAdd, Nat.reduceLeDiff, ne_eq, Nat.reduceLT, Int.reduceLT, Int.reduceLE, Int.reduceNeg]
      refine fork_split (fun hq => ?_) (fun hq => ?_)
      · have hq : strLt ents[(i + j) / 2].name s = true := by simpa using hq
        simp only [E76, m5, EVT, EVD, ↓reduceIte, Nat.reduceEqDiff, reduceCtorEq, Nat.reduceAdd, Nat.reduceLeDiff, ne_eq, Nat.reduceLT, Int.reduceLT, Int.reduceLE, Int.reduceNeg]
        exact ih ((i + j) / 2 + 1) j (by omega) (hl.1 hq) h3 h4
      · have hq : ¬ strLt ents[(i + j) / 2].name s = true := by simpa using hq
        simp only [E76, EVT, EVD, ↓reduceIte, Nat.reduceEqDiff, reduceCtorEq, Nat.reduceAdd, Nat.reduceLeDiff, ne_eq, Nat.reduceLT, Int.reduceLT, Int.reduceLE, Int.reduceNeg]
        exact ih i ((i + j) / 2) (by omega) h2 (Nat.not_lt.1 fun h => hq (hl.2 h)) (by omega)
    · obtain rfl : i = b := by omega
      have hlt : ((i : Int) < (j : Int)) = False := by simp; omega
      simp only [E76, hlt, EVT, EVD, ↓reduceIte, Nat.reduceEqDiff, reduceCtorEq, Nat.reduceAdd, Nat.reduceLeDiff, ne_eq, Nat.reduceLT, Int.reduceLT, Int.reduceLE, Int.reduceNeg]
      exact hx _ _
def isAtE (ents : List Ent) (s : Bytes) (b : Nat) : Bool := match ents[b]? with
  | some n => n.name == s
  | none => false
theorem c76 (ents : List Ent) (s : Bytes) (b : Nat) (hb : LowE ents s b) (hn : ents.length ≤ 100000) : acall tab 76 [eEnts ents, .str s, .func 77 []] [] = some (.tuple [.int .i64 b, .bool (isAtE ents s b)], []) := by
  refine acall_ex rfl rfl rfl ?_
  simp only [fn76, E76, EVT, EVD, ↓reduceIte, Nat.reduceEqDiff, reduceCtorEq, Nat.reduceAdd, Nat.reduceLeDiff, ne_eq, Nat.reduceLT, Int.reduceLT, Int.reduceLE, Int.reduceNeg]
  refine loop76 hb hn (fun v q => ?_) ents.length 0 ents.length (by omega) (by omega) hb.le (by omega)
  unfold isAtE
  by_cases hlt : b < ents.length
  · have hx := List.getElem?_eq_getElem hlt
    have h1 : ((b : Int) < (ents.length : Int)) = True := by simp; omega
    simp only [E76, hx, h1, k77, cmpB_eq, tkE, shE, EVT, EVD, ↓reduceIte, Nat.reduceEqDiff, reduceCtorEq, Nat.reduceAdd, Nat.reduceLeDiff, ne_eq, Nat.reduceLT, Int.reduceLT, Int.reduceLE, Int.reduceNeg]
  · have hx : ents[b]? = none := List.getElem?_eq_none (by omega)
    have h1 : ((b : Int) < (ents.length : Int)) = False := by simp; omega
    simp only [E76, hx, h1, EVT, EVD, ↓reduceIte, Nat.reduceEqDiff, reduceCtorEq, Nat.reduceAdd, Nat.reduceLeDiff, ne_eq, Nat.reduceLT, Int.reduceLT, Int.reduceLE, Int.reduceNeg]
theorem k76 (ents : List Ent) (s : Bytes) (b : Nat) (hb : LowE ents s b) (hn : ents.length ≤ 100000) (M : AMem) : callOp (acall tab) 76 [eEnts ents, .str s, .func 77 []] M = some (.tuple [.int .i64 b, .bool (isAtE ents s b)], M) :=
  callOp0 (c76 ents s b hb hn) rfl rfl rfl rfl rfl M
def AscE (l : List Ent) : Prop := l.Pairwise fun a b => strLt a.name b.name = true
def lowE (l : List Ent) (s : Bytes) : Nat := (l.takeWhile fun n => strLt n.name s).length
theorem c42 (n : Node) (s : Bytes) (b : Nat) (hb : LowE n.ents s b) (hn : n.ents.length ≤ 100000) : acall tab 42 [eNode n, .str s] [] = some (.tuple [.int .i64 b, .bool (isAtE n.ents s b)], []) := by
  refine acall_ex rfl rfl rfl ?_
  have hk := k76 n.ents s b hb hn
  simp only [fn42, E42, eNode, eNodeC, hk, EVT, EVD, ↓reduceIte, Nat.reduceEqDiff, reduceCtorEq, Nat.reduceAdd, Nat.reduceLeDiff, ne_eq, Nat.reduceLT, Int.reduceLT, Int.reduceLE, Int.reduceNeg]
theorem k42 (a b c : Int) (d : Bytes) (e : List Ent) (u : Int) (s : Bytes) (i : Nat) (hb : LowE e s i) (hn : e.length ≤ 100000) (M : AMem) : callOp (acall tab) 42 [.agg [.int .i64 a, .int .i64 b, .int .i64 c, eData d, eEnts e, .int .i64 u], .str s] M = some (.tuple [.int .i64 i, .bool (isAtE e s i)], M) :=
  callOp0 (c42 ⟨a, b, c, d, e, u⟩ s i hb hn) rfl rfl rfl rfl rfl M
end Go.Proofs.YtnapockikkbkcaaGreat
namespace Go.Proofs.YtnapockikkbkcaaGreat
open Go Go.Abs
attribute [local irreducible] exK opsK opK gK forkK kr acall callOp owhen obind
theorem strLt_irrefl : ∀ a : Bytes, strLt a a = false
  | [] => rfl
  | a :: x => by simp [strLt, strLt_irrefl x, UInt8.lt_irrefl]
theorem strLt_trans : ∀ {a b c : Bytes}, strLt a b = true → strLt b c = true → strLt a c = true
  | [], b, [], _, h2 => by cases b <;> simp [strLt] at h2
  | [], _, _ :: _, _, _ => rfl
  | _ :: _, [], _, h1, _ => by simp [strLt] at h1
  | _ :: _, _ :: _, [], _, h2 => by simp [strLt] at h2
  | a :: x, b :: y, c :: z, h1, h2 => by
    simp only [strLt, Bool.or_eq_true, Bool.and_eq_true, decide_eq_true_eq, beq_iff_eq] at h1 h2 ⊢
    simp only [UInt8.lt_iff_toNat_lt] at h1 h2 ⊢
    rcases h1 with h1 | ⟨h1, h1'⟩
    · rcases h2 with h2 | ⟨h2, _⟩
      · left; omega
      · left; rw [← h2]; exact h1
    · rcases h2 with h2 | ⟨h2, h2'⟩
      · left; rw [h1]; exact h2
      · right; exact ⟨h1.trans h2, strLt_trans h1' h2'⟩
theorem lowE_of {l : List Ent} (h : AscE l) (s : Bytes) : LowE l s (lowE l s) := by
  unfold lowE
  induction l with
  | nil => exact ⟨by simp, fun h n hn => by simp at hn⟩
  | cons a r ih =>
    obtain ⟨h1, h2⟩ := List.pairwise_cons.1 h
    obtain ⟨i1, i2⟩ := ih h2
    by_cases ha : strLt a.name s = true
    · rw [List.takeWhile_cons, if_pos ha]
      refine ⟨by simpa using i1, fun k n hn => ?_⟩
      cases k with
      | zero => simp at hn; subst hn; simp [ha]
      | succ k => rw [i2 k n (by simpa using hn)]; simp
    · rw [List.takeWhile_cons, if_neg ha]
      refine ⟨by simp, fun k n hn => ?_⟩
      simp only [List.length_nil, Nat.not_lt_zero, iff_false]
      cases k with
      | zero => simp at hn; subst hn; exact ha
      | succ k => exact fun hc => ha (strLt_trans (h1 n (List.mem_of_getElem? (by simpa using hn))) hc)
theorem findE_mem {l : List Ent} {s : Bytes} {e : Ent} (h : findE l s = some e) : e ∈ l ∧ e.name = s := by
  unfold findE at h
  exact ⟨List.mem_of_find?_eq_some h, by simpa using List.find?_some h⟩
theorem at_findE {l : List Ent} (h : AscE l) (s : Bytes) : (isAtE l s (lowE l s) = true ∧ ∃ n, l[lowE l s]? = some n ∧ findE l s = some n ∧ n.name = s) ∨ (isAtE l s (lowE l s) = false ∧ findE l s = none) := by
  obtain ⟨l1, l2⟩ := lowE_of h s
  cases hf : findE l s with
  | some n =>
    left
    obtain ⟨hm, he⟩ := findE_mem hf
    obtain ⟨k, hk⟩ := List.getElem?_of_mem hm
    have hkb : ¬ k < lowE l s := fun hc => by have := (l2 k n hk).2 hc; rw [he, strLt_irrefl] at this; cases this
    have hb : lowE l s < l.length := by have := (List.getElem?_eq_some_iff.1 hk).1; omega
    have hx := List.getElem?_eq_getElem hb
    have hnl : ¬ strLt l[lowE l s].name s = true := fun hc => Nat.lt_irrefl _ ((l2 _ _ hx).1 hc)
    have hke : k = lowE l s := by
      rcases Nat.lt_or_ge (lowE l s) k with hlt | hge
      · have hkl := (List.getElem?_eq_some_iff.1 hk).1
        have h3 := List.pairwise_iff_getElem.1 h _ _ hb hkl hlt
        have h4 : l[k] = n := by rw [List.getElem?_eq_getElem hkl] at hk; injection hk
        rw [h4, he] at h3
        exact absurd h3 hnl
      · omega
    subst hke
    exact ⟨by unfold isAtE; rw [hk]; simp [he], n, hk, rfl, he⟩
  | none =>
    right
    refine ⟨?_, rfl⟩
    unfold isAtE
    split
    · rename_i n hn
      have := List.find?_eq_none.1 hf n (List.mem_of_getElem? hn)
      simpa using this
    · rfl
structure Srt (t : Tree) : Prop where
  asc : Asc t.nodes
  ents : ∀ n, n ∈ t.nodes → AscE n.ents
theorem Srt.dir {t : Tree} (h : Srt t) (ino : Int) : AscE (dirN t.nodes ino).1.ents := by
  unfold dirN
  split
  · exact List.Pairwise.nil
  · rename_i n hn
    split
    · exact h.ents n (find_mem hn).1
    · exact List.Pairwise.nil
theorem c15 (t : Tree) (ino : Int) (s : Bytes) (ht : Small t) (hr : Srt t) (hs : s.length ≤ 100000) (ha : Ascii s) : acall tab 15 [eTree t, .int .i64 ino, .str s] [] = some (.tuple [.int .i64 (lookN t.nodes ino s).1, .int .i64 (lookN t.nodes ino s).2], []) := by
  obtain ⟨nodes, next, cookie⟩ := t
  have hn : nodes.length ≤ 100000 := ht.nodes
  have hd : (dirN nodes ino).1.ents.length ≤ 100000 := dirN_ents ht ino
  have hE : AscE (dirN nodes ino).1.ents := hr.dir ino
  have hk := fun b M => k40 nodes next cookie ino hr.asc hn 1 (b :: .cells [eNodes nodes, .int .i64 next, .int .i64 cookie] :: M) rfl
  refine acall_ex rfl rfl rfl ?_
  simp only [fn15, E15, eTree, eTreeC, hk, eNode, eNodeC, EVT, EVD, ↓reduceIte, Nat.reduceEqDiff, reduceCtorEq, Nat.reduceAdd, Nat.reduceLeDiff, ne_eq, Nat.reduceLT, Int.reduceLT, Int.reduceLE, Int.reduceNeg]
  unfold lookN
  refine fork_split (fun hb => ?_) (fun hb => ?_)
  · simp only [E15, EVT, EVD, ↓reduceIte, Nat.reduceEqDiff, reduceCtorEq, Nat.reduceAdd, Nat.reduceLeDiff, ne_eq, Nat.reduceLT, Int.reduceLT, Int.reduceLE, Int.reduceNeg]
    clear hk
    simp_all
  · simp only [E15, k41, hs, ha, EVT, EVD, ↓reduceIte, Nat.reduceEqDiff, reduceCtorEq, Nat.reduceAdd, Nat.reduceLeDiff, ne_eq, Nat.reduceLT, Int.reduceLT, Int.reduceLE, Int.reduceNeg]
    refine fork_split (fun hb' => ?_) (fun hb' => ?_)
    · simp only [E15, EVT, EVD, ↓reduceIte, Nat.reduceEqDiff, reduceCtorEq, Nat.reduceAdd, Nat.reduceLeDiff, ne_eq, Nat.reduceLT, Int.reduceLT, Int.reduceLE, Int.reduceNeg]
      clear hk
      simp_all
    · have hk2 := fun a b c d u M => k42 a b c d (dirN nodes ino).1.ents u s _ (lowE_of hE s) hd M
      simp only [E15, hk2, EVT, EVD, ↓reduceIte, Nat.reduceEqDiff, reduceCtorEq, Nat.reduceAdd, Nat.reduceLeDiff, ne_eq, Nat.reduceLT, Int.reduceLT, Int.reduceLE, Int.reduceNeg]
      rcases at_findE hE s with ⟨h1, e, h2, h3, _⟩ | ⟨h1, h2⟩
      · simp only [E15, h1, h2, eEntC, EVT, EVD, ↓reduceIte, Nat.reduceEqDiff, reduceCtorEq, Nat.reduceAdd, Nat.reduceLeDiff, ne_eq, Nat.reduceLT, Int.reduceLT, Int.reduceLE, Int.reduceNeg]
        clear hk hk2
        simp_all
      · simp only [E15, h1, EVT, EVD, ↓reduceIte, Nat.reduceEqDiff, reduceCtorEq, Nat.reduceAdd, Nat.reduceLeDiff, ne_eq, Nat.reduceLT, Int.reduceLT, Int.reduceLE, Int.reduceNeg]
        clear hk hk2
        simp_all
theorem k15 (nodes : List Node) (next cookie ino : Int) (s : Bytes) (ht : Small ⟨nodes, next, cookie⟩) (hr : Srt ⟨nodes, next, cookie⟩) (hs : s.length ≤ 100000) (ha : Ascii s) (M : AMem) : callOp (acall tab) 15 [.agg [eNodes nodes, .int .i64 next, .int .i64 cookie], .int .i64 ino, .str s] M =
    some (.tuple [.int .i64 (lookN nodes ino s).1, .int .i64 (lookN nodes ino s).2], M) := callOp0 (c15 ⟨nodes, next, cookie⟩ ino s ht hr hs ha) rfl rfl rfl rfl rfl M
theorem c19 (t : Tree) (ino : Int) (ht : Small t) (hr : Srt t) : acall tab 19 [eTree t, .int .i64 ino] [] = some (.tuple [eNode (nodeN t.nodes ino), .bool (find t.nodes ino).isSome], []) := by
  obtain ⟨nodes, next, cookie⟩ := t
  have hn : nodes.length ≤ 100000 := ht.nodes
  have hk := fun b c M => k43 nodes next cookie ino hr.asc hn 2 (b :: c :: .cells [eNodes nodes, .int .i64 next, .int .i64 cookie] :: M) rfl
  refine acall_ex rfl rfl rfl ?_
  simp only [fn19, E19, eTree, eTreeC, hk, eNode, eNodeC, EVT, EVD, ↓reduceIte, Nat.reduceEqDiff, reduceCtorEq, Nat.reduceAdd, Nat.reduceLeDiff, ne_eq, Nat.reduceLT, Int.reduceLT, Int.reduceLE, Int.reduceNeg]
theorem k19 (nodes : List Node) (next cookie ino : Int) (ht : Small ⟨nodes, next, cookie⟩) (hr : Srt ⟨nodes, next, cookie⟩) (M : AMem) : callOp (acall tab) 19 [.agg [eNodes nodes, .int .i64 next, .int .i64 cookie], .int .i64 ino] M =
    some (.tuple [eNode (nodeN nodes ino), .bool (find nodes ino).isSome], M) := callOp0 (c19 ⟨nodes, next, cookie⟩ ino ht hr) rfl rfl rfl rfl rfl M
abbrev eInt (n : Int) : AVal := .int .i64 n
theorem wid_ints (l : List Int) : wid (l.map eInt) 1 = True := by
  simp only [eq_iff_iff, iff_true]
  intro x hx
  obtain ⟨n, _, rfl⟩ := List.mem_map.1 hx
  rfl
def upsGo (nodes : List Node) : Nat → Int → List Int → List Int
  | 0, _, out => out
  | m + 1, ino, out => if (ino != 1) = true then (if (!(find nodes ino).isSome || (nodeN nodes ino).kind != 2) = true then out else upsGo nodes m (nodeN nodes ino).up (out ++ [(nodeN nodes ino).up])) else out
def upsN (nodes : List Node) (ino : Int) : List Int := upsGo nodes nodes.length ino [ino]
theorem loop44 {nodes : List Node} {next cookie : Int} (h : Asc nodes) (hn : nodes.length ≤ 100000) {k : List K} {R : List Int → Option (AVal × AMem)}
    (hx : ∀ (out : List Int) v q, kr (acall tab) [.tmp 4] 1 k ⟨.exit 0, [(0, .ptr 0 0), (1, v), (5, .slice (.own 1) (out.map eInt)), (22, q)], [.cells [eNodes nodes, .int .i64 next, .int .i64 cookie], .tick 1 out.length]⟩ = R out)
    (hr : ∀ (out : List Int) b, kr (acall tab) [.tmp 4] 1 k ⟨.ret, [(4, .slice (.own 1) (out.map eInt))], [.cells [eNodes nodes, .int .i64 next, .int .i64 cookie], .tick 1 out.length, b]⟩ = R out) :
    ∀ (m : Nat) (ino : Int) (out : List Int), out.length + m = nodes.length + 1 → exK (acall tab) [.tmp 4] 1 k (.loop [0, 1, 5] lb44_0) [(0, .ptr 0 0), (1, .int .i64 ino), (5, .slice (.own 1) (out.map eInt))] [.cells [eNodes nodes, .int .i64 next, .int .i64 cookie], .tick 1 out.length] = R (upsGo nodes m ino out) := by
  intro m
  induction m with
  | zero =>
    intro ino out ho
    rw [exK_loop]
    have hd' : ((out.length : Int) ≤ (nodes.length : Int)) = False := by simp; omega
    simp only [E44, EVT, EVD, ↓reduceIte, Nat.reduceEqDiff, reduceCtorEq, Nat.reduceAdd, Nat.reduceLeDiff, ne_eq, Nat.reduceLT, Int.reduceLT, Int.reduceLE, Int.reduceNeg]
    repeat' (first | (refine fork_split (fun hb => ?_) (fun hb => ?_) <;> simp only [hb, E44, hd', EVT, EVD, ↓reduceIte, Nat.reduceEqDiff, reduceCtorEq, Nat.reduceAdd, Nat.reduceLeDiff, ne_eq, Nat.reduceLT, Int.reduceLT, Int.reduceLE, Int.reduceNeg]) | (refine guard_split (fun hb => ?_) (fun hb => ?_) <;> simp only [hb, E44, hd', EVT, EVD, ↓reduceIte, Nat.reduceEqDiff, reduceCtorEq, Nat.reduceAdd, Nat.reduceLeDiff, ne_eq, Nat.reduceLT, Int.reduceLT, Int.reduceLE, Int.reduceNeg]) | (refine opK_pick (fun hb => ?_) (fun hb => ?_) <;> simp only [hb, E44, hd', EVT, EVD, ↓reduceIte, Nat.reduceEqDiff, reduceCtorEq, Nat.reduceAdd, Nat.reduceLeDiff, ne_eq, Nat.reduceLT, Int.reduceLT, Int.reduceLE, Int.reduceNeg]))
    all_goals exact hx _ _ _
  | succ m ih =>
    intro ino out ho
    rw [exK_loop]
    have hd' : ((out.length : Int) ≤ (nodes.length : Int)) = True := by simp; omega
    have r1 : roomOk (out.length + 1) 8 = True := room_ok (by omega) (by omega)
    have hk := fun M => k43 nodes next cookie ino h hn 0 (.cells [eNodes nodes, .int .i64 next, .int .i64 cookie] :: M) rfl
    have hi := ih (nodeN nodes ino).up (out ++ [(nodeN nodes ino).up]) (by simp; omega)
    simp only [List.map_append, List.map_cons, List.map_nil, List.length_append, List.length_cons, List.length_nil, Nat.zero_add] at hi
    rw [upsGo]
    simp only [E44, EVT, EVD, ↓reduceIte, Nat.reduceEqDiff, reduceCtorEq, Nat.reduceAdd, Nat.reduceLeDiff, ne_eq, Nat.reduceLT, Int.reduceLT, Int.reduceLE, Int.reduceNeg]
    refine guard_split (fun hb => ?_) (fun hb => ?_)
    · simp only [E44, hb, hd', hk, eNode, eNodeC, EVT, EVD, ↓reduceIte, Nat.reduceEqDiff, reduceCtorEq, Nat.reduceAdd, Nat.reduceLeDiff, ne_eq, Nat.reduceLT, Int.reduceLT, Int.reduceLE, Int.reduceNeg]
      refine guard_split (fun hb1 => ?_) (fun hb1 => ?_)
      · simp only [E44, hb1, EVT, EVD, ↓reduceIte, Nat.reduceEqDiff, reduceCtorEq, Nat.reduceAdd, Nat.reduceLeDiff, ne_eq, Nat.reduceLT, Int.reduceLT, Int.reduceLE, Int.reduceNeg]
        refine fork_split (fun hb2 => ?_) (fun hb2 => ?_)
        · simp only [E44, hb2, hb1, Bool.or_true, Bool.false_or, EVT, EVD, ↓reduceIte, Nat.reduceEqDiff, reduceCtorEq, Nat.reduceAdd, Nat.reduceLeDiff, ne_eq, Nat.reduceLT, Int.reduceLT, Int.reduceLE, Int.reduceNeg]
          exact hr _ _
        · simp only [E44, hb2, hb1, r1, wid_ints, Bool.or_false, Bool.false_eq_true, EVT, EVD, ↓reduceIte, Nat.reduceEqDiff, reduceCtorEq, Nat.reduceAdd, Nat.reduceLeDiff, ne_eq, Nat.reduceLT, Int.reduceLT, Int.reduceLE, Int.reduceNeg]
          exact hi
      · simp only [E44, hb1, Bool.not_false, Bool.true_or, EVT, EVD, ↓reduceIte, Nat.reduceEqDiff, reduceCtorEq, Nat.reduceAdd, Nat.reduceLeDiff, ne_eq, Nat.reduceLT, Int.reduceLT, Int.reduceLE, Int.reduceNeg]
        exact hr _ _
    · simp only [E44, hb, Bool.not_true, Bool.false_eq_true, EVT, EVD, ↓reduceIte, Nat.reduceEqDiff, reduceCtorEq, Nat.reduceAdd, Nat.reduceLeDiff, ne_eq, Nat.reduceLT, Int.reduceLT, Int.reduceLE, Int.reduceNeg]
      exact hx _ _ _
theorem c44 (nodes : List Node) (next cookie ino : Int) (h : Asc nodes) (hn : nodes.length ≤ 100000) : acall tab 44 [.ptr 0 0, .int .i64 ino] [.cells [eNodes nodes, .int .i64 next, .int .i64 cookie]] =
    some (.slice .sh ((upsN nodes ino).map eInt), [.cells [eNodes nodes, .int .i64 next, .int .i64 cookie]]) := by
  refine acall_ex rfl rfl rfl ?_
  simp only [fn44, E44, EVT, EVD, ↓reduceIte, Nat.reduceEqDiff, reduceCtorEq, Nat.reduceAdd, Nat.reduceLeDiff, ne_eq, Nat.reduceLT, Int.reduceLT, Int.reduceLE, Int.reduceNeg]
  exact loop44 (R := fun out => some (.slice .sh (out.map eInt), [.cells [eNodes nodes, .int .i64 next, .int .i64 cookie]])) h hn (fun out v q => by simp only [E44, EVT, EVD, ↓reduceIte, Nat.reduceEqDiff, reduceCtorEq, Nat.reduceAdd, Nat.reduceLeDiff, ne_eq, Nat.reduceLT, Int.reduceLT, Int.reduceLE, Int.reduceNeg]) (fun out b => by simp only [E44, EVT, EVD, ↓reduceIte, Nat.reduceEqDiff, reduceCtorEq, Nat.reduceAdd, Nat.reduceLeDiff, ne_eq, Nat.reduceLT, Int.reduceLT, Int.reduceLE, Int.reduceNeg]) nodes.length ino [ino] (by simp; omega)
theorem k44 (nodes : List Node) (next cookie ino : Int) (h : Asc nodes) (hn : nodes.length ≤ 100000) (p : Nat) (M : AMem) (hM : nth M p = some (.cells [eNodes nodes, .int .i64 next, .int .i64 cookie])) :
    callOp (acall tab) 44 [.ptr p 0, .int .i64 ino] M = some (.slice .sh ((upsN nodes ino).map eInt), M) := by
  have := callOp1 hM (c44 nodes next cookie ino h hn) rfl rfl rfl rfl rfl rfl rfl rfl rfl rfl
  rwa [set_nth hM] at this
theorem upsGo_len (nodes : List Node) : ∀ (m : Nat) (ino : Int) (out : List Int), out.length ≤ (upsGo nodes m ino out).length ∧ (upsGo nodes m ino out).length ≤ out.length + m
  | 0, _, out => ⟨Nat.le_refl _, Nat.le_refl _⟩
  | m + 1, ino, out => by
    rw [upsGo]
    split
    · split
      · exact ⟨Nat.le_refl _, by omega⟩
      · have := upsGo_len nodes m (nodeN nodes ino).up (out ++ [(nodeN nodes ino).up])
        simp at this
        omega
    · exact ⟨Nat.le_refl _, by omega⟩
theorem upsN_len (nodes : List Node) (ino : Int) : 1 ≤ (upsN nodes ino).length ∧ (upsN nodes ino).length ≤ nodes.length + 1 := by
  have := upsGo_len nodes nodes.length ino [ino]
  simp at this
  unfold upsN
  omega
theorem c81 (nodes : List Node) (next cookie ino : Int) (h : Asc nodes) (hn : nodes.length ≤ 100000) : acall tab 81 [.ptr 0 0, .int .i64 ino] [.cells [eNodes nodes, .int .i64 next, .int .i64 cookie]] =
    some (.int .i64 (((upsN nodes ino).length - 1 : Nat) : Int), [.cells [eNodes nodes, .int .i64 next, .int .i64 cookie]]) := by
  refine acall_ex rfl rfl rfl ?_
  have hk := fun M => k44 nodes next cookie ino h hn 0 (.cells [eNodes nodes, .int .i64 next, .int .i64 cookie] :: M) rfl
  have hl := upsN_len nodes ino
  have hw : IntKind.i64.wrap (((upsN nodes ino).length : Int) - 1) = (((upsN nodes ino).length - 1 : Nat) : Int) := by rw [wrap_small (by omega) (by omega)]; omega
  simp only [fn81, E81, hk, hw, EVT, EVD, ↓reduceIte, Nat.reduceEqDiff, reduceCtorEq, Nat.reduceAdd, Nat.reduceLeDiff, ne_eq, Nat.reduceLT, Int.reduceLT, Int.reduceLE, Int.reduceNeg]
theorem k81 (nodes : List Node) (next cookie ino : Int) (h : Asc nodes) (hn : nodes.length ≤ 100000) (p : Nat) (M : AMem) (hM : nth M p = some (.cells [eNodes nodes, .int .i64 next, .int .i64 cookie])) :
    callOp (acall tab) 81 [.ptr p 0, .int .i64 ino] M = some (.int .i64 (((upsN nodes ino).length - 1 : Nat) : Int), M) := by
  have := callOp1 hM (c81 nodes next cookie ino h hn) rfl rfl rfl rfl rfl rfl rfl rfl rfl rfl
  rwa [set_nth hM] at this
end Go.Proofs.YtnapockikkbkcaaGreat
namespace Go.Proofs.YtnapockikkbkcaaGreat
open Go Go.Abs
attribute [local irreducible] exK opsK opK gK forkK kr acall callOp owhen obind
theorem withL_pre (n : Node) (rest : List Node) : ∀ (pre out : List Node), (∀ m, m ∈ pre → m.ino < n.ino) → withL n (pre ++ rest) out false = withL n rest (out ++ pre) false
  | [], out, _ => by simp
  | m :: r, out, h => by
    have hm := h m (List.mem_cons_self ..)
    have h1 : ¬ n.ino ≤ m.ino := by omega
    have h2 : ¬ m.ino = n.ino := by omega
    rw [List.cons_append, withL]
    simp only [ge_iff_le, h1, h2, decide_false, Bool.and_false, Bool.or_false, Bool.false_eq_true, if_false]
    rw [withL_pre n rest r _ fun x hx => h x (List.mem_cons_of_mem _ hx)]
    simp
theorem withL_post (n : Node) : ∀ (rest out : List Node), (∀ m, m ∈ rest → n.ino < m.ino) → withL n rest out true = (out ++ rest, true)
  | [], out, _ => by simp [withL]
  | m :: r, out, h => by
    have hm := h m (List.mem_cons_self ..)
    have h2 : ¬ m.ino = n.ino := by omega
    rw [withL]
    simp only [Bool.not_true, Bool.false_and, h2, Bool.true_or, Bool.false_eq_true, if_false]
    rw [withL_post n r _ fun x hx => h x (List.mem_cons_of_mem _ hx)]
    simp
theorem take_low {nodes : List Node} {ino : Int} {b : Nat} (h : LowI nodes ino b) : ∀ m, m ∈ nodes.take b → m.ino < ino := fun m hm => by
  obtain ⟨k, hk⟩ := List.getElem?_of_mem hm
  rw [List.getElem?_take] at hk
  split at hk
  · rename_i hlt; exact (h.lt k m hk).2 hlt
  · cases hk
theorem drop_high {nodes : List Node} {ino : Int} {b : Nat} (h : LowI nodes ino b) : ∀ m, m ∈ nodes.drop b → ino ≤ m.ino := fun m hm => by
  obtain ⟨k, hk⟩ := List.getElem?_of_mem hm
  rw [List.getElem?_drop] at hk
  have := h.lt _ m hk
  have hn : ¬ b + k < b := by omega
  have := fun hc => hn (this.1 hc)
  omega
theorem withN_ins {nodes : List Node} (h : Asc nodes) {n : Node} (hf : find nodes n.ino = none) : withN nodes n = nodes.take (lowB nodes n.ino) ++ n :: nodes.drop (lowB nodes n.ino) := by
  have hl := lowI_of h n.ino
  have hd : ∀ m, m ∈ nodes.drop (lowB nodes n.ino) → n.ino < m.ino := fun m hm => by
    have h1 := drop_high hl m hm
    have h2 := List.find?_eq_none.1 hf m (List.mem_of_mem_drop hm)
    have : ¬ m.ino = n.ino := by simpa using h2
    omega
  unfold withN
  rw [show withL n nodes [] false = withL n (nodes.take (lowB nodes n.ino) ++ nodes.drop (lowB nodes n.ino)) [] false by rw [List.take_append_drop]]
  rw [withL_pre n _ _ _ (take_low hl)]
  generalize nodes.drop (lowB nodes n.ino) = rest at hd
  cases rest with
  | nil => simp [withL]
  | cons m r =>
    have hm := hd m (List.mem_cons_self ..)
    have h1 : n.ino ≤ m.ino := by omega
    have h2 : ¬ m.ino = n.ino := by omega
    rw [withL]
    simp only [ge_iff_le, h1, h2, decide_true, Bool.not_false, Bool.and_true, Bool.or_true, if_true, if_false]
    rw [withL_post n r _ fun x hx => hd x (List.mem_cons_of_mem _ hx)]
    simp
theorem withN_set {nodes : List Node} (h : Asc nodes) {n o : Node} (ho : nodes[lowB nodes n.ino]? = some o) (he : o.ino = n.ino) : withN nodes n = nodes.set (lowB nodes n.ino) n := by
  have hl := lowI_of h n.ino
  have hlt := (List.getElem?_eq_some_iff.1 ho).1
  have hdr : nodes.drop (lowB nodes n.ino) = o :: nodes.drop (lowB nodes n.ino + 1) := by
    rw [List.drop_eq_getElem_cons hlt]
    rw [List.getElem?_eq_getElem hlt] at ho; injection ho with ho; rw [ho]
  have hd : ∀ m, m ∈ nodes.drop (lowB nodes n.ino + 1) → n.ino < m.ino := fun m hm => by
    obtain ⟨k, hk⟩ := List.getElem?_of_mem hm
    rw [List.getElem?_drop] at hk
    have hkl := (List.getElem?_eq_some_iff.1 hk).1
    have h3 := List.pairwise_iff_getElem.1 h _ _ hlt hkl (by omega)
    have h4 : nodes[lowB nodes n.ino + 1 + k] = m := by rw [List.getElem?_eq_getElem hkl] at hk; injection hk
    have h5 : nodes[lowB nodes n.ino] = o := by rw [List.getElem?_eq_getElem hlt] at ho; injection ho
    rw [h4, h5] at h3
    omega
  unfold withN
  rw [show withL n nodes [] false = withL n (nodes.take (lowB nodes n.ino) ++ nodes.drop (lowB nodes n.ino)) [] false by rw [List.take_append_drop]]
  rw [withL_pre n _ _ _ (take_low hl), hdr, withL]
  simp only [ge_iff_le, he, Int.le_refl, decide_true, Bool.not_false, Bool.and_true, Bool.or_true, if_true, List.append_nil]
  rw [withL_post n _ _ hd, List.set_eq_take_append_cons_drop, if_pos hlt]
  simp
theorem p85 {nodes : List Node} (h0 : nodes ≠ []) (hn : nodes.length ≤ 100000) (M : AMem) : acall tab 85 [eNodes nodes] M = some (.aref M.length 0 6 0 nodes.length, M ++ [.arr 6 0 (nodes.map eNode)]) := by
  refine acall_prim (g := pClone 6 80) rfl ?_
  obtain ⟨a, r, rfl⟩ := List.exists_cons_of_ne_nil h0
  have hw : wid ((a :: r).map eNode) 6 := by have := wid_nodes (a :: r); simpa using this
  have hr : roomOk ((a :: r).map eNode).length 80 := by have := room_ok (a := (a :: r).length) (b := 80) (by omega) (by omega); simpa using this
  unfold pClone
  simp only [List.map_cons] at hw hr ⊢
  rw [owhen_pos ⟨hw, hr⟩]
  simp
theorem p86 {nodes : List Node} {b : Nat} (hb : b ≤ nodes.length) (hn : nodes.length ≤ 100000) (n : Node) (c0 c1 : ABox) :
    acall tab 86 [.aref 2 0 6 0 nodes.length, .int .i64 b, .slice .sh [.agg (eNodeC n)]] [c0, c1, .arr 6 0 (nodes.map eNode)] = some (.aref 2 1 6 0 (nodes.length + 1), [c0, c1, .arr 6 1 ((nodes.take b ++ n :: nodes.drop b).map eNode)]) := by
  refine acall_prim (g := pInsert 6 80) rfl ?_
  have hr : roomOk ((nodes.map eNode).length + 1) 80 := by have := room_ok (a := nodes.length + 1) (b := 80) (by omega) (by omega); simpa using this
  unfold pInsert
  simp only [nth]
  rw [owhen_pos ⟨trivial, trivial, trivial, by simp, by omega, by simpa using hb, rfl, hr⟩]
  simp [setN, eNode]
theorem setN_map (nodes : List Node) (b : Nat) (o n : Node) (h : nodes[b]? = some o) : (setN (nodes.map eNode) b (putCells (eNode o) 0 (eNodeC n))) = (nodes.set b n).map eNode := by
  have : putCells (eNode o) 0 (eNodeC n) = eNode n := rfl
  rw [this, setN_eq, List.map_set]
theorem c50 (nodes : List Node) (next cookie : Int) (n : Node) (h : Asc nodes) (h0 : nodes ≠ []) (hn : nodes.length ≤ 100000) : acall tab 50 [.ptr 0 0, eNode n] [.cells [eNodes nodes, .int .i64 next, .int .i64 cookie]] =
    some (.tuple [], [.cells [eNodes (withN nodes n), .int .i64 next, .int .i64 cookie]]) := by
  refine acall_ex rfl rfl rfl ?_
  have hk := fun M => k79 nodes next cookie n.ino h hn 0 (.cells [eNodes nodes, .int .i64 next, .int .i64 cookie] :: M) rfl
  have hp := fun M => p85 h0 hn M
  have hle := (lowI_of h n.ino).le
  simp only [fn50, E50, eNode, eNodeC, hk, hp, EVT, EVD, ↓reduceIte, Nat.reduceEqDiff, reduceCtorEq, Nat.reduceAdd, Nat.reduceLeDiff, ne_eq, Nat.reduceLT, Int.reduceLT, Int.reduceLE, Int.reduceNeg]
  rcases at_find h n.ino with ⟨h1, o, h2, h3, h4⟩ | ⟨h1, h2⟩
  · have hlt : ((lowB nodes n.ino : Int) < (nodes.length : Int)) = True := by have := (List.getElem?_eq_some_iff.1 h2).1; simp; omega
    simp only [E50, h1, h2, hlt, Nat.sub_zero, List.getElem?_cons_zero, List.getElem?_cons_succ, EVT, EVD, ↓reduceIte, Nat.reduceEqDiff, reduceCtorEq, Nat.reduceAdd, Nat.reduceLeDiff, ne_eq, Nat.reduceLT, Int.reduceLT, Int.reduceLE, Int.reduceNeg]
    have e := setN_map nodes _ o n h2
    simp only [eNodeC] at e
    rw [e, withN_set h h2 h4, List.take_of_length_le (by simp)]
  · have hi := fun c0 c1 => p86 hle hn n c0 c1
    simp only [eNodeC] at hi
    simp only [E50, h1, hi, List.getElem?_cons_zero, List.getElem?_cons_succ, EVT, EVD, ↓reduceIte, Nat.reduceEqDiff, reduceCtorEq, Nat.reduceAdd, Nat.reduceLeDiff, ne_eq, Nat.reduceLT, Int.reduceLT, Int.reduceLE, Int.reduceNeg]
    rw [withN_ins h h2, List.take_of_length_le (by simp; omega)]
theorem k50 (nodes : List Node) (next cookie a b c : Int) (d : Bytes) (e : List Ent) (u : Int) (h : Asc nodes) (h0 : nodes ≠ []) (hn : nodes.length ≤ 100000) (p : Nat) (M : AMem) (hM : nth M p = some (.cells [eNodes nodes, .int .i64 next, .int .i64 cookie])) :
    callOp (acall tab) 50 [.ptr p 0, .agg [.int .i64 a, .int .i64 b, .int .i64 c, eData d, eEnts e, .int .i64 u]] M = some (.tuple [], setN M p (.cells [eNodes (withN nodes ⟨a, b, c, d, e, u⟩), .int .i64 next, .int .i64 cookie])) :=
  callOp1 hM (c50 nodes next cookie ⟨a, b, c, d, e, u⟩ h h0 hn) rfl rfl rfl rfl rfl rfl rfl rfl rfl rfl
end Go.Proofs.YtnapockikkbkcaaGreat
namespace Go.Proofs.YtnapockikkbkcaaGreat
open Go Go.Abs
attribute [local irreducible] exK opsK opK gK forkK kr acall callOp owhen obind
theorem FZ : (∀ M cs, AVal.frz M (.agg cs) = .agg (cs.map (AVal.frz0 M))) ∧ (∀ M i o, AVal.frz M (.ptr i o) = .ptr i o) ∧ (∀ M k n, AVal.frz M (.int k n) = .int k n) ∧ (∀ M s, AVal.frz M (.str s) = .str s) ∧
    (∀ M k n, AVal.frz0 M (.int k n) = .int k n) ∧ (∀ M s, AVal.frz0 M (.str s) = .str s) ∧ (∀ M tk xs, AVal.frz0 M (.slice tk xs) = .slice tk xs) ∧ (∀ M b, AVal.frz0 M (.bool b) = .bool b) ∧
    (∀ M id ver sz lo hi, AVal.frz0 M (.aref id ver sz lo hi) = match nth M id with
      | some (.arr _ v xs) => if v = ver then .slice .sh ((xs.take hi).drop lo) else .any
      | _ => .any) ∧ (∀ i a b c d, AVal.ids1 (.aref i a b c d) = [i]) := by
  refine ⟨?_, ?_, ?_, ?_, ?_, ?_, ?_, ?_, ?_, ?_⟩ <;> intros <;> rfl
theorem withoutN_del {nodes : List Node} (h : Asc nodes) {ino : Int} {o : Node} (ho : nodes[lowB nodes ino]? = some o) (he : o.ino = ino) : withoutN nodes ino = nodes.take (lowB nodes ino) ++ nodes.drop (lowB nodes ino + 1) := by
  have hl := lowI_of h ino
  have hlt := (List.getElem?_eq_some_iff.1 ho).1
  have hd : ∀ m, m ∈ nodes.drop (lowB nodes ino + 1) → ino < m.ino := fun m hm => by
    obtain ⟨k, hk⟩ := List.getElem?_of_mem hm
    rw [List.getElem?_drop] at hk
    have hkl := (List.getElem?_eq_some_iff.1 hk).1
    have h3 := List.pairwise_iff_getElem.1 h _ _ hlt hkl (by omega)
    have h4 : nodes[lowB nodes ino + 1 + k] = m := by rw [List.getElem?_eq_getElem hkl] at hk; injection hk
    have h5 : nodes[lowB nodes ino] = o := by rw [List.getElem?_eq_getElem hlt] at ho; injection ho
    rw [h4, h5] at h3
    omega
  have hdr : nodes.drop (lowB nodes ino) = o :: nodes.drop (lowB nodes ino + 1) := by
    rw [List.drop_eq_getElem_cons hlt]
    rw [List.getElem?_eq_getElem hlt] at ho; injection ho with ho; rw [ho]
  unfold withoutN
  rw [show nodes.filter (fun n => n.ino != ino) = (nodes.take (lowB nodes ino) ++ nodes.drop (lowB nodes ino)).filter (fun n => n.ino != ino) by rw [List.take_append_drop]]
  rw [List.filter_append, hdr, List.filter_cons]
  simp only [he, bne_self_eq_false, Bool.false_eq_true, if_false]
  rw [List.filter_eq_self.2 fun m hm => by have := take_low hl m hm; simp; omega, List.filter_eq_self.2 fun m hm => by have := hd m hm; simp; omega]
theorem withoutN_none {nodes : List Node} {ino : Int} (hf : find nodes ino = none) : withoutN nodes ino = nodes :=
  List.filter_eq_self.2 fun m hm => by simpa using List.find?_eq_none.1 hf m hm
theorem p109 {nodes : List Node} {b : Nat} (hb : b < nodes.length) (hn : nodes.length ≤ 100000) (c0 : ABox) :
    acall tab 109 [.aref 1 0 6 0 nodes.length, .int .i64 b, .int .i64 ((b + 1 : Nat) : Int)] [c0, .arr 6 0 (nodes.map eNode)] = some (.aref 1 1 6 0 (nodes.length - 1), [c0, .arr 6 1 ((nodes.take b ++ nodes.drop (b + 1)).map eNode)]) := by
  refine acall_prim (g := pDelete 6) rfl ?_
  unfold pDelete
  simp only [nth]
  rw [owhen_pos ⟨trivial, trivial, trivial, by simp, by omega, by simpa using hb, by omega, by simp; omega⟩]
  simp [setN]
theorem c75 (nodes : List Node) (next cookie ino : Int) (h : Asc nodes) (hn : nodes.length ≤ 100000) : acall tab 75 [.ptr 0 0, .int .i64 ino] [.cells [eNodes nodes, .int .i64 next, .int .i64 cookie]] =
    some (.tuple [], [.cells [eNodes (withoutN nodes ino), .int .i64 next, .int .i64 cookie]]) := by
  refine acall_ex rfl rfl rfl ?_
  have hk := fun M => k79 nodes next cookie ino h hn 0 (.cells [eNodes nodes, .int .i64 next, .int .i64 cookie] :: M) rfl
  simp only [fn75, E75, hk, EVT, EVD, ↓reduceIte, Nat.reduceEqDiff, reduceCtorEq, Nat.reduceAdd, Nat.reduceLeDiff, ne_eq, Nat.reduceLT, Int.reduceLT, Int.reduceLE, Int.reduceNeg]
  rcases at_find h ino with ⟨h1, o, h2, h3, h4⟩ | ⟨h1, h2⟩
  · have hlt := (List.getElem?_eq_some_iff.1 h2).1
    have h0 : nodes ≠ [] := by rintro rfl; simp at h2
    have hp := fun M => p85 h0 hn M
    have hd := fun c0 => p109 hlt hn c0
    have hw : IntKind.i64.wrap ((lowB nodes ino : Int) + 1) = ((lowB nodes ino + 1 : Nat) : Int) := by rw [wrap_small (by omega) (by omega)]; rfl
    simp only [E75, h1, hp, hd, hw, List.getElem?_cons_zero, List.getElem?_cons_succ, EVT, EVD, ↓reduceIte, Nat.reduceEqDiff, reduceCtorEq, Nat.reduceAdd, Nat.reduceLeDiff, ne_eq, Nat.reduceLT, Int.reduceLT, Int.reduceLE, Int.reduceNeg]
    rw [withoutN_del h h2 h4, List.take_of_length_le (by simp; omega)]
  · simp only [E75, h1, EVT, EVD, ↓reduceIte, Nat.reduceEqDiff, reduceCtorEq, Nat.reduceAdd, Nat.reduceLeDiff, ne_eq, Nat.reduceLT, Int.reduceLT, Int.reduceLE, Int.reduceNeg]
    rw [withoutN_none h2]
theorem k75 (nodes : List Node) (next cookie ino : Int) (h : Asc nodes) (hn : nodes.length ≤ 100000) (p : Nat) (M : AMem) (hM : nth M p = some (.cells [eNodes nodes, .int .i64 next, .int .i64 cookie])) :
    callOp (acall tab) 75 [.ptr p 0, .int .i64 ino] M = some (.tuple [], setN M p (.cells [eNodes (withoutN nodes ino), .int .i64 next, .int .i64 cookie])) :=
  callOp1 hM (c75 nodes next cookie ino h hn) rfl rfl rfl rfl rfl rfl rfl rfl rfl rfl
theorem strLt_asym {a b : Bytes} (h : strLt a b = true) : strLt b a = false := by
  cases hb : strLt b a with
  | false => rfl
  | true => have := strLt_trans h hb; rw [strLt_irrefl] at this; cases this
theorem strLt_total : ∀ (a b : Bytes), strLt a b = true ∨ a = b ∨ strLt b a = true
  | [], [] => .inr (.inl rfl)
  | [], _ :: _ => .inl rfl
  | _ :: _, [] => .inr (.inr rfl)
  | a :: x, b :: y => by
    simp only [strLt, Bool.or_eq_true, Bool.and_eq_true, decide_eq_true_eq, beq_iff_eq, List.cons.injEq, UInt8.lt_iff_toNat_lt]
    rcases strLt_total x y with h | h | h
    · rcases Nat.lt_trichotomy a.toNat b.toNat with h1 | h1 | h1
      · exact .inl (.inl h1)
      · exact .inl (.inr ⟨UInt8.toNat_inj.1 h1, h⟩)
      · exact .inr (.inr (.inl h1))
    · rcases Nat.lt_trichotomy a.toNat b.toNat with h1 | h1 | h1
      · exact .inl (.inl h1)
      · exact .inr (.inl ⟨UInt8.toNat_inj.1 h1, h⟩)
      · exact .inr (.inr (.inl h1))
    · rcases Nat.lt_trichotomy a.toNat b.toNat with h1 | h1 | h1
      · exact .inl (.inl h1)
      · exact .inr (.inr (.inr ⟨(UInt8.toNat_inj.1 h1).symm, h⟩))
      · exact .inr (.inr (.inl h1))
theorem gtB_of_lt {a b : Bytes} (h : strLt a b = true) : gtB a b = false := by simp [gtB, h]
theorem gtB_of_gt {a b : Bytes} (h : strLt b a = true) : gtB a b = true := by
  have h1 := strLt_asym h
  have h2 : ¬ a = b := by rintro rfl; rw [strLt_irrefl] at h; cases h
  simp [gtB, h1, h2]
theorem insL_pre (e : Ent) (rest : List Ent) : ∀ (pre out : List Ent), (∀ m, m ∈ pre → strLt m.name e.name = true) → insL e (pre ++ rest) out false = insL e rest (out ++ pre) false
  | [], out, _ => by simp
  | m :: r, out, h => by
    rw [List.cons_append, insL, gtB_of_lt (h m (List.mem_cons_self ..))]
    simp only [Bool.and_false, Bool.or_false, Bool.false_eq_true, if_false]
    rw [insL_pre e rest r _ fun x hx => h x (List.mem_cons_of_mem _ hx)]
    simp
theorem insL_post (e : Ent) : ∀ (rest out : List Ent), insL e rest out true = (out ++ rest, true)
  | [], out => by simp [insL]
  | m :: r, out => by
    rw [insL]
    simp only [Bool.not_true, Bool.false_and, Bool.true_or, Bool.false_eq_true, if_false]
    rw [insL_post e r]
    simp
theorem takeE_low {l : List Ent} {s : Bytes} {b : Nat} (h : LowE l s b) : ∀ m, m ∈ l.take b → strLt m.name s = true := fun m hm => by
  obtain ⟨k, hk⟩ := List.getElem?_of_mem hm
  rw [List.getElem?_take] at hk
  split at hk
  · rename_i hlt; exact (h.lt k m hk).2 hlt
  · cases hk
theorem dropE_high {l : List Ent} {s : Bytes} {b : Nat} (h : LowE l s b) : ∀ m, m ∈ l.drop b → strLt m.name s = false := fun m hm => by
  obtain ⟨k, hk⟩ := List.getElem?_of_mem hm
  rw [List.getElem?_drop] at hk
  have := h.lt _ m hk
  have hn : ¬ b + k < b := by omega
  cases hc : strLt m.name s with
  | false => rfl
  | true => exact absurd (this.1 hc) hn
theorem insE_ins {l : List Ent} (h : AscE l) {e : Ent} (hf : findE l e.name = none) : insE l e = l.take (lowE l e.name) ++ e :: l.drop (lowE l e.name) := by
  have hl := lowE_of h e.name
  have hd : ∀ m, m ∈ l.drop (lowE l e.name) → strLt e.name m.name = true := fun m hm => by
    have h1 := dropE_high hl m hm
    have h2 := List.find?_eq_none.1 hf m (List.mem_of_mem_drop hm)
    have h3 : ¬ m.name = e.name := by simpa using h2
    rcases strLt_total m.name e.name with h4 | h4 | h4
    · rw [h1] at h4; cases h4
    · exact absurd h4 h3
    · exact h4
  unfold insE
  rw [show insL e l [] false = insL e (l.take (lowE l e.name) ++ l.drop (lowE l e.name)) [] false by rw [List.take_append_drop]]
  rw [insL_pre e _ _ _ (takeE_low hl)]
  generalize l.drop (lowE l e.name) = rest at hd
  cases rest with
  | nil => simp [insL]
  | cons m r =>
    rw [insL, gtB_of_gt (hd m (List.mem_cons_self ..))]
    simp only [Bool.not_false, Bool.and_true, Bool.or_true, if_true]
    rw [insL_post]
    simp
theorem dropE_del {l : List Ent} (h : AscE l) {s : Bytes} {o : Ent} (ho : l[lowE l s]? = some o) (he : o.name = s) : dropE l s = l.take (lowE l s) ++ l.drop (lowE l s + 1) := by
  have hl := lowE_of h s
  have hlt := (List.getElem?_eq_some_iff.1 ho).1
  have hdr : l.drop (lowE l s) = o :: l.drop (lowE l s + 1) := by
    rw [List.drop_eq_getElem_cons hlt]
    rw [List.getElem?_eq_getElem hlt] at ho; injection ho with ho; rw [ho]
  have hd : ∀ m, m ∈ l.drop (lowE l s + 1) → strLt s m.name = true := fun m hm => by
    obtain ⟨k, hk⟩ := List.getElem?_of_mem hm
    rw [List.getElem?_drop] at hk
    have hkl := (List.getElem?_eq_some_iff.1 hk).1
    have h3 := List.pairwise_iff_getElem.1 h _ _ hlt hkl (by omega)
    have h4 : l[lowE l s + 1 + k] = m := by rw [List.getElem?_eq_getElem hkl] at hk; injection hk
    have h5 : l[lowE l s] = o := by rw [List.getElem?_eq_getElem hlt] at ho; injection ho
    rw [h4, h5, he] at h3
    exact h3
  have ne : ∀ {a b : Bytes}, strLt a b = true → ¬ a = b := fun {a b} h => by rintro rfl; rw [strLt_irrefl] at h; cases h
  unfold dropE
  rw [show l.filter (fun n => n.name != s) = (l.take (lowE l s) ++ l.drop (lowE l s)).filter (fun n => n.name != s) by rw [List.take_append_drop]]
  rw [List.filter_append, hdr, List.filter_cons]
  simp only [he, bne_self_eq_false, Bool.false_eq_true, if_false]
  rw [List.filter_eq_self.2 fun m hm => by simpa using ne (takeE_low hl m hm), List.filter_eq_self.2 fun m hm => by simpa using fun hc => ne (hd m hm) hc.symm]
theorem dropE_none {l : List Ent} {s : Bytes} (hf : findE l s = none) : dropE l s = l :=
  List.filter_eq_self.2 fun m hm => by simpa using List.find?_eq_none.1 hf m hm
theorem p58 {l : List Ent} (h0 : l ≠ []) (hn : l.length ≤ 100000) (M : AMem) : acall tab 58 [eEnts l] M = some (.aref M.length 0 3 0 l.length, M ++ [.arr 3 0 (l.map eEnt)]) := by
  refine acall_prim (g := pClone 3 32) rfl ?_
  obtain ⟨a, r, rfl⟩ := List.exists_cons_of_ne_nil h0
  have hw : wid ((a :: r).map eEnt) 3 := by have := wid_ents (a :: r); simpa using this
  have hr : roomOk ((a :: r).map eEnt).length 32 := by have := room_ok (a := (a :: r).length) (b := 32) (by omega) (by omega); simpa using this
  unfold pClone
  simp only [List.map_cons] at hw hr ⊢
  rw [owhen_pos ⟨hw, hr⟩]
  simp
theorem p58n (M : AMem) : acall tab 58 [.slice .sh []] M = some (.slice .c0 [], M) := acall_prim (g := pClone 3 32) rfl rfl
theorem p87 {l : List Ent} {b : Nat} (hb : b ≤ l.length) (hn : l.length ≤ 100000) (e : Ent) (c0 c1 : ABox) :
    acall tab 87 [.aref 2 0 3 0 l.length, .int .i64 b, .slice .sh [.agg (eEntC e)]] [c0, c1, .arr 3 0 (l.map eEnt)] = some (.aref 2 1 3 0 (l.length + 1), [c0, c1, .arr 3 1 ((l.take b ++ e :: l.drop b).map eEnt)]) := by
  refine acall_prim (g := pInsert 3 32) rfl ?_
  have hr : roomOk ((l.map eEnt).length + 1) 32 := by have := room_ok (a := l.length + 1) (b := 32) (by omega) (by omega); simpa using this
  unfold pInsert
  simp only [nth]
  rw [owhen_pos ⟨trivial, trivial, trivial, by simp, by omega, by simpa using hb, rfl, hr⟩]
  simp [setN, eEnt]
theorem p87n (e : Ent) (M : AMem) : acall tab 87 [.slice .c0 [], .int .i64 0, .slice .sh [.agg (eEntC e)]] M = some (.aref M.length 0 3 0 1, M ++ [.arr 3 0 [.agg (eEntC e)]]) := by
  refine acall_prim (g := pInsert 3 32) rfl ?_
  show owhen ((0 : Int) = 0 ∧ (AVal.agg (eEntC e)).cells.length = 3) _ = _
  exact owhen_pos ⟨rfl, rfl⟩
theorem p84 {l : List Ent} {b : Nat} (hb : b < l.length) (hn : l.length ≤ 100000) (c0 c1 : ABox) :
    acall tab 84 [.aref 2 0 3 0 l.length, .int .i64 b, .int .i64 ((b + 1 : Nat) : Int)] [c0, c1, .arr 3 0 (l.map eEnt)] = some (.aref 2 1 3 0 (l.length - 1), [c0, c1, .arr 3 1 ((l.take b ++ l.drop (b + 1)).map eEnt)]) := by
  refine acall_prim (g := pDelete 3) rfl ?_
  unfold pDelete
  simp only [nth]
  rw [owhen_pos ⟨trivial, trivial, trivial, by simp, by omega, by simpa using hb, by omega, by simp; omega⟩]
  simp [setN]
end Go.Proofs.YtnapockikkbkcaaGreat
namespace Go.Proofs.YtnapockikkbkcaaGreat
open Go Go.Abs
attribute [local irreducible] exK opsK opK gK forkK kr acall callOp owhen obind
theorem withN_self {nodes : List Node} (h : Asc nodes) {n : Node} (hf : find nodes n.ino = some n) : withN nodes n = nodes := by
  rcases at_find h n.ino with ⟨_, o, h2, h3, h4⟩ | ⟨_, h2⟩
  · rw [hf] at h3; injection h3 with h3; subst h3
    rw [withN_set h h2 rfl]
    apply List.ext_getElem?
    intro i
    by_cases e : lowB nodes n.ino = i
    · subst e; rw [List.getElem?_set_self (List.getElem?_eq_some_iff.1 h2).1, h2]
    · rw [List.getElem?_set_ne e]
  · rw [hf] at h2; cases h2
theorem c51 (nodes : List Node) (next cookie dir : Int) (s : Bytes) (ino : Int) (h : Asc nodes) (hn : nodes.length ≤ 100000) {n : Node} (hf : find nodes dir = some n) (hE : AscE n.ents) (hl : n.ents.length ≤ 99999) (hs : findE n.ents s = none) :
    acall tab 51 [.ptr 0 0, .int .i64 dir, .str s, .int .i64 ino] [.cells [eNodes nodes, .int .i64 next, .int .i64 cookie]] = some (.tuple [], [.cells (eTreeC (enteredN ⟨nodes, next, cookie⟩ dir s ino))]) := by
  refine acall_ex rfl rfl rfl ?_
  have h0 : nodes ≠ [] := by rintro rfl; simp [find] at hf
  have hnn : nodeN nodes dir = n := by simp [nodeN, hf]
  have hk := fun M => k43 nodes next cookie dir h hn 0 (.cells [eNodes nodes, .int .i64 next, .int .i64 cookie] :: M) rfl
  have hk2 := fun a b c d u M => k42 a b c d n.ents u s _ (lowE_of hE s) (by omega) M
  have hle := (lowE_of hE s).le
  have hres : enteredN ⟨nodes, next, cookie⟩ dir s ino = ⟨withN nodes { n with ents := n.ents.take (lowE n.ents s) ++ ⟨s, ino, cookie⟩ :: n.ents.drop (lowE n.ents s) }, next, w64 (cookie + 1)⟩ := by
    have := insE_ins hE (e := ⟨s, ino, cookie⟩) hs
    simp only [enteredN, hf, Option.getD_some, this]
  rw [hres, eTreeC]
  have hp := fun a b c d e u M => k50 nodes next (w64 (cookie + 1)) a b c d e u h h0 hn 0 (.cells [eNodes nodes, .int .i64 next, .int .i64 (w64 (cookie + 1))] :: M) rfl
  simp only [fn51, E51, hk, hnn, eNode, eNodeC, hk2, EVT, EVD, ↓reduceIte, Nat.reduceEqDiff, reduceCtorEq, Nat.reduceAdd, Nat.reduceLeDiff, ne_eq, Nat.reduceLT, Int.reduceLT, Int.reduceLE, Int.reduceNeg]
  by_cases hne : n.ents = []
  · have hlow : lowE n.ents s = 0 := by rw [hne]; rfl
    have hi := fun M => p87n ⟨s, ino, cookie⟩ M
    simp only [eEntC] at hi
    have hlow0 : lowE [] s = 0 := rfl
    have hc0 : ((0 : Nat) : Int) = 0 := rfl
    simp only [E51, hne, hlow0, hc0, eEnts, List.map_nil, p58n, hi, FZ, frzM, List.take_nil, List.drop_nil, List.nil_append, EVT, EVD, ↓reduceIte, Nat.reduceEqDiff, reduceCtorEq, Nat.reduceAdd, Nat.reduceLeDiff, ne_eq, Nat.reduceLT, Int.reduceLT, Int.reduceLE, Int.reduceNeg]
    rw [show AVal.slice .sh [AVal.agg [.str s, .int .i64 ino, .int .i64 cookie]] = eEnts [⟨s, ino, cookie⟩] from rfl]
    simp only [E51, hp, EVT, EVD, ↓reduceIte, Nat.reduceEqDiff, reduceCtorEq, Nat.reduceAdd, Nat.reduceLeDiff, ne_eq, Nat.reduceLT, Int.reduceLT, Int.reduceLE, Int.reduceNeg]
  · have hc := fun M => p58 hne (show n.ents.length ≤ 100000 by omega) M
    have hi := fun c0 c1 => p87 hle (show n.ents.length ≤ 100000 by omega) ⟨s, ino, cookie⟩ c0 c1
    simp only [eEntC] at hi
    simp only [E51, hc, hi, FZ, frzM, EVT, EVD, ↓reduceIte, Nat.reduceEqDiff, reduceCtorEq, Nat.reduceAdd, Nat.reduceLeDiff, ne_eq, Nat.reduceLT, Int.reduceLT, Int.reduceLE, Int.reduceNeg]
    have ht : List.take (n.ents.length + 1) (List.map eEnt (List.take (lowE n.ents s) n.ents ++ ⟨s, ino, cookie⟩ :: List.drop (lowE n.ents s) n.ents)) = List.map eEnt (List.take (lowE n.ents s) n.ents ++ ⟨s, ino, cookie⟩ :: List.drop (lowE n.ents s) n.ents) := List.take_of_length_le (by simp; omega)
    rw [ht]
    simp only [E51, hp, EVT, EVD, ↓reduceIte, Nat.reduceEqDiff, reduceCtorEq, Nat.reduceAdd, Nat.reduceLeDiff, ne_eq, Nat.reduceLT, Int.reduceLT, Int.reduceLE, Int.reduceNeg]
theorem k51 (nodes : List Node) (next cookie dir : Int) (s : Bytes) (ino : Int) (h : Asc nodes) (hn : nodes.length ≤ 100000) {n : Node} (hf : find nodes dir = some n) (hE : AscE n.ents) (hl : n.ents.length ≤ 99999) (hs : findE n.ents s = none) (p : Nat) (M : AMem) (hM : nth M p = some (.cells [eNodes nodes, .int .i64 next, .int .i64 cookie])) :
    callOp (acall tab) 51 [.ptr p 0, .int .i64 dir, .str s, .int .i64 ino] M = some (.tuple [], setN M p (.cells (eTreeC (enteredN ⟨nodes, next, cookie⟩ dir s ino)))) :=
  callOp1 hM (c51 nodes next cookie dir s ino h hn hf hE hl hs) rfl rfl rfl rfl rfl rfl rfl rfl rfl rfl
theorem c48 (nodes : List Node) (next cookie dir : Int) (s : Bytes) (h : Asc nodes) (hn : nodes.length ≤ 100000) {n : Node} (hf : find nodes dir = some n) (hE : AscE n.ents) (hl : n.ents.length ≤ 99999) :
    acall tab 48 [.ptr 0 0, .int .i64 dir, .str s] [.cells [eNodes nodes, .int .i64 next, .int .i64 cookie]] = some (.tuple [], [.cells [eNodes (leftN nodes dir s), .int .i64 next, .int .i64 cookie]]) := by
  refine acall_ex rfl rfl rfl ?_
  have h0 : nodes ≠ [] := by rintro rfl; simp [find] at hf
  have hnn : nodeN nodes dir = n := by simp [nodeN, hf]
  have hino : n.ino = dir := (find_mem hf).2
  have hk := fun M => k43 nodes next cookie dir h hn 0 (.cells [eNodes nodes, .int .i64 next, .int .i64 cookie] :: M) rfl
  have hk2 := fun a b c d u M => k42 a b c d n.ents u s _ (lowE_of hE s) (by omega) M
  have hp := fun a b c d e u M => k50 nodes next cookie a b c d e u h h0 hn 0 (.cells [eNodes nodes, .int .i64 next, .int .i64 cookie] :: M) rfl
  have hres : leftN nodes dir s = withN nodes { n with ents := dropE n.ents s } := by simp only [leftN, hf, Option.getD_some]
  rw [hres]
  simp only [fn48, E48, hk, hnn, eNode, eNodeC, hk2, EVT, EVD, ↓reduceIte, Nat.reduceEqDiff, reduceCtorEq, Nat.reduceAdd, Nat.reduceLeDiff, ne_eq, Nat.reduceLT, Int.reduceLT, Int.reduceLE, Int.reduceNeg]
  rcases at_findE hE s with ⟨h1, o, h2, h3, h4⟩ | ⟨h1, h2⟩
  · have hlt := (List.getElem?_eq_some_iff.1 h2).1
    have hne : n.ents ≠ [] := by intro hc; rw [hc] at h2; simp at h2
    have hc := fun M => p58 hne (show n.ents.length ≤ 100000 by omega) M
    have hd := fun c0 c1 => p84 hlt (show n.ents.length ≤ 100000 by omega) c0 c1
    have hw : IntKind.i64.wrap ((lowE n.ents s : Int) + 1) = ((lowE n.ents s + 1 : Nat) : Int) := by rw [wrap_small (by omega) (by omega)]; rfl
    simp only [E48, h1, hc, hd, hw, FZ, frzM, EVT, EVD, ↓reduceIte, Nat.reduceEqDiff, reduceCtorEq, Nat.reduceAdd, Nat.reduceLeDiff, ne_eq, Nat.reduceLT, Int.reduceLT, Int.reduceLE, Int.reduceNeg]
    have ht : List.take (n.ents.length - 1) (List.map eEnt (List.take (lowE n.ents s) n.ents ++ List.drop (lowE n.ents s + 1) n.ents)) = List.map eEnt (List.take (lowE n.ents s) n.ents ++ List.drop (lowE n.ents s + 1) n.ents) := List.take_of_length_le (by simp; omega)
    rw [ht]
    simp only [E48, hp, EVT, EVD, ↓reduceIte, Nat.reduceEqDiff, reduceCtorEq, Nat.reduceAdd, Nat.reduceLeDiff, ne_eq, Nat.reduceLT, Int.reduceLT, Int.reduceLE, Int.reduceNeg]
    rw [dropE_del hE h2 h4]
  · simp only [E48, h1, EVT, EVD, ↓reduceIte, Nat.reduceEqDiff, reduceCtorEq, Nat.reduceAdd, Nat.reduceLeDiff, ne_eq, Nat.reduceLT, Int.reduceLT, Int.reduceLE, Int.reduceNeg]
    rw [dropE_none h2]
    have : withN nodes n = nodes := withN_self h (by rw [hino]; exact hf)
    rw [show ({ n with ents := n.ents } : Node) = n from rfl, this]
theorem k48 (nodes : List Node) (next cookie dir : Int) (s : Bytes) (h : Asc nodes) (hn : nodes.length ≤ 100000) {n : Node} (hf : find nodes dir = some n) (hE : AscE n.ents) (hl : n.ents.length ≤ 99999) (p : Nat) (M : AMem) (hM : nth M p = some (.cells [eNodes nodes, .int .i64 next, .int .i64 cookie])) :
    callOp (acall tab) 48 [.ptr p 0, .int .i64 dir, .str s] M = some (.tuple [], setN M p (.cells [eNodes (leftN nodes dir s), .int .i64 next, .int .i64 cookie])) :=
  callOp1 hM (c48 nodes next cookie dir s h hn hf hE hl) rfl rfl rfl rfl rfl rfl rfl rfl rfl rfl
def unnamedW (nodes : List Node) (n : Node) : List Node := if (n.kind == 2) = true then withoutN nodes n.ino else withN nodes { n with links := w64 (n.links - 1) }
theorem c49 (nodes : List Node) (next cookie : Int) (n : Node) (h : Asc nodes) (h0 : nodes ≠ []) (hn : nodes.length ≤ 100000) :
    acall tab 49 [.ptr 0 0, eNode n] [.cells [eNodes nodes, .int .i64 next, .int .i64 cookie]] = some (.tuple [], [.cells [eNodes (unnamedW nodes n), .int .i64 next, .int .i64 cookie]]) := by
  refine acall_ex rfl rfl rfl ?_
  have hp := fun a b c d e u M => k50 nodes next cookie a b c d e u h h0 hn 0 (.cells [eNodes nodes, .int .i64 next, .int .i64 cookie] :: M) rfl
  have hd := fun M => k75 nodes next cookie n.ino h hn 0 (.cells [eNodes nodes, .int .i64 next, .int .i64 cookie] :: M) rfl
  simp only [fn49, E49, eNode, eNodeC, EVT, EVD, ↓reduceIte, Nat.reduceEqDiff, reduceCtorEq, Nat.reduceAdd, Nat.reduceLeDiff, ne_eq, Nat.reduceLT, Int.reduceLT, Int.reduceLE, Int.reduceNeg]
  unfold unnamedW
  refine fork_split (fun hb => ?_) (fun hb => ?_)
  · simp only [E49, hb, hd, EVT, EVD, ↓reduceIte, Nat.reduceEqDiff, reduceCtorEq, Nat.reduceAdd, Nat.reduceLeDiff, ne_eq, Nat.reduceLT, Int.reduceLT, Int.reduceLE, Int.reduceNeg]
  · simp only [E49, hb, hp, Bool.false_eq_true, EVT, EVD, ↓reduceIte, Nat.reduceEqDiff, reduceCtorEq, Nat.reduceAdd, Nat.reduceLeDiff, ne_eq, Nat.reduceLT, Int.reduceLT, Int.reduceLE, Int.reduceNeg]
theorem k49 (nodes : List Node) (next cookie a b c : Int) (d : Bytes) (e : List Ent) (u : Int) (h : Asc nodes) (h0 : nodes ≠ []) (hn : nodes.length ≤ 100000) (p : Nat) (M : AMem) (hM : nth M p = some (.cells [eNodes nodes, .int .i64 next, .int .i64 cookie])) :
    callOp (acall tab) 49 [.ptr p 0, .agg [.int .i64 a, .int .i64 b, .int .i64 c, eData d, eEnts e, .int .i64 u]] M = some (.tuple [], setN M p (.cells [eNodes (unnamedW nodes ⟨a, b, c, d, e, u⟩), .int .i64 next, .int .i64 cookie])) :=
  callOp1 hM (c49 nodes next cookie ⟨a, b, c, d, e, u⟩ h h0 hn) rfl rfl rfl rfl rfl rfl rfl rfl rfl rfl
end Go.Proofs.YtnapockikkbkcaaGreat
namespace Go.Proofs.YtnapockikkbkcaaGreat
open Go Go.Abs
attribute [local irreducible] exK opsK opK gK forkK kr acall callOp owhen obind
def upDepth (nodes : List Node) (ino : Int) : Nat := (upsN nodes ino).length - 1
def mayErr (t : Tree) (dir : Int) (s : Bytes) : Int :=
  if ((dirN t.nodes dir).2 != 0) = true then (dirN t.nodes dir).2 else if (!nameOk s) = true then 60 else if (findE (dirN t.nodes dir).1.ents s).isSome = true then 71 else
  if (decide ((64 : Int) ≤ (dirN t.nodes dir).1.ents.length) || (decide ((12 : Int) ≤ upDepth t.nodes dir) || decide ((1099511627776 : Int) ≤ t.cookie))) = true then 76 else 0
theorem c70 (nodes : List Node) (next cookie dir : Int) (s : Bytes) (ht : Small ⟨nodes, next, cookie⟩) (hr : Srt ⟨nodes, next, cookie⟩) (hs : s.length ≤ 100000) (ha : Ascii s) :
    acall tab 70 [.ptr 0 0, .int .i64 dir, .str s] [.cells [eNodes nodes, .int .i64 next, .int .i64 cookie]] = some (.int .i64 (mayErr ⟨nodes, next, cookie⟩ dir s), [.cells [eNodes nodes, .int .i64 next, .int .i64 cookie]]) := by
  have hn : nodes.length ≤ 100000 := ht.nodes
  have hd : (dirN nodes dir).1.ents.length ≤ 100000 := dirN_ents ht dir
  have hE : AscE (dirN nodes dir).1.ents := hr.dir dir
  have hk := fun M => k40 nodes next cookie dir hr.asc hn 0 (.cells [eNodes nodes, .int .i64 next, .int .i64 cookie] :: M) rfl
  have hk2 := fun a b c d u M => k42 a b c d (dirN nodes dir).1.ents u s _ (lowE_of hE s) hd M
  have hk3 : ∀ M, callOp (acall tab) 81 [.ptr 0 0, .int .i64 dir] (.cells [eNodes nodes, .int .i64 next, .int .i64 cookie] :: M) = some (.int .i64 (upDepth nodes dir), .cells [eNodes nodes, .int .i64 next, .int .i64 cookie] :: M) := fun M => k81 nodes next cookie dir hr.asc hn 0 (.cells [eNodes nodes, .int .i64 next, .int .i64 cookie] :: M) rfl
  refine acall_ex rfl rfl rfl ?_
  simp only [fn70, E70, hk, eNode, eNodeC, EVT, EVD, ↓reduceIte, Nat.reduceEqDiff, reduceCtorEq, Nat.reduceAdd, Nat.reduceLeDiff, ne_eq, Nat.reduceLT, Int.reduceLT, Int.reduceLE, Int.reduceNeg]
  refine fork_split (fun hb => ?_) (fun hb => ?_)
  · simp only [E70, hb, EVT, EVD, ↓reduceIte, Nat.reduceEqDiff, reduceCtorEq, Nat.reduceAdd, Nat.reduceLeDiff, ne_eq, Nat.reduceLT, Int.reduceLT, Int.reduceLE, Int.reduceNeg]
    clear hk hk2 hk3
    simp_all only [mayErr, BBT, ↓reduceIte, reduceCtorEq, bne_self_eq_false]
  simp only [E70, hb, k41, hs, ha, EVT, EVD, ↓reduceIte, Nat.reduceEqDiff, reduceCtorEq, Nat.reduceAdd, Nat.reduceLeDiff, ne_eq, Nat.reduceLT, Int.reduceLT, Int.reduceLE, Int.reduceNeg]
  refine fork_split (fun hb1 => ?_) (fun hb1 => ?_)
  · simp only [E70, hb1, EVT, EVD, ↓reduceIte, Nat.reduceEqDiff, reduceCtorEq, Nat.reduceAdd, Nat.reduceLeDiff, ne_eq, Nat.reduceLT, Int.reduceLT, Int.reduceLE, Int.reduceNeg]
    clear hk hk2 hk3
    simp_all only [mayErr, BBT, ↓reduceIte, reduceCtorEq, bne_self_eq_false]
  simp only [E70, hb1, hk2, EVT, EVD, ↓reduceIte, Nat.reduceEqDiff, reduceCtorEq, Nat.reduceAdd, Nat.reduceLeDiff, ne_eq, Nat.reduceLT, Int.reduceLT, Int.reduceLE, Int.reduceNeg]
  rcases at_findE hE s with ⟨h1, o, h2, h3, h4⟩ | ⟨h1, h2⟩
  · simp only [E70, h1, EVT, EVD, ↓reduceIte, Nat.reduceEqDiff, reduceCtorEq, Nat.reduceAdd, Nat.reduceLeDiff, ne_eq, Nat.reduceLT, Int.reduceLT, Int.reduceLE, Int.reduceNeg]
    clear hk hk2 hk3
    simp_all only [mayErr, Option.isSome_some, BBT, ↓reduceIte, reduceCtorEq, bne_self_eq_false]
  · simp only [E70, h1, EVT, EVD, ↓reduceIte, Nat.reduceEqDiff, reduceCtorEq, Nat.reduceAdd, Nat.reduceLeDiff, ne_eq, Nat.reduceLT, Int.reduceLT, Int.reduceLE, Int.reduceNeg]
    repeat' (first | (refine fork_split (fun hb => ?_) (fun hb => ?_) <;> simp only [hb, E70, hk3, EVT, EVD, ↓reduceIte, Nat.reduceEqDiff, reduceCtorEq, Nat.reduceAdd, Nat.reduceLeDiff, ne_eq, Nat.reduceLT, Int.reduceLT, Int.reduceLE, Int.reduceNeg]) | (refine guard_split (fun hb => ?_) (fun hb => ?_) <;> simp only [hb, E70, hk3, EVT, EVD, ↓reduceIte, Nat.reduceEqDiff, reduceCtorEq, Nat.reduceAdd, Nat.reduceLeDiff, ne_eq, Nat.reduceLT, Int.reduceLT, Int.reduceLE, Int.reduceNeg]) | (refine opK_pick (fun hb => ?_) (fun hb => ?_) <;> simp only [hb, E70, hk3, EVT, EVD, ↓reduceIte, Nat.reduceEqDiff, reduceCtorEq, Nat.reduceAdd, Nat.reduceLeDiff, ne_eq, Nat.reduceLT, Int.reduceLT, Int.reduceLE, Int.reduceNeg]))
    all_goals (clear hk hk2 hk3; simp_all only [mayErr, Option.isSome_none, BBT, ↓reduceIte, reduceCtorEq, bne_self_eq_false]; done)
theorem k70 (nodes : List Node) (next cookie dir : Int) (s : Bytes) (ht : Small ⟨nodes, next, cookie⟩) (hr : Srt ⟨nodes, next, cookie⟩) (hs : s.length ≤ 100000) (ha : Ascii s) (p : Nat) (M : AMem) (hM : nth M p = some (.cells [eNodes nodes, .int .i64 next, .int .i64 cookie])) :
    callOp (acall tab) 70 [.ptr p 0, .int .i64 dir, .str s] M = some (.int .i64 (mayErr ⟨nodes, next, cookie⟩ dir s), M) := by
  have := callOp1 hM (c70 nodes next cookie dir s ht hr hs ha) rfl rfl rfl rfl rfl rfl rfl rfl rfl rfl
  rwa [set_nth hM] at this
def ontoN (x y : Node) : Int := if (x.kind == 2 && y.kind != 2) = true then 73 else if (x.kind != 2 && y.kind == 2) = true then 72 else if decide ((0 : Int) < y.ents.length) = true then 74 else 0
theorem c46 (x y : Node) : acall tab 46 [eNode x, eNode y] [] = some (.int .i64 (ontoN x y), []) := by
  refine acall_ex rfl rfl rfl ?_
  simp only [fn46, E46, eNode, eNodeC, EVT, EVD, ↓reduceIte, Nat.reduceEqDiff, reduceCtorEq, Nat.reduceAdd, Nat.reduceLeDiff, ne_eq, Nat.reduceLT, Int.reduceLT, Int.reduceLE, Int.reduceNeg]
  repeat' (first | (refine fork_split (fun hb => ?_) (fun hb => ?_) <;> simp only [hb, E46, EVT, EVD, ↓reduceIte, Nat.reduceEqDiff, reduceCtorEq, Nat.reduceAdd, Nat.reduceLeDiff, ne_eq, Nat.reduceLT, Int.reduceLT, Int.reduceLE, Int.reduceNeg]) | (refine guard_split (fun hb => ?_) (fun hb => ?_) <;> simp only [hb, E46, EVT, EVD, ↓reduceIte, Nat.reduceEqDiff, reduceCtorEq, Nat.reduceAdd, Nat.reduceLeDiff, ne_eq, Nat.reduceLT, Int.reduceLT, Int.reduceLE, Int.reduceNeg]) | (refine opK_pick (fun hb => ?_) (fun hb => ?_) <;> simp only [hb, E46, EVT, EVD, ↓reduceIte, Nat.reduceEqDiff, reduceCtorEq, Nat.reduceAdd, Nat.reduceLeDiff, ne_eq, Nat.reduceLT, Int.reduceLT, Int.reduceLE, Int.reduceNeg]))
  all_goals (simp_all only [ontoN, BBT, ↓reduceIte, reduceCtorEq, bne_self_eq_false]; done)
theorem c35 (t : Tree) (ino : Int) (ht : Small t) (hr : Srt t) : acall tab 35 [eTree t, .int .i64 ino] [] = some (.tuple [eTree (freeN t ino).1, .int .i64 (freeN t ino).2], []) := by
  obtain ⟨nodes, next, cookie⟩ := t
  have hn : nodes.length ≤ 100000 := ht.nodes
  refine acall_ex rfl rfl rfl ?_
  have hk := fun b c M => k43 nodes next cookie ino hr.asc hn 2 (b :: c :: .cells [eNodes nodes, .int .i64 next, .int .i64 cookie] :: M) rfl
  have hd := fun b c M => k75 nodes next cookie ino hr.asc hn 2 (b :: c :: .cells [eNodes nodes, .int .i64 next, .int .i64 cookie] :: M) rfl
  simp only [fn35, E35, eTree, eTreeC, hk, eNode, eNodeC, EVT, EVD, ↓reduceIte, Nat.reduceEqDiff, reduceCtorEq, Nat.reduceAdd, Nat.reduceLeDiff, ne_eq, Nat.reduceLT, Int.reduceLT, Int.reduceLE, Int.reduceNeg]
  repeat' (first | (refine fork_split (fun hb => ?_) (fun hb => ?_) <;> simp only [hb, E35, hd, EVT, EVD, ↓reduceIte, Nat.reduceEqDiff, reduceCtorEq, Nat.reduceAdd, Nat.reduceLeDiff, ne_eq, Nat.reduceLT, Int.reduceLT, Int.reduceLE, Int.reduceNeg]) | (refine guard_split (fun hb => ?_) (fun hb => ?_) <;> simp only [hb, E35, hd, EVT, EVD, ↓reduceIte, Nat.reduceEqDiff, reduceCtorEq, Nat.reduceAdd, Nat.reduceLeDiff, ne_eq, Nat.reduceLT, Int.reduceLT, Int.reduceLE, Int.reduceNeg]) | (refine opK_pick (fun hb => ?_) (fun hb => ?_) <;> simp only [hb, E35, hd, EVT, EVD, ↓reduceIte, Nat.reduceEqDiff, reduceCtorEq, Nat.reduceAdd, Nat.reduceLeDiff, ne_eq, Nat.reduceLT, Int.reduceLT, Int.reduceLE, Int.reduceNeg]))
  all_goals (clear hk hd; simp_all only [freeN, eTree, eTreeC, BBT, ↓reduceIte, reduceCtorEq, bne_self_eq_false]; done)
theorem k107 (data : Bytes) (hd : data.length ≤ 100000) (M : AMem) : callOp (acall tab) 107 [eData data] M = some (eData data, M) := by
  refine callOp0 (acall_prim (g := pCopy 1 1) rfl ?_) rfl rfl rfl rfl rfl M
  have hw : wid (data.map eByte) 1 := by have := wid_bytes data; simpa using this
  have hr : roomOk (data.map eByte).length 1 := by have := room_ok (a := data.length) (b := 1) (by omega) (by omega); simpa using this
  exact owhen_pos ⟨hw, hr⟩
theorem c71 (t : Tree) (ino : Int) (data : Bytes) (ht : Small t) (hr : Srt t) (hd : data.length ≤ 100000) : acall tab 71 [eTree t, .int .i64 ino, eData data] [] = some (.tuple [eTree (putN t ino data).1, .int .i64 (putN t ino data).2], []) := by
  obtain ⟨nodes, next, cookie⟩ := t
  have hn : nodes.length ≤ 100000 := ht.nodes
  refine acall_ex rfl rfl rfl ?_
  have hk := fun b c M => k43 nodes next cookie ino hr.asc hn 2 (b :: c :: .cells [eNodes nodes, .int .i64 next, .int .i64 cookie] :: M) rfl
  simp only [fn71, E71, eTree, eTreeC, hk, eNode, eNodeC, EVT, EVD, ↓reduceIte, Nat.reduceEqDiff, reduceCtorEq, Nat.reduceAdd, Nat.reduceLeDiff, ne_eq, Nat.reduceLT, Int.reduceLT, Int.reduceLE, Int.reduceNeg]
  cases hf : find nodes ino with
  | none =>
    simp only [E71, Option.isSome_none, EVT, EVD, ↓reduceIte, Nat.reduceEqDiff, reduceCtorEq, Nat.reduceAdd, Nat.reduceLeDiff, ne_eq, Nat.reduceLT, Int.reduceLT, Int.reduceLE, Int.reduceNeg]
    clear hk
    simp_all only [putN, eTree, eTreeC, Option.isSome_none, BBT, ↓reduceIte, reduceCtorEq, bne_self_eq_false]
  | some n =>
    have h0 : nodes ≠ [] := by rintro rfl; simp [find] at hf
    have hp := fun x y a b c d e u M => k50 nodes next cookie a b c d e u hr.asc h0 hn 2 (x :: y :: .cells [eNodes nodes, .int .i64 next, .int .i64 cookie] :: M) rfl
    have hc := fun M => k107 data hd M
    simp only [E71, Option.isSome_some, EVT, EVD, ↓reduceIte, Nat.reduceEqDiff, reduceCtorEq, Nat.reduceAdd, Nat.reduceLeDiff, ne_eq, Nat.reduceLT, Int.reduceLT, Int.reduceLE, Int.reduceNeg]
    repeat' (first | (refine fork_split (fun hb => ?_) (fun hb => ?_) <;> simp only [hb, E71, hp, hc, EVT, EVD, ↓reduceIte, Nat.reduceEqDiff, reduceCtorEq, Nat.reduceAdd, Nat.reduceLeDiff, ne_eq, Nat.reduceLT, Int.reduceLT, Int.reduceLE, Int.reduceNeg]) | (refine guard_split (fun hb => ?_) (fun hb => ?_) <;> simp only [hb, E71, hp, hc, EVT, EVD, ↓reduceIte, Nat.reduceEqDiff, reduceCtorEq, Nat.reduceAdd, Nat.reduceLeDiff, ne_eq, Nat.reduceLT, Int.reduceLT, Int.reduceLE, Int.reduceNeg]) | (refine opK_pick (fun hb => ?_) (fun hb => ?_) <;> simp only [hb, E71, hp, hc, EVT, EVD, ↓reduceIte, Nat.reduceEqDiff, reduceCtorEq, Nat.reduceAdd, Nat.reduceLeDiff, ne_eq, Nat.reduceLT, Int.reduceLT, Int.reduceLE, Int.reduceNeg]))
    all_goals (clear hk hp hc; simp_all only [putN, eTree, eTreeC, Option.isSome_some, BBT, ↓reduceIte, reduceCtorEq, bne_self_eq_false]; done)
end Go.Proofs.YtnapockikkbkcaaGreat
namespace Go.Proofs.YtnapockikkbkcaaGreat
open Go Go.Abs
theorem asc_unique {nodes : List Node} (h : Asc nodes) {a b : Node} (ha : a ∈ nodes) (hb : b ∈ nodes) (he : a.ino = b.ino) : a = b := by
  obtain ⟨i, hi⟩ := List.getElem?_of_mem ha
  obtain ⟨k, hk⟩ := List.getElem?_of_mem hb
  have hil := (List.getElem?_eq_some_iff.1 hi).1
  have hkl := (List.getElem?_eq_some_iff.1 hk).1
  have e1 : nodes[i] = a := by rw [List.getElem?_eq_getElem hil] at hi; injection hi
  have e2 : nodes[k] = b := by rw [List.getElem?_eq_getElem hkl] at hk; injection hk
  rcases Nat.lt_trichotomy i k with hlt | heq | hgt
  · have := List.pairwise_iff_getElem.1 h _ _ hil hkl hlt
    rw [e1, e2] at this; omega
  · subst heq; rw [← e1, ← e2]
  · have := List.pairwise_iff_getElem.1 h _ _ hkl hil hgt
    rw [e1, e2] at this; omega
theorem find_iff {nodes : List Node} (h : Asc nodes) {i : Int} {m : Node} : find nodes i = some m ↔ m ∈ nodes ∧ m.ino = i := by
  refine ⟨find_mem, fun ⟨h1, h2⟩ => ?_⟩
  cases hf : find nodes i with
  | none =>
    have := List.find?_eq_none.1 hf m h1
    simp [h2] at this
  | some k =>
    obtain ⟨k1, k2⟩ := find_mem hf
    rw [asc_unique h h1 k1 (by omega)]
theorem find_none_iff {nodes : List Node} {i : Int} : find nodes i = none ↔ ∀ m, m ∈ nodes → m.ino ≠ i := by
  unfold find
  rw [List.find?_eq_none]
  simp
theorem set_split {nodes : List Node} {b : Nat} {o n : Node} (ho : nodes[b]? = some o) : nodes = nodes.take b ++ o :: nodes.drop (b + 1) ∧ nodes.set b n = nodes.take b ++ n :: nodes.drop (b + 1) := by
  have hlt := (List.getElem?_eq_some_iff.1 ho).1
  constructor
  · rw [List.getElem?_eq_getElem hlt] at ho; injection ho with ho
    conv => lhs; rw [← List.take_append_drop b nodes]
    rw [List.drop_eq_getElem_cons hlt, ho]
  · rw [List.set_eq_take_append_cons_drop, if_pos hlt]
theorem mem_withN {nodes : List Node} (h : Asc nodes) {n m : Node} : m ∈ withN nodes n ↔ m = n ∨ (m ∈ nodes ∧ m.ino ≠ n.ino) := by
  rcases at_find h n.ino with ⟨_, o, h2, h3, h4⟩ | ⟨_, h2⟩
  · rw [withN_set h h2 h4]
    obtain ⟨s1, s2⟩ := set_split (n := n) h2
    have hon : o ∈ nodes := (find_mem h3).1
    constructor
    · intro hm
      rw [s2] at hm
      rcases List.mem_append.1 hm with hm | hm
      · have hmn := List.mem_of_mem_take hm
        have := take_low (lowI_of h n.ino) m hm
        exact .inr ⟨hmn, by omega⟩
      · rcases List.mem_cons.1 hm with rfl | hm
        · exact .inl rfl
        · refine .inr ⟨List.mem_of_mem_drop hm, fun he => ?_⟩
          have hp := h
          unfold Asc at hp
          rw [s1, List.pairwise_append] at hp
          have := (List.pairwise_cons.1 hp.2.1).1 m hm
          omega
    · rintro (rfl | ⟨hm, hne⟩)
      · rw [s2]; simp
      · rw [s1] at hm
        rw [s2]
        rcases List.mem_append.1 hm with hm | hm
        · exact List.mem_append_left _ hm
        · rcases List.mem_cons.1 hm with rfl | hm
          · exact absurd h4 hne
          · exact List.mem_append_right _ (List.mem_cons_of_mem _ hm)
  · rw [withN_ins h h2]
    rw [find_none_iff] at h2
    constructor
    · intro hm
      rcases List.mem_append.1 hm with hm | hm
      · have := List.mem_of_mem_take hm
        exact .inr ⟨this, h2 m this⟩
      · rcases List.mem_cons.1 hm with rfl | hm
        · exact .inl rfl
        · have := List.mem_of_mem_drop hm
          exact .inr ⟨this, h2 m this⟩
    · rintro (rfl | ⟨hm, _⟩)
      · simp
      · rw [← List.take_append_drop (lowB nodes n.ino) nodes] at hm
        rcases List.mem_append.1 hm with hm | hm
        · exact List.mem_append_left _ hm
        · exact List.mem_append_right _ (List.mem_cons_of_mem _ hm)
theorem withN_asc {nodes : List Node} (h : Asc nodes) (n : Node) : Asc (withN nodes n) := by
  have hl := lowI_of h n.ino
  rcases at_find h n.ino with ⟨_, o, h2, h3, h4⟩ | ⟨_, h2⟩
  · rw [withN_set h h2 h4]
    obtain ⟨s1, s2⟩ := set_split (n := n) h2
    have hp := h
    unfold Asc at hp ⊢
    rw [s1, List.pairwise_append] at hp
    obtain ⟨p1, p2, p3⟩ := hp
    obtain ⟨p4, p5⟩ := List.pairwise_cons.1 p2
    rw [s2, List.pairwise_append]
    refine ⟨p1, List.pairwise_cons.2 ⟨fun m hm => by have := p4 m hm; omega, p5⟩, fun a ha c hc => ?_⟩
    rcases List.mem_cons.1 hc with rfl | hc
    · exact take_low hl a ha
    · exact p3 a ha c (List.mem_cons_of_mem _ hc)
  · rw [withN_ins h h2]
    have hp := h
    unfold Asc at hp ⊢
    rw [← List.take_append_drop (lowB nodes n.ino) nodes, List.pairwise_append] at hp
    obtain ⟨p1, p2, p3⟩ := hp
    rw [find_none_iff] at h2
    rw [List.pairwise_append]
    refine ⟨p1, List.pairwise_cons.2 ⟨fun m hm => ?_, p2⟩, fun a ha c hc => ?_⟩
    · have k1 := drop_high hl m hm
      have k2 := h2 m (List.mem_of_mem_drop hm)
      omega
    · rcases List.mem_cons.1 hc with rfl | hc
      · exact take_low hl a ha
      · exact p3 a ha c hc
theorem find_withN {nodes : List Node} (h : Asc nodes) (n : Node) (i : Int) : find (withN nodes n) i = if i = n.ino then some n else find nodes i := by
  split
  · rename_i he
    exact (find_iff (withN_asc h n)).2 ⟨(mem_withN h).2 (.inl rfl), he.symm⟩
  · rename_i hne
    cases hf : find nodes i with
    | none =>
      rw [find_none_iff] at hf ⊢
      intro m hm
      rcases (mem_withN h).1 hm with rfl | ⟨hm, _⟩
      · exact fun he => hne he.symm
      · exact hf m hm
    | some m =>
      obtain ⟨h1, h2⟩ := find_mem hf
      exact (find_iff (withN_asc h n)).2 ⟨(mem_withN h).2 (.inr ⟨h1, by omega⟩), h2⟩
theorem withoutN_asc {nodes : List Node} (h : Asc nodes) (i : Int) : Asc (withoutN nodes i) := List.Pairwise.filter _ h
theorem find_withoutN {nodes : List Node} (h : Asc nodes) (k i : Int) : find (withoutN nodes k) i = if i = k then none else find nodes i := by
  split
  · rename_i he
    rw [find_none_iff]
    intro m hm
    have := (List.mem_filter.1 hm).2
    simp at this
    omega
  · rename_i hne
    cases hf : find nodes i with
    | none =>
      rw [find_none_iff] at hf ⊢
      exact fun m hm => hf m (List.mem_filter.1 hm).1
    | some m =>
      obtain ⟨h1, h2⟩ := find_mem hf
      exact (find_iff (withoutN_asc h k)).2 ⟨List.mem_filter.2 ⟨h1, by simp; omega⟩, h2⟩
theorem insE_asc {l : List Ent} (h : AscE l) {e : Ent} (hf : findE l e.name = none) : AscE (insE l e) := by
  rw [insE_ins h hf]
  have hl := lowE_of h e.name
  have hp := h
  unfold AscE at hp ⊢
  rw [← List.take_append_drop (lowE l e.name) l, List.pairwise_append] at hp
  obtain ⟨p1, p2, p3⟩ := hp
  rw [List.pairwise_append]
  refine ⟨p1, List.pairwise_cons.2 ⟨fun m hm => ?_, p2⟩, fun a ha c hc => ?_⟩
  · have k1 := dropE_high hl m hm
    have k2 : ¬ m.name = e.name := by simpa using List.find?_eq_none.1 hf m (List.mem_of_mem_drop hm)
    rcases strLt_total m.name e.name with h4 | h4 | h4
    · rw [k1] at h4; cases h4
    · exact absurd h4 k2
    · exact h4
  · rcases List.mem_cons.1 hc with rfl | hc
    · exact takeE_low hl a ha
    · exact p3 a ha c hc
theorem dropE_asc {l : List Ent} (h : AscE l) (s : Bytes) : AscE (dropE l s) := List.Pairwise.filter _ h
theorem Srt.with {t : Tree} (h : Srt t) {n : Node} (hn : AscE n.ents) (next cookie : Int) : Srt ⟨withN t.nodes n, next, cookie⟩ :=
  ⟨withN_asc h.asc n, fun m hm => by
    rcases (mem_withN h.asc).1 hm with rfl | ⟨hm, _⟩
    · exact hn
    · exact h.ents m hm⟩
theorem Srt.without {t : Tree} (h : Srt t) (i next cookie : Int) : Srt ⟨withoutN t.nodes i, next, cookie⟩ :=
  ⟨withoutN_asc h.asc i, fun m hm => h.ents m (List.mem_filter.1 hm).1⟩
theorem Srt.node {t : Tree} (h : Srt t) (i : Int) : AscE (nodeN t.nodes i).ents := by
  cases hf : find t.nodes i with
  | none => simp [nodeN, hf, Node.zero]; exact List.Pairwise.nil
  | some n => simp [nodeN, hf]; exact h.ents n (find_mem hf).1
theorem Srt.left {t : Tree} (h : Srt t) (i : Int) (s : Bytes) (next cookie : Int) : Srt ⟨leftN t.nodes i s, next, cookie⟩ :=
  h.with (n := { nodeN t.nodes i with ents := dropE (nodeN t.nodes i).ents s }) (dropE_asc (h.node i) s) next cookie
theorem Srt.entered {t : Tree} (h : Srt t) (i : Int) (s : Bytes) (of : Int) (hf : findE (nodeN t.nodes i).ents s = none) : Srt (enteredN t i s of) :=
  h.with (n := { nodeN t.nodes i with ents := insE (nodeN t.nodes i).ents ⟨s, of, t.cookie⟩ }) (insE_asc (h.node i) hf) t.next (w64 (t.cookie + 1))
end Go.Proofs.YtnapockikkbkcaaGreat
namespace Go.Proofs.YtnapockikkbkcaaGreat
open Go Go.Abs
attribute [local irreducible] exK opsK opK gK forkK kr acall callOp owhen obind
theorem dir_ok {nodes : List Node} {dir : Int} (h : (dirN nodes dir).2 = 0) : ∃ d, find nodes dir = some d ∧ d.kind = 2 ∧ dirN nodes dir = (d, 0) := by
  unfold dirN at h ⊢
  split at h
  · cases h
  · rename_i d hd
    split at h
    · rename_i hk; exact ⟨d, hd, hk, by simp [hd, hk]⟩
    · cases h
theorem may_ok {t : Tree} {dir : Int} {s : Bytes} (h : (mayErr t dir s != 0) = false) : ∃ d, find t.nodes dir = some d ∧ d.kind = 2 ∧ nameOk s = true ∧ findE d.ents s = none ∧ d.ents.length < 64 ∧ upDepth t.nodes dir < 12 ∧ t.cookie < 1099511627776 := by
  have h : mayErr t dir s = 0 := by simpa using h
  unfold mayErr at h
  split at h
  · rename_i hc
    rw [h] at hc; cases hc
  · rename_i hc
    obtain ⟨d, h1, h2, h3⟩ := dir_ok (by simpa using hc)
    rw [h3] at h
    split at h
    · cases h
    · rename_i hk
      split at h
      · cases h
      · rename_i hf
        split at h
        · cases h
        · rename_i hm
          simp at hk hf hm
          exact ⟨d, h1, h2, hk, hf, by omega, by omega, by omega⟩
def addW (t : Tree) (ino : Int) (s : Bytes) (kind : Int) : Tree × Int × Int :=
  if (kind != 1 && kind != 2) = true then (t, 0, 1) else if (mayErr t ino s != 0) = true then (t, 0, mayErr t ino s) else
  if (decide ((200 : Int) ≤ t.nodes.length) || decide ((1099511627776 : Int) ≤ t.next)) = true then (t, 0, 76) else
  (enteredN ⟨withN t.nodes ⟨t.next, kind, 1, [], [], if (kind == 2) = true then ino else 0⟩, w64 (t.next + 1), t.cookie⟩ ino s t.next, t.next, 0)
theorem c28 (t : Tree) (dir : Int) (s : Bytes) (kind : Int) (hz : Sz 1000 t) (hr : Srt t) (hs : s.length ≤ 100000) (ha : Ascii s) (hnew : ∀ m, m ∈ t.nodes → m.ino < t.next) :
    acall tab 28 [eTree t, .int .i64 dir, .str s, .int .i64 kind] [] = some (.tuple [eTree (addW t dir s kind).1, .int .i64 (addW t dir s kind).2.1, .int .i64 (addW t dir s kind).2.2], []) := by
  obtain ⟨nodes, next, cookie⟩ := t
  have ht : Small ⟨nodes, next, cookie⟩ := hz.small (by omega)
  have hn : nodes.length ≤ 100000 := ht.nodes
  have hk := fun b c M => k70 nodes next cookie dir s ht hr hs ha 2 (b :: c :: .cells [eNodes nodes, .int .i64 next, .int .i64 cookie] :: M) rfl
  have last : (mayErr ⟨nodes, next, cookie⟩ dir s != 0) = false → ∀ u, nodes ≠ [] ∧ ∀ b c M, callOp (acall tab) 51 [.ptr 2 0, .int .i64 dir, .str s, .int .i64 next] (b :: c :: .cells [eNodes (withN nodes ⟨next, kind, 1, [], [], u⟩), .int .i64 (w64 (next + 1)), .int .i64 cookie] :: M) =
      some (.tuple [], b :: c :: .cells (eTreeC (enteredN ⟨withN nodes ⟨next, kind, 1, [], [], u⟩, w64 (next + 1), cookie⟩ dir s next)) :: M) := fun hm u => by
    obtain ⟨d, d1, d2, d3, d4, d5, d6, d7⟩ := may_ok hm
    have dm := find_mem d1
    have hlt := hnew d dm.1
    simp only at hlt
    refine ⟨by rintro rfl; simp [find] at d1, fun b c M => ?_⟩
    have hz1 : Sz 1001 ⟨withN nodes ⟨next, kind, 1, [], [], u⟩, w64 (next + 1), cookie⟩ := hz.with (n := ⟨next, kind, 1, [], [], u⟩) (by simp) (by simp) (w64 (next + 1)) cookie
    have hf : find (withN nodes ⟨next, kind, 1, [], [], u⟩) dir = some d := by rw [find_withN hr.asc, if_neg (by simp; omega)]; exact d1
    exact k51 (withN nodes ⟨next, kind, 1, [], [], u⟩) (w64 (next + 1)) cookie dir s next (withN_asc hr.asc _) (hz1.small (by omega)).nodes hf (hr.ents d dm.1) (by omega) d4 2 (b :: c :: .cells [eNodes (withN nodes ⟨next, kind, 1, [], [], u⟩), .int .i64 (w64 (next + 1)), .int .i64 cookie] :: M) rfl
  refine acall_ex rfl rfl rfl ?_
  simp only [fn28, E28, eTree, eTreeC, hk, EVT, EVD, ↓reduceIte, Nat.reduceEqDiff, reduceCtorEq, Nat.reduceAdd, Nat.reduceLeDiff, ne_eq, Nat.reduceLT, Int.reduceLT, Int.reduceLE, Int.reduceNeg]
  repeat' (first | (refine fork_split (fun hb => ?_) (fun hb => ?_) <;> simp only [hb, E28, hk, EVT, EVD, ↓reduceIte, Nat.reduceEqDiff, reduceCtorEq, Nat.reduceAdd, Nat.reduceLeDiff, ne_eq, Nat.reduceLT, Int.reduceLT, Int.reduceLE, Int.reduceNeg]) | (refine guard_split (fun hb => ?_) (fun hb => ?_) <;> simp only [hb, E28, hk, EVT, EVD, ↓reduceIte, Nat.reduceEqDiff, reduceCtorEq, Nat.reduceAdd, Nat.reduceLeDiff, ne_eq, Nat.reduceLT, Int.reduceLT, Int.reduceLE, Int.reduceNeg]) | (refine opK_pick (fun hb => ?_) (fun hb => ?_) <;> simp only [hb, E28, hk, EVT, EVD, ↓reduceIte, Nat.reduceEqDiff, reduceCtorEq, Nat.reduceAdd, Nat.reduceLeDiff, ne_eq, Nat.reduceLT, Int.reduceLT, Int.reduceLE, Int.reduceNeg]))
  all_goals try (clear hk last; simp_all only [addW, eTree, eTreeC, BBT, ↓reduceIte, reduceCtorEq, bne_self_eq_false]; done)
  all_goals
    have hm : (mayErr ⟨nodes, next, cookie⟩ dir s != 0) = false := by assumption
    have h0 := (last hm 0).1
    have hp : ∀ u b c M, callOp (acall tab) 50 [.ptr 2 0, .agg [.int .i64 next, .int .i64 kind, .int .i64 1, .slice .sh [], .slice .sh [], .int .i64 u]] (b :: c :: .cells [eNodes nodes, .int .i64 (w64 (next + 1)), .int .i64 cookie] :: M) =
        some (.tuple [], b :: c :: .cells [eNodes (withN nodes ⟨next, kind, 1, [], [], u⟩), .int .i64 (w64 (next + 1)), .int .i64 cookie] :: M) := fun u b c M => k50 nodes (w64 (next + 1)) cookie next kind 1 [] [] u hr.asc h0 hn 2 (b :: c :: .cells [eNodes nodes, .int .i64 (w64 (next + 1)), .int .i64 cookie] :: M) rfl
    have hl := fun u => (last hm u).2
    simp only [E28, hp, hl, eTreeC, EVT, EVD, ↓reduceIte, Nat.reduceEqDiff, reduceCtorEq, Nat.reduceAdd, Nat.reduceLeDiff, ne_eq, Nat.reduceLT, Int.reduceLT, Int.reduceLE, Int.reduceNeg]
    clear hk last hp hl
    simp_all only [addW, eTree, eTreeC, BBT, ↓reduceIte, reduceCtorEq, bne_self_eq_false]
theorem k28 (nodes : List Node) (next cookie dir : Int) (s : Bytes) (kind : Int) (hz : Sz 1000 ⟨nodes, next, cookie⟩) (hr : Srt ⟨nodes, next, cookie⟩) (hs : s.length ≤ 100000) (ha : Ascii s) (hnew : ∀ m, m ∈ nodes → m.ino < next) (M : AMem) : callOp (acall tab) 28 [.agg [eNodes nodes, .int .i64 next, .int .i64 cookie], .int .i64 dir, .str s, .int .i64 kind] M =
    some (.tuple [eTree (addW ⟨nodes, next, cookie⟩ dir s kind).1, .int .i64 (addW ⟨nodes, next, cookie⟩ dir s kind).2.1, .int .i64 (addW ⟨nodes, next, cookie⟩ dir s kind).2.2], M) := callOp0 (c28 ⟨nodes, next, cookie⟩ dir s kind hz hr hs ha hnew) rfl rfl rfl rfl rfl M
def lnW (t : Tree) (ino to : Int) (s : Bytes) : Tree × Int :=
  if (!(find t.nodes ino).isSome || ((nodeN t.nodes ino).kind == 1 && (nodeN t.nodes ino).links == 0)) = true then (t, 70) else if ((nodeN t.nodes ino).kind == 2) = true then (t, 72) else
  if (mayErr t to s != 0) = true then (t, mayErr t to s) else
  (enteredN ⟨withN t.nodes { nodeN t.nodes ino with links := w64 ((nodeN t.nodes ino).links + 1) }, t.next, t.cookie⟩ to s ino, 0)
theorem c37 (t : Tree) (ino dir : Int) (s : Bytes) (hz : Sz 1000 t) (hr : Srt t) (hs : s.length ≤ 100000) (ha : Ascii s) :
    acall tab 37 [eTree t, .int .i64 ino, .int .i64 dir, .str s] [] = some (.tuple [eTree (lnW t ino dir s).1, .int .i64 (lnW t ino dir s).2], []) := by
  obtain ⟨nodes, next, cookie⟩ := t
  have ht : Small ⟨nodes, next, cookie⟩ := hz.small (by omega)
  have hn : nodes.length ≤ 100000 := ht.nodes
  have hg := fun b c M => k43 nodes next cookie ino hr.asc hn 2 (b :: c :: .cells [eNodes nodes, .int .i64 next, .int .i64 cookie] :: M) rfl
  have hk := fun b c M => k70 nodes next cookie dir s ht hr hs ha 2 (b :: c :: .cells [eNodes nodes, .int .i64 next, .int .i64 cookie] :: M) rfl
  have last : (mayErr ⟨nodes, next, cookie⟩ dir s != 0) = false → (find nodes ino).isSome = true → ((nodeN nodes ino).kind == 2) = false → ∀ l, nodes ≠ [] ∧ ∀ b c M, callOp (acall tab) 51 [.ptr 2 0, .int .i64 dir, .str s, .int .i64 ino] (b :: c :: .cells [eNodes (withN nodes { nodeN nodes ino with links := l }), .int .i64 next, .int .i64 cookie] :: M) =
      some (.tuple [], b :: c :: .cells (eTreeC (enteredN ⟨withN nodes { nodeN nodes ino with links := l }, next, cookie⟩ dir s ino)) :: M) := fun hm hi hkd l => by
    obtain ⟨d, d1, d2, d3, d4, d5, d6, d7⟩ := may_ok hm
    have dm := find_mem d1
    refine ⟨by rintro rfl; simp [find] at d1, fun b c M => ?_⟩
    have hfd := hz.find ino
    have hz1 : Sz 1001 ⟨withN nodes { nodeN nodes ino with links := l }, next, cookie⟩ := hz.with (n := { nodeN nodes ino with links := l }) (Nat.le_succ_of_le hfd.1) hfd.2 next cookie
    obtain ⟨n, hfn⟩ := Option.isSome_iff_exists.1 hi
    have hnn : nodeN nodes ino = n := by simp [nodeN, hfn]
    have hne : ¬ dir = (nodeN nodes ino).ino := fun he => by
      rw [hnn] at he hkd
      have h1 := (find_mem hfn).2
      rw [he, h1, hfn] at d1
      injection d1 with d1
      subst d1
      simp [d2] at hkd
    have hf : find (withN nodes { nodeN nodes ino with links := l }) dir = some d := by rw [find_withN hr.asc, if_neg hne]; exact d1
    exact k51 (withN nodes { nodeN nodes ino with links := l }) next cookie dir s ino (withN_asc hr.asc _) (hz1.small (by omega)).nodes hf (hr.ents d dm.1) (by omega) d4 2 (b :: c :: .cells [eNodes (withN nodes { nodeN nodes ino with links := l }), .int .i64 next, .int .i64 cookie] :: M) rfl
  refine acall_ex rfl rfl rfl ?_
  simp only [fn37, E37, eTree, eTreeC, hg, eNode, eNodeC, EVT, EVD, ↓reduceIte, Nat.reduceEqDiff, reduceCtorEq, Nat.reduceAdd, Nat.reduceLeDiff, ne_eq, Nat.reduceLT, Int.reduceLT, Int.reduceLE, Int.reduceNeg]
  repeat' (first | (refine fork_split (fun hb => ?_) (fun hb => ?_) <;> simp only [hb, E37, hk, EVT, EVD, ↓reduceIte, Nat.reduceEqDiff, reduceCtorEq, Nat.reduceAdd, Nat.reduceLeDiff, ne_eq, Nat.reduceLT, Int.reduceLT, Int.reduceLE, Int.reduceNeg]) | (refine guard_split (fun hb => ?_) (fun hb => ?_) <;> simp only [hb, E37, hk, EVT, EVD, ↓reduceIte, Nat.reduceEqDiff, reduceCtorEq, Nat.reduceAdd, Nat.reduceLeDiff, ne_eq, Nat.reduceLT, Int.reduceLT, Int.reduceLE, Int.reduceNeg]) | (refine opK_pick (fun hb => ?_) (fun hb => ?_) <;> simp only [hb, E37, hk, EVT, EVD, ↓reduceIte, Nat.reduceEqDiff, reduceCtorEq, Nat.reduceAdd, Nat.reduceLeDiff, ne_eq, Nat.reduceLT, Int.reduceLT, Int.reduceLE, Int.reduceNeg]))
  all_goals try (clear hk hg last; simp_all only [lnW, eTree, eTreeC, BBT, ↓reduceIte, reduceCtorEq, bne_self_eq_false]; done)
  all_goals
    have hm : (mayErr ⟨nodes, next, cookie⟩ dir s != 0) = false := by assumption
    have h2 : ((nodeN nodes ino).kind == 2) = false := by assumption
    have h3 : (!(find nodes ino).isSome) = false := by assumption
    have h3 : (find nodes ino).isSome = true := by simpa using h3
    have h0 := (last hm h3 h2 0).1
    have hp := fun a b c d e u x y M => k50 nodes next cookie a b c d e u hr.asc h0 hn 2 (x :: y :: .cells [eNodes nodes, .int .i64 next, .int .i64 cookie] :: M) rfl
    have hl := fun l => (last hm h3 h2 l).2
    simp only [E37, hp, hl, eTreeC, EVT, EVD, ↓reduceIte, Nat.reduceEqDiff, reduceCtorEq, Nat.reduceAdd, Nat.reduceLeDiff, ne_eq, Nat.reduceLT, Int.reduceLT, Int.reduceLE, Int.reduceNeg]
    clear hk hg last hp hl
    simp_all only [lnW, eTree, eTreeC, BBT, ↓reduceIte, reduceCtorEq, bne_self_eq_false]
end Go.Proofs.YtnapockikkbkcaaGreat
namespace Go.Proofs.YtnapockikkbkcaaGreat
open Go Go.Abs
attribute [local irreducible] exK opsK opK gK forkK kr acall callOp owhen obind
theorem look_ok {nodes : List Node} {dir : Int} {s : Bytes} (h : ((lookN nodes dir s).2 != 0) = false) : ∃ d e, find nodes dir = some d ∧ d.kind = 2 ∧ nameOk s = true ∧ findE d.ents s = some e ∧ lookN nodes dir s = (e.ino, 0) := by
  have h : (lookN nodes dir s).2 = 0 := by simpa using h
  have h' := h
  unfold lookN at h
  split at h
  · rename_i hc; exact absurd h hc
  · rename_i hc
    obtain ⟨d, h1, h2, h3⟩ := dir_ok (by simpa using hc)
    rw [h3] at h
    split at h
    · cases h
    · rename_i hk
      split at h
      · cases h
      · rename_i e he
        have hk : nameOk s = true := by simpa using hk
        refine ⟨d, e, h1, h2, hk, he, ?_⟩
        unfold lookN
        rw [h3]
        simp [hk, he]
def unW (t : Tree) (dir : Int) (s : Bytes) : Tree × Int × Int :=
  if ((lookN t.nodes dir s).2 != 0) = true then (t, 0, (lookN t.nodes dir s).2) else if decide ((0 : Int) < (nodeN t.nodes (lookN t.nodes dir s).1).ents.length) = true then (t, 0, 74) else
  (⟨unnamedW (leftN t.nodes dir s) (nodeN t.nodes (lookN t.nodes dir s).1), t.next, t.cookie⟩, (lookN t.nodes dir s).1, 0)
theorem leftN_ne {nodes : List Node} (h : Asc nodes) {dir : Int} {s : Bytes} {d : Node} (hf : find nodes dir = some d) : leftN nodes dir s ≠ [] := by
  intro hc
  have : ({ d with ents := dropE d.ents s } : Node) ∈ leftN nodes dir s := by
    unfold leftN
    rw [hf]
    exact (mem_withN h).2 (.inl rfl)
  rw [hc] at this
  cases this
theorem c38 (t : Tree) (dir : Int) (s : Bytes) (hz : Sz 1000 t) (hr : Srt t) (hs : s.length ≤ 100000) (ha : Ascii s) :
    acall tab 38 [eTree t, .int .i64 dir, .str s] [] = some (.tuple [eTree (unW t dir s).1, .int .i64 (unW t dir s).2.1, .int .i64 (unW t dir s).2.2], []) := by
  obtain ⟨nodes, next, cookie⟩ := t
  have ht : Small ⟨nodes, next, cookie⟩ := hz.small (by omega)
  have hn : nodes.length ≤ 100000 := ht.nodes
  have hg := fun b c M => k43 nodes next cookie (lookN nodes dir s).1 hr.asc hn 2 (b :: c :: .cells [eNodes nodes, .int .i64 next, .int .i64 cookie] :: M) rfl
  have hl := fun M => k15 nodes next cookie dir s ht hr hs ha M
  refine acall_ex rfl rfl rfl ?_
  simp only [fn38, E38, eTree, eTreeC, hl, EVT, EVD, ↓reduceIte, Nat.reduceEqDiff, reduceCtorEq, Nat.reduceAdd, Nat.reduceLeDiff, ne_eq, Nat.reduceLT, Int.reduceLT, Int.reduceLE, Int.reduceNeg]
  refine fork_split (fun hb => ?_) (fun hb => ?_)
  · simp only [E38, hb, EVT, EVD, ↓reduceIte, Nat.reduceEqDiff, reduceCtorEq, Nat.reduceAdd, Nat.reduceLeDiff, ne_eq, Nat.reduceLT, Int.reduceLT, Int.reduceLE, Int.reduceNeg]
    clear hg hl
    simp_all only [unW, eTree, eTreeC, BBT, ↓reduceIte, reduceCtorEq, bne_self_eq_false]
  obtain ⟨d, e, d1, d2, d3, d4, d5⟩ := look_ok hb
  have dm := find_mem d1
  have hde : d.ents.length ≤ 1000 := hz.ents d dm.1
  have hsz : Sz 1001 ⟨leftN nodes dir s, next, cookie⟩ := hz.left dir s next cookie
  have hv := fun x y M => k48 nodes next cookie dir s hr.asc hn d1 (hr.ents d dm.1) (by omega) 2 (x :: y :: .cells [eNodes nodes, .int .i64 next, .int .i64 cookie] :: M) rfl
  have hu := fun a b c d' e' u x y M => k49 (leftN nodes dir s) next cookie a b c d' e' u (hr.left dir s next cookie).asc (leftN_ne hr.asc d1) (hsz.small (by omega)).nodes 2 (x :: y :: .cells [eNodes (leftN nodes dir s), .int .i64 next, .int .i64 cookie] :: M) rfl
  simp only [E38, hb, hg, eNode, eNodeC, EVT, EVD, ↓reduceIte, Nat.reduceEqDiff, reduceCtorEq, Nat.reduceAdd, Nat.reduceLeDiff, ne_eq, Nat.reduceLT, Int.reduceLT, Int.reduceLE, Int.reduceNeg]
  refine fork_split (fun hb1 => ?_) (fun hb1 => ?_)
  · simp only [E38, hb1, EVT, EVD, ↓reduceIte, Nat.reduceEqDiff, reduceCtorEq, Nat.reduceAdd, Nat.reduceLeDiff, ne_eq, Nat.reduceLT, Int.reduceLT, Int.reduceLE, Int.reduceNeg]
    clear hg hl hv hu
    simp_all only [unW, eTree, eTreeC, BBT, ↓reduceIte, reduceCtorEq, bne_self_eq_false]
  · simp only [E38, hb1, hv, hu, EVT, EVD, ↓reduceIte, Nat.reduceEqDiff, reduceCtorEq, Nat.reduceAdd, Nat.reduceLeDiff, ne_eq, Nat.reduceLT, Int.reduceLT, Int.reduceLE, Int.reduceNeg]
    clear hg hl hv hu d5
    simp_all only [unW, eTree, eTreeC, BBT, ↓reduceIte, reduceCtorEq, bne_self_eq_false]
theorem k38 (nodes : List Node) (next cookie dir : Int) (s : Bytes) (hz : Sz 1000 ⟨nodes, next, cookie⟩) (hr : Srt ⟨nodes, next, cookie⟩) (hs : s.length ≤ 100000) (ha : Ascii s) (M : AMem) : callOp (acall tab) 38 [.agg [eNodes nodes, .int .i64 next, .int .i64 cookie], .int .i64 dir, .str s] M =
    some (.tuple [eTree (unW ⟨nodes, next, cookie⟩ dir s).1, .int .i64 (unW ⟨nodes, next, cookie⟩ dir s).2.1, .int .i64 (unW ⟨nodes, next, cookie⟩ dir s).2.2], M) := callOp0 (c38 ⟨nodes, next, cookie⟩ dir s hz hr hs ha) rfl rfl rfl rfl rfl M
end Go.Proofs.YtnapockikkbkcaaGreat
namespace Go.Proofs.YtnapockikkbkcaaGreat
open Go Go.Abs
section
attribute [local irreducible] exK opsK opK gK forkK kr acall callOp owhen obind
def idxI (x : Int) : List Int → Nat → Int
  | [], _ => -1
  | n :: r, i => if (x == n) = true then i else idxI x r (i + 1)
theorem idxI_ge (x : Int) : ∀ (l : List Int) (i : Nat), decide ((0 : Int) ≤ idxI x l i) = l.contains x
  | [], i => by simp [idxI]
  | n :: r, i => by
    unfold idxI
    by_cases h : x = n
    · simp [h]
    · simp only [beq_iff_eq, h, if_false, idxI_ge x r (i + 1), List.contains_cons]
      simp [h]
theorem loop80 {l0 : List Int} {x : Int} (hl : l0.length ≤ 100000) {k : List K} {R : Int → Option (AVal × AMem)}
    (hx : ∀ e, kr (acall tab) [.tmp 4] 0 k ⟨.exit 0, e, []⟩ = R (-1)) (hr : ∀ (i : Nat), kr (acall tab) [.tmp 4] 0 k ⟨.ret, [(4, .int .i64 i)], []⟩ = R i) :
    ∀ (l pre : List Int), l0 = pre ++ l → exK (acall tab) [.tmp 4] 0 k (.loop [0, 1, 7, 8] lb80_0) [(0, .slice .sh (l0.map eInt)), (1, .int .i64 x), (7, .int .i64 l0.length), (8, .int .i64 pre.length)] [] = R (idxI x l pre.length) := by
  intro l
  induction l with
  | nil =>
    intro pre h
    rw [exK_loop]
    simp only [E80, lt_end h, EVT, EVD, ↓reduceIte, Nat.reduceEqDiff, reduceCtorEq, Nat.reduceAdd, Nat.reduceLeDiff, ne_eq, Nat.reduceLT, Int.reduceLT, Int.reduceLE, Int.reduceNeg]
    exact hx _
  | cons n r ih =>
    intro pre h
    rw [exK_loop]
    have hlen : pre.length + 1 ≤ 100000 := by rw [h] at hl; simp at hl; omega
    have hw : IntKind.i64.wrap ((pre.length : Int) + 1) = ((pre ++ [n]).length : Int) := by rw [wrap_small (by omega) (by omega)]; exact step_len
    have hi := ih (pre ++ [n]) (by rw [h]; simp)
    simp only [List.length_append, List.length_cons, List.length_nil, Nat.zero_add] at hi
    rw [idxI]
    simp only [E80, lt_mid h, at_mid h, EVT, EVD, ↓reduceIte, Nat.reduceEqDiff, reduceCtorEq, Nat.reduceAdd, Nat.reduceLeDiff, ne_eq, Nat.reduceLT, Int.reduceLT, Int.reduceLE, Int.reduceNeg]
    refine fork_split (fun hb => ?_) (fun hb => ?_)
    · simp only [E80, hb, EVT, EVD, ↓reduceIte, Nat.reduceEqDiff, reduceCtorEq, Nat.reduceAdd, Nat.reduceLeDiff, ne_eq, Nat.reduceLT, Int.reduceLT, Int.reduceLE, Int.reduceNeg]
      exact hr _
    · simp only [E80, hb, hw, Bool.false_eq_true, EVT, EVD, ↓reduceIte, Nat.reduceEqDiff, reduceCtorEq, Nat.reduceAdd, Nat.reduceLeDiff, ne_eq, Nat.reduceLT, Int.reduceLT, Int.reduceLE, Int.reduceNeg]
      exact hi
theorem c80 (l : List Int) (x : Int) (hl : l.length ≤ 100000) : acall tab 80 [.slice .sh (l.map eInt), .int .i64 x] [] = some (.int .i64 (idxI x l 0), []) := by
  refine acall_ex rfl rfl rfl ?_
  simp only [fn80, E80, EVT, EVD, ↓reduceIte, Nat.reduceEqDiff, reduceCtorEq, Nat.reduceAdd, Nat.reduceLeDiff, ne_eq, Nat.reduceLT, Int.reduceLT, Int.reduceLE, Int.reduceNeg]
  exact loop80 (R := fun z => some (.int .i64 z, [])) hl (fun e => by simp only [E80, EVT, EVD, ↓reduceIte, Nat.reduceEqDiff, reduceCtorEq, Nat.reduceAdd, Nat.reduceLeDiff, ne_eq, Nat.reduceLT, Int.reduceLT, Int.reduceLE, Int.reduceNeg]) (fun i => by simp only [E80, EVT, EVD, ↓reduceIte, Nat.reduceEqDiff, reduceCtorEq, Nat.reduceAdd, Nat.reduceLeDiff, ne_eq, Nat.reduceLT, Int.reduceLT, Int.reduceLE, Int.reduceNeg]) l [] rfl
theorem k80 (l : List Int) (x : Int) (hl : l.length ≤ 100000) (M : AMem) : callOp (acall tab) 80 [.slice .sh (l.map eInt), .int .i64 x] M = some (.int .i64 (idxI x l 0), M) := callOp0 (c80 l x hl) rfl rfl rfl rfl rfl M
theorem c45 (l : List Int) (x : Int) (hl : l.length ≤ 100000) : acall tab 45 [.slice .sh (l.map eInt), .int .i64 x] [] = some (.bool (l.contains x), []) := by
  refine acall_ex rfl rfl rfl ?_
  simp only [fn45, E45, k80, hl, idxI_ge, EVT, EVD, ↓reduceIte, Nat.reduceEqDiff, reduceCtorEq, Nat.reduceAdd, Nat.reduceLeDiff, ne_eq, Nat.reduceLT, Int.reduceLT, Int.reduceLE, Int.reduceNeg]
theorem k45 (l : List Int) (x : Int) (hl : l.length ≤ 100000) (M : AMem) : callOp (acall tab) 45 [.slice .sh (l.map eInt), .int .i64 x] M = some (.bool (l.contains x), M) := callOp0 (c45 l x hl) rfl rfl rfl rfl rfl M
def deepAt (nodes : List Node) (at' own ino : Int) (n : Node) : Bool :=
  n.kind == 2 && ((upsN nodes n.ino).contains ino && (decide ((12 : Int) < w64 (w64 (w64 (at' + (upsN nodes n.ino).length) - 1) - own)) || (w64 (w64 (w64 (at' + (upsN nodes n.ino).length) - 1) - own) == 12 && decide ((0 : Int) < n.ents.length))))
abbrev deepM (nodes : List Node) (next cookie at' own ino : Int) : AMem := [.cells [.ptr 4 0], .cells [.int .i64 at'], .cells [.int .i64 own], .cells [.int .i64 ino], .cells [eNodes nodes, .int .i64 next, .int .i64 cookie]]
theorem c83 (nodes : List Node) (next cookie at' own ino : Int) (n : Node) (h : Asc nodes) (hn : nodes.length ≤ 99999) :
    acall tab 83 [eNode n, .ptr 0 0, .ptr 1 0, .ptr 2 0, .ptr 3 0] (deepM nodes next cookie at' own ino) = some (.bool (deepAt nodes at' own ino n), deepM nodes next cookie at' own ino) := by
  refine acall_ex rfl rfl rfl ?_
  have hk := fun a b c d M => k44 nodes next cookie n.ino h (by omega) 4 (a :: b :: c :: d :: .cells [eNodes nodes, .int .i64 next, .int .i64 cookie] :: M) rfl
  have hl := upsN_len nodes n.ino
  have hc := fun M => k45 (upsN nodes n.ino) ino (by omega) M
  simp only [fn83, E83, deepM, eNode, eNodeC, EVT, EVD, ↓reduceIte, Nat.reduceEqDiff, reduceCtorEq, Nat.reduceAdd, Nat.reduceLeDiff, ne_eq, Nat.reduceLT, Int.reduceLT, Int.reduceLE, Int.reduceNeg]
  repeat' (first | (refine fork_split (fun hb => ?_) (fun hb => ?_) <;> simp only [hb, E83, hk, hc, EVT, EVD, ↓reduceIte, Nat.reduceEqDiff, reduceCtorEq, Nat.reduceAdd, Nat.reduceLeDiff, ne_eq, Nat.reduceLT, Int.reduceLT, Int.reduceLE, Int.reduceNeg]) | (refine guard_split (fun hb => ?_) (fun hb => ?_) <;> simp only [hb, E83, hk, hc, EVT, EVD, ↓reduceIte, Nat.reduceEqDiff, reduceCtorEq, Nat.reduceAdd, Nat.reduceLeDiff, ne_eq, Nat.reduceLT, Int.reduceLT, Int.reduceLE, Int.reduceNeg]) | (refine opK_pick (fun hb => ?_) (fun hb => ?_) <;> simp only [hb, E83, hk, hc, EVT, EVD, ↓reduceIte, Nat.reduceEqDiff, reduceCtorEq, Nat.reduceAdd, Nat.reduceLeDiff, ne_eq, Nat.reduceLT, Int.reduceLT, Int.reduceLE, Int.reduceNeg]))
  all_goals (clear hk hc; simp_all only [deepAt, w64, bne, Bool.not_eq_true', Bool.not_eq_false', BBT, ↓reduceIte, reduceCtorEq, bne_self_eq_false]; done)
end
end Go.Proofs.YtnapockikkbkcaaGreat
namespace Go.Proofs.YtnapockikkbkcaaGreat
open Go Go.Abs
theorem callF {C : CallF} {f : Nat} {args args' : List AVal} {M B : AMem} {ids : List Nat} {r r' : AVal} {B' M' : AMem} (h1 : args.all AVal.flat = true) (h2 : reach M (args.flatMap AVal.ids) = ids) (h3 : pickM M (idxN ids) ids = some B) (h4 : reach1 M ids = ids)
    (h5 : args.map (AVal.ren (idxN ids)) = args') (h : C f args' B = some (r, B')) (h6 : B'.length = B.length) (h7 : r.flatR = true) (h8 : B'.all ABox.flat = true) (h9 : r.renR (atN ids) = r') (h10 : wback ids M ids B' = M') : callOp C f args M = some (r', M') := by
  unfold callOp
  rw [if_pos h1, h2, h3]
  simp only [obind_some]
  rw [if_pos h4, h5, h]
  simp only [obind_some]
  rw [if_pos ⟨h6, h7, h8⟩, h9, h10]
theorem pick1 (nodes : List Node) (next cookie at' own ino : Int) : pickM (deepM nodes next cookie at' own ino) (idxN [0, 1, 2, 3, 4]) [0, 1, 2, 3, 4] = some (deepM nodes next cookie at' own ino) := rfl
theorem pick2 (nodes : List Node) (next cookie at' own ino : Int) : pickM [.cells [eNodes nodes, .int .i64 next, .int .i64 cookie], .cells [.ptr 0 0], .cells [.int .i64 ino], .cells [.int .i64 at'], .cells [.int .i64 own]] (idxN [1, 3, 4, 2, 0]) [1, 3, 4, 2, 0] = some (deepM nodes next cookie at' own ino) := rfl
section
attribute [local irreducible] exK opsK opK gK forkK kr acall callOp owhen obind
theorem k83 (nodes : List Node) (next cookie at' own ino : Int) (n : Node) (h : Asc nodes) (hn : nodes.length ≤ 99999) :
    callOp (acall tab) 83 [.agg (eNodeC n), .ptr 0 0, .ptr 1 0, .ptr 2 0, .ptr 3 0] (deepM nodes next cookie at' own ino) = some (.bool (deepAt nodes at' own ino n), deepM nodes next cookie at' own ino) :=
  callF (ids := [0, 1, 2, 3, 4]) rfl rfl (pick1 ..) rfl rfl (c83 nodes next cookie at' own ino n h hn) rfl rfl rfl rfl rfl
def idxD (p : Node → Bool) : List Node → Nat → Int
  | [], _ => -1
  | n :: r, i => if p n = true then i else idxD p r (i + 1)
theorem idxD_ge (p : Node → Bool) : ∀ (l : List Node) (i : Nat), decide ((0 : Int) ≤ idxD p l i) = l.any p
  | [], i => by simp [idxD]
  | n :: r, i => by
    unfold idxD
    cases h : p n with
    | true => simp [h]
    | false => simp only [Bool.false_eq_true, if_false, idxD_ge p r (i + 1), List.any_cons, h, Bool.false_or]
theorem loop113 {nodes : List Node} {next cookie at' own ino : Int} (h : Asc nodes) (hn : nodes.length ≤ 99999) {k : List K} {R : Int → Option (AVal × AMem)}
    (hx : ∀ e, kr (acall tab) [.tmp 4] 5 k ⟨.exit 0, e, deepM nodes next cookie at' own ino⟩ = R (-1)) (hr : ∀ (i : Nat), kr (acall tab) [.tmp 4] 5 k ⟨.ret, [(4, .int .i64 i)], deepM nodes next cookie at' own ino⟩ = R i) :
    ∀ (l pre : List Node), nodes = pre ++ l → exK (acall tab) [.tmp 4] 5 k (.loop [0, 1, 7, 8] lb113_0) [(0, eNodes nodes), (1, .func 83 [.ptr 0 0, .ptr 1 0, .ptr 2 0, .ptr 3 0]), (7, .int .i64 nodes.length), (8, .int .i64 pre.length)] (deepM nodes next cookie at' own ino) = R (idxD (deepAt nodes at' own ino) l pre.length) := by
  intro l
  induction l with
  | nil =>
    intro pre h
    rw [exK_loop]
    simp only [E113, lt_end h, EVT, EVD, ↓reduceIte, Nat.reduceEqDiff, reduceCtorEq, Nat.reduceAdd, Nat.reduceLeDiff, ne_eq, Nat.reduceLT, Int.reduceLT, Int.reduceLE, Int.reduceNeg]
    exact hx _
  | cons n r ih =>
    intro pre hp
    rw [exK_loop]
    have hlen : pre.length + 1 ≤ 100000 := by rw [hp] at hn; simp at hn; omega
    have hw : IntKind.i64.wrap ((pre.length : Int) + 1) = ((pre ++ [n]).length : Int) := by rw [wrap_small (by omega) (by omega)]; exact step_len
    have hi := ih (pre ++ [n]) (by rw [hp]; simp)
    have hk := k83 nodes next cookie at' own ino n h hn
    simp only [List.length_append, List.length_cons, List.length_nil, Nat.zero_add, deepM] at hi
    simp only [deepM] at hk
    rw [idxD]
    simp only [E113, deepM, lt_mid hp, at_mid hp, hk, tkN, shN, EVT, EVD, ↓reduceIte, Nat.reduceEqDiff, reduceCtorEq, Nat.reduceAdd, Nat.reduceLeDiff, ne_eq, Nat.reduceLT, Int.reduceLT, Int.reduceLE, Int.reduceNeg]
    refine fork_split (fun hb => ?_) (fun hb => ?_)
    · simp only [E113, hb, EVT, EVD, ↓reduceIte, Nat.reduceEqDiff, reduceCtorEq, Nat.reduceAdd, Nat.reduceLeDiff, ne_eq, Nat.reduceLT, Int.reduceLT, Int.reduceLE, Int.reduceNeg]
      exact hr _
    · simp only [E113, hb, hw, Bool.false_eq_true, EVT, EVD, ↓reduceIte, Nat.reduceEqDiff, reduceCtorEq, Nat.reduceAdd, Nat.reduceLeDiff, ne_eq, Nat.reduceLT, Int.reduceLT, Int.reduceLE, Int.reduceNeg]
      exact hi
theorem c113 (nodes : List Node) (next cookie at' own ino : Int) (h : Asc nodes) (hn : nodes.length ≤ 99999) : acall tab 113 [eNodes nodes, .func 83 [.ptr 0 0, .ptr 1 0, .ptr 2 0, .ptr 3 0]] (deepM nodes next cookie at' own ino) =
    some (.int .i64 (idxD (deepAt nodes at' own ino) nodes 0), deepM nodes next cookie at' own ino) := by
  refine acall_ex rfl rfl rfl ?_
  simp only [fn113, E113, EVT, EVD, ↓reduceIte, Nat.reduceEqDiff, reduceCtorEq, Nat.reduceAdd, Nat.reduceLeDiff, ne_eq, Nat.reduceLT, Int.reduceLT, Int.reduceLE, Int.reduceNeg]
  exact loop113 (R := fun z => some (.int .i64 z, deepM nodes next cookie at' own ino)) h hn (fun e => by simp only [E113, deepM, EVT, EVD, ↓reduceIte, Nat.reduceEqDiff, reduceCtorEq, Nat.reduceAdd, Nat.reduceLeDiff, ne_eq, Nat.reduceLT, Int.reduceLT, Int.reduceLE, Int.reduceNeg]) (fun i => by simp only [E113, deepM, EVT, EVD, ↓reduceIte, Nat.reduceEqDiff, reduceCtorEq, Nat.reduceAdd, Nat.reduceLeDiff, ne_eq, Nat.reduceLT, Int.reduceLT, Int.reduceLE, Int.reduceNeg]) nodes [] rfl
theorem k113 (nodes : List Node) (next cookie at' own ino : Int) (h : Asc nodes) (hn : nodes.length ≤ 99999) : callOp (acall tab) 113 [eNodes nodes, .func 83 [.ptr 0 0, .ptr 1 0, .ptr 2 0, .ptr 3 0]] (deepM nodes next cookie at' own ino) =
    some (.int .i64 (idxD (deepAt nodes at' own ino) nodes 0), deepM nodes next cookie at' own ino) :=
  callF (ids := [0, 1, 2, 3, 4]) rfl rfl (pick1 ..) rfl rfl (c113 nodes next cookie at' own ino h hn) rfl rfl rfl rfl rfl
theorem c82 (nodes : List Node) (next cookie at' own ino : Int) (h : Asc nodes) (hn : nodes.length ≤ 99999) : acall tab 82 [eNodes nodes, .func 83 [.ptr 0 0, .ptr 1 0, .ptr 2 0, .ptr 3 0]] (deepM nodes next cookie at' own ino) =
    some (.bool (nodes.any (deepAt nodes at' own ino)), deepM nodes next cookie at' own ino) := by
  refine acall_ex rfl rfl rfl ?_
  have hk := k113 nodes next cookie at' own ino h hn
  simp only [deepM] at hk
  simp only [fn82, E82, deepM, hk, idxD_ge, EVT, EVD, ↓reduceIte, Nat.reduceEqDiff, reduceCtorEq, Nat.reduceAdd, Nat.reduceLeDiff, ne_eq, Nat.reduceLT, Int.reduceLT, Int.reduceLE, Int.reduceNeg]
theorem k82 (nodes : List Node) (next cookie at' own ino : Int) (h : Asc nodes) (hn : nodes.length ≤ 99999) :
    callOp (acall tab) 82 [eNodes nodes, .func 83 [.ptr 1 0, .ptr 3 0, .ptr 4 0, .ptr 2 0]] [.cells [eNodes nodes, .int .i64 next, .int .i64 cookie], .cells [.ptr 0 0], .cells [.int .i64 ino], .cells [.int .i64 at'], .cells [.int .i64 own]] =
    some (.bool (nodes.any (deepAt nodes at' own ino)), [.cells [eNodes nodes, .int .i64 next, .int .i64 cookie], .cells [.ptr 0 0], .cells [.int .i64 ino], .cells [.int .i64 at'], .cells [.int .i64 own]]) :=
  callF (ids := [1, 3, 4, 2, 0]) rfl rfl (pick2 ..) rfl rfl (c82 nodes next cookie at' own ino h hn) rfl rfl rfl rfl rfl
def deepN (nodes : List Node) (ino at' : Int) : Bool := nodes.any (deepAt nodes at' (upDepth nodes ino) ino)
theorem c47 (nodes : List Node) (next cookie ino at' : Int) (h : Asc nodes) (hn : nodes.length ≤ 99999) : acall tab 47 [.ptr 0 0, .int .i64 ino, .int .i64 at'] [.cells [eNodes nodes, .int .i64 next, .int .i64 cookie]] =
    some (.bool (deepN nodes ino at'), [.cells [eNodes nodes, .int .i64 next, .int .i64 cookie]]) := by
  refine acall_ex rfl rfl rfl ?_
  have hk : ∀ M, callOp (acall tab) 81 [.ptr 0 0, .int .i64 ino] (.cells [eNodes nodes, .int .i64 next, .int .i64 cookie] :: M) = some (.int .i64 (upDepth nodes ino), .cells [eNodes nodes, .int .i64 next, .int .i64 cookie] :: M) := fun M => k81 nodes next cookie ino h (by omega) 0 (.cells [eNodes nodes, .int .i64 next, .int .i64 cookie] :: M) rfl
  have hd := k82 nodes next cookie at' (upDepth nodes ino) ino h hn
  unfold deepN
  simp only [fn47, E47, hk, hd, EVT, EVD, ↓reduceIte, Nat.reduceEqDiff, reduceCtorEq, Nat.reduceAdd, Nat.reduceLeDiff, ne_eq, Nat.reduceLT, Int.reduceLT, Int.reduceLE, Int.reduceNeg]
theorem k47 (nodes : List Node) (next cookie ino at' : Int) (h : Asc nodes) (hn : nodes.length ≤ 99999) (p : Nat) (M : AMem) (hM : nth M p = some (.cells [eNodes nodes, .int .i64 next, .int .i64 cookie])) :
    callOp (acall tab) 47 [.ptr p 0, .int .i64 ino, .int .i64 at'] M = some (.bool (deepN nodes ino at'), M) := by
  have := callOp1 hM (c47 nodes next cookie ino at' h hn) rfl rfl rfl rfl rfl rfl rfl rfl rfl rfl
  rwa [set_nth hM] at this
end
end Go.Proofs.YtnapockikkbkcaaGreat
namespace Go.Proofs.YtnapockikkbkcaaGreat
open Go Go.Abs
attribute [local irreducible] exK opsK opK gK forkK kr acall callOp owhen obind
theorem findE_dropE (l : List Ent) (s : Bytes) : findE (dropE l s) s = none := by
  unfold findE dropE
  rw [List.find?_eq_none]
  intro e he
  have := (List.mem_filter.1 he).2
  simpa using this
theorem findE_dropE_none {l : List Ent} {s r : Bytes} (h : findE l r = none) : findE (dropE l s) r = none := by
  unfold findE dropE at *
  rw [List.find?_eq_none] at *
  exact fun e he => h e (List.mem_filter.1 he).1
theorem find_leftN {nodes : List Node} (h : Asc nodes) {dir : Int} {s : Bytes} {d : Node} (hf : find nodes dir = some d) (i : Int) : find (leftN nodes dir s) i = if i = dir then some { d with ents := dropE d.ents s } else find nodes i := by
  have hd := (find_mem hf).2
  unfold leftN
  rw [hf]
  simp only [Option.getD_some]
  rw [find_withN h, show ({ d with ents := dropE d.ents s } : Node).ino = dir from hd]
theorem unnamedW_asc {nodes : List Node} (h : Asc nodes) (n : Node) : Asc (unnamedW nodes n) := by
  unfold unnamedW
  split
  · exact withoutN_asc h _
  · exact withN_asc h _
theorem find_unnamedW {nodes : List Node} (h : Asc nodes) (n : Node) {i : Int} (hi : i ≠ n.ino) : find (unnamedW nodes n) i = find nodes i := by
  unfold unnamedW
  split
  · rw [find_withoutN h, if_neg hi]
  · rw [find_withN h, if_neg hi]
theorem Sz.unnamedW {b : Nat} {t : Tree} (h : Sz b t) {n : Node} (h1 : n.ents.length ≤ b + 1) (h2 : n.data.length ≤ 100000) (next cookie : Int) : Sz (b + 1) ⟨unnamedW t.nodes n, next, cookie⟩ := by
  unfold Go.Proofs.YtnapockikkbkcaaGreat.unnamedW
  split
  · exact (h.without _ next cookie).up (by omega)
  · exact h.with (n := { n with links := w64 (n.links - 1) }) h1 h2 next cookie
def moveW (t : Tree) (dir : Int) (s : Bytes) (to : Int) (nm : Bytes) (ino : Int) (x y : Node) (there : Bool) : Tree :=
  enteredN ⟨if (x.kind == 2) = true then withN (if there = true then unnamedW (leftN (leftN t.nodes dir s) to nm) y else leftN t.nodes dir s) { x with up := to }
    else if there = true then unnamedW (leftN (leftN t.nodes dir s) to nm) y else leftN t.nodes dir s, t.next, t.cookie⟩ to nm ino
set_option maxHeartbeats 1000000 in
theorem tail17 (nodes : List Node) (next cookie dir : Int) (s : Bytes) (to : Int) (nm : Bytes) (ino : Int) (x y : Node) (there : Bool) (v5 v140 : AVal) (B0 Bd : ABox) (yr : List AVal) (hyr : there = true → AVal.int .i64 y.ino :: yr = eNodeC y) (hz : Sz 1000 ⟨nodes, next, cookie⟩) (hr : Srt ⟨nodes, next, cookie⟩) {dd dt : Node} (hdir : find nodes dir = some dd) (hto : find nodes to = some dt)
    (hth : there = false → findE dt.ents nm = none) (hx : (x.kind == 2) = true → x.ino ≠ to) (hy : there = true → y.ino ≠ to) (hx1 : x.ents.length ≤ 1000) (hx2 : x.data.length ≤ 100000) (hy1 : y.ents.length ≤ 1000) (hy2 : y.data.length ≤ 100000) :
    exK (acall tab) [.cellA 10 3, .tmp 11, .tmp 12] 0 [] q17_18 [(1, .int .i64 dir), (2, .str s), (3, .int .i64 to), (4, .str nm), (5, v5), (10, .ptr 1 0), (13, .int .i64 ino), (15, .ptr 2 0), (17, .ptr 4 0), (19, .ptr 5 0), (21, .bool there), (140, v140)]
      [B0, .cells zT, .cells [eNodes nodes, .int .i64 next, .int .i64 cookie], Bd, .cells (eNodeC x), .cells (.int .i64 y.ino :: yr)] = some (.tuple [eTree (moveW ⟨nodes, next, cookie⟩ dir s to nm ino x y there), .int .i64 y.ino, .int .i64 0], []) := by
  have hasc : Asc nodes := hr.asc
  have n1 := hz.left dir s next cookie
  have a1 : Asc (leftN nodes dir s) := (hr.left dir s next cookie).asc
  have e1 : AscE dd.ents := hr.ents dd (find_mem hdir).1
  have e2 : AscE dt.ents := hr.ents dt (find_mem hto).1
  have l1 : dd.ents.length ≤ 1000 := hz.ents dd (find_mem hdir).1
  have l2 : dt.ents.length ≤ 1000 := hz.ents dt (find_mem hto).1
  obtain ⟨d1, f1, g1, m1, q1⟩ : ∃ d1, find (leftN nodes dir s) to = some d1 ∧ AscE d1.ents ∧ d1.ents.length ≤ 1000 ∧ (findE dt.ents nm = none → findE d1.ents nm = none) := by
    rw [find_leftN hasc hdir]
    split
    · rename_i he
      subst he
      rw [hdir] at hto; injection hto with hto; subst hto
      exact ⟨_, rfl, dropE_asc e1 s, Nat.le_trans (dropE_len _ _) l1, findE_dropE_none⟩
    · exact ⟨dt, hto, e2, l2, id⟩
  have hv1 := fun a b M => k48 nodes next cookie dir s hasc (hz.small (by omega)).nodes hdir e1 (by omega) 2 (a :: b :: .cells [eNodes nodes, .int .i64 next, .int .i64 cookie] :: M) rfl
  have fin : ∀ (n3 : List Node) (d3 : Node), Asc n3 → Sz 1003 ⟨n3, next, cookie⟩ → find n3 to = some d3 → AscE d3.ents → d3.ents.length ≤ 1000 → findE d3.ents nm = none →
      (∀ a b M, callOp (acall tab) 51 [.ptr 2 0, .int .i64 to, .str nm, .int .i64 ino] (a :: b :: .cells [eNodes n3, .int .i64 next, .int .i64 cookie] :: M) = some (.tuple [], a :: b :: .cells (eTreeC (enteredN ⟨n3, next, cookie⟩ to nm ino)) :: M)) ∧
      ((x.kind == 2) = true → (∀ a b M, callOp (acall tab) 50 [.ptr 2 0, .agg [.int .i64 x.ino, .int .i64 x.kind, .int .i64 x.links, eData x.data, eEnts x.ents, .int .i64 to]] (a :: b :: .cells [eNodes n3, .int .i64 next, .int .i64 cookie] :: M) =
          some (.tuple [], a :: b :: .cells [eNodes (withN n3 { x with up := to }), .int .i64 next, .int .i64 cookie] :: M)) ∧
        ∀ a b M, callOp (acall tab) 51 [.ptr 2 0, .int .i64 to, .str nm, .int .i64 ino] (a :: b :: .cells [eNodes (withN n3 { x with up := to }), .int .i64 next, .int .i64 cookie] :: M) = some (.tuple [], a :: b :: .cells (eTreeC (enteredN ⟨withN n3 { x with up := to }, next, cookie⟩ to nm ino)) :: M)) := by
    intro n3 d3 b1 b2 b3 b4 b5 b6
    have h0 : n3 ≠ [] := by rintro rfl; simp [find] at b3
    refine ⟨fun a b M => k51 n3 next cookie to nm ino b1 (b2.small (by omega)).nodes b3 b4 (by omega) b6 2 (a :: b :: .cells [eNodes n3, .int .i64 next, .int .i64 cookie] :: M) rfl, fun hk => ⟨fun a b M => k50 n3 next cookie x.ino x.kind x.links x.data x.ents to b1 h0 (b2.small (by omega)).nodes 2 (a :: b :: .cells [eNodes n3, .int .i64 next, .int .i64 cookie] :: M) rfl, fun a b M => ?_⟩⟩
    have b7 : Sz 1004 ⟨withN n3 { x with up := to }, next, cookie⟩ := b2.with (n := { x with up := to }) (Nat.le_trans hx1 (by omega)) hx2 next cookie
    have b8 : find (withN n3 { x with up := to }) to = some d3 := by rw [find_withN b1, if_neg (fun he => hx hk he.symm)]; exact b3
    exact k51 (withN n3 { x with up := to }) next cookie to nm ino (withN_asc b1 _) (b7.small (by omega)).nodes b8 b4 (by omega) b6 2 (a :: b :: .cells [eNodes (withN n3 { x with up := to }), .int .i64 next, .int .i64 cookie] :: M) rfl
  cases hth' : there with
  | false =>
    obtain ⟨w1, w2⟩ := fin (leftN nodes dir s) d1 a1 (n1.up (by omega)) f1 g1 m1 (q1 (hth hth'))
    cases hkx : (x.kind == 2) with
    | false =>
      simp only [E17, hv1, zT, eNodeC, hkx, w1, eTreeC, EVT, EVD, ↓reduceIte, Nat.reduceEqDiff, reduceCtorEq, Nat.reduceAdd, Nat.reduceLeDiff, ne_eq, Nat.reduceLT, Int.reduceLT, Int.reduceLE, Int.reduceNeg]
      simp only [moveW, hkx, eTree, eTreeC, BBT, ↓reduceIte, reduceCtorEq, bne_self_eq_false]
    | true =>
      obtain ⟨w3, w4⟩ := w2 hkx
      simp only [E17, hv1, zT, eNodeC, hkx, w3, w4, eTreeC, EVT, EVD, ↓reduceIte, Nat.reduceEqDiff, reduceCtorEq, Nat.reduceAdd, Nat.reduceLeDiff, ne_eq, Nat.reduceLT, Int.reduceLT, Int.reduceLE, Int.reduceNeg]
      simp only [moveW, hkx, eTree, eTreeC, BBT, ↓reduceIte, reduceCtorEq, bne_self_eq_false]
  | true =>
    have hyr' : yr = [.int .i64 y.kind, .int .i64 y.links, eData y.data, eEnts y.ents, .int .i64 y.up] := by have := hyr hth'; simpa [eNodeC] using this
    subst hyr'
    have a2 : Asc (leftN (leftN nodes dir s) to nm) := (Srt.left (t := ⟨leftN nodes dir s, next, cookie⟩) (hr.left dir s next cookie) to nm next cookie).asc
    have n2 := n1.left to nm next cookie
    have f2 : find (leftN (leftN nodes dir s) to nm) to = some { d1 with ents := dropE d1.ents nm } := by rw [find_leftN a1 f1, if_pos rfl]
    have hv2 := fun a b M => k48 (leftN nodes dir s) next cookie to nm a1 (n1.small (by omega)).nodes f1 g1 (by omega) 2 (a :: b :: .cells [eNodes (leftN nodes dir s), .int .i64 next, .int .i64 cookie] :: M) rfl
    have hu := fun a b M => k49 (leftN (leftN nodes dir s) to nm) next cookie y.ino y.kind y.links y.data y.ents y.up a2 (leftN_ne a1 f1) (n2.small (by omega)).nodes 2 (a :: b :: .cells [eNodes (leftN (leftN nodes dir s) to nm), .int .i64 next, .int .i64 cookie] :: M) rfl
    have f3 : find (unnamedW (leftN (leftN nodes dir s) to nm) y) to = some { d1 with ents := dropE d1.ents nm } := by rw [find_unnamedW a2 y (fun he => hy hth' he.symm)]; exact f2
    obtain ⟨w1, w2⟩ := fin (unnamedW (leftN (leftN nodes dir s) to nm) y) { d1 with ents := dropE d1.ents nm } (unnamedW_asc a2 y) (n2.unnamedW (Nat.le_trans hy1 (by omega)) hy2 next cookie) f3 (dropE_asc g1 nm) (Nat.le_trans (dropE_len _ _) m1) (findE_dropE _ _)
    cases hkx : (x.kind == 2) with
    | false =>
      simp only [E17, hv1, hv2, hu, zT, eNodeC, hkx, w1, eTreeC, EVT, EVD, ↓reduceIte, Nat.reduceEqDiff, reduceCtorEq, Nat.reduceAdd, Nat.reduceLeDiff, ne_eq, Nat.reduceLT, Int.reduceLT, Int.reduceLE, Int.reduceNeg]
      simp only [moveW, hkx, eTree, eTreeC, BBT, ↓reduceIte, reduceCtorEq, bne_self_eq_false]
    | true =>
      obtain ⟨w3, w4⟩ := w2 hkx
      simp only [E17, hv1, hv2, hu, zT, eNodeC, hkx, w3, w4, eTreeC, EVT, EVD, ↓reduceIte, Nat.reduceEqDiff, reduceCtorEq, Nat.reduceAdd, Nat.reduceLeDiff, ne_eq, Nat.reduceLT, Int.reduceLT, Int.reduceLE, Int.reduceNeg]
      simp only [moveW, hkx, eTree, eTreeC, BBT, ↓reduceIte, reduceCtorEq, bne_self_eq_false]
end Go.Proofs.YtnapockikkbkcaaGreat
namespace Go.Proofs.YtnapockikkbkcaaGreat
open Go Go.Abs
attribute [local irreducible] exK opsK opK gK forkK kr acall callOp owhen obind
set_option linter.defProp false in
def E17a := And.intro (exK_head q17_0.eq_1) (And.intro (exK_head q17_1.eq_1) (And.intro (exK_head q17_2.eq_1) (And.intro (exK_head q17_3.eq_1) (And.intro (exK_head q17_4.eq_1) (And.intro (exK_head q17_5.eq_1) (And.intro (exK_head q17_6.eq_1) (And.intro (exK_head q17_7.eq_1) (And.intro (exK_head q17_8.eq_1) (And.intro (exK_head q17_9.eq_1) (And.intro (exK_head q17_10.eq_1) (And.intro (exK_head q17_11.eq_1) (And.intro (exK_head q17_12.eq_1) (And.intro (exK_head q17_13.eq_1) (And.intro (exK_head q17_14.eq_1) (And.intro (exK_head q17_15.eq_1) (And.intro (exK_head q17_16.eq_1) (And.intro (exK_head q17_17.eq_1) (And.intro (exK_head q17_19.eq_1) (And.intro (exK_head q17_20.eq_1) (And.intro (exK_head q17_21.eq_1) (And.intro (exK_head q17_22.eq_1) (And.intro (exK_head q17_23.eq_1) (And.intro (exK_head q17_24.eq_1) (And.intro (exK_head q17_25.eq_1) (And.intro (exK_head q17_26.eq_1) (And.intro (exK_head q17_27.eq_1) (And.intro (exK_head q17_28.eq_1) (And.intro (exK_head q17_29.eq_1) (And.intro (exK_head q17_30.eq_1) (And.intro (exK_head q17_31.eq_1) (And.intro (exK_head q17_32.eq_1) (And.intro (exK_head q17_33.eq_1) (exK_head q17_34.eq_1)))))))))))))))))))))))))))))))))
def nodeUnder (nodes : List Node) (l : List Ent) (s : Bytes) : Node := match findE l s with
  | none => Node.zero
  | some e => nodeN nodes e.ino
def manyW (t : Tree) (dir to : Int) (ents : List Ent) (there : Bool) (kind ino : Int) : Bool :=
  ((!there && to != dir) && decide ((64 : Int) ≤ ents.length)) || (decide ((12 : Int) < (upsN t.nodes to).length) || ((kind == 2 && deepN t.nodes ino (upsN t.nodes to).length) || decide ((1099511627776 : Int) ≤ t.cookie)))
def mvW (t : Tree) (dir : Int) (s : Bytes) (to : Int) (nm : Bytes) : Tree × Int × Int :=
  if ((lookN t.nodes dir s).2 != 0) = true then (t, 0, (lookN t.nodes dir s).2) else
  if ((dirN t.nodes to).2 != 0) = true then (t, 0, (dirN t.nodes to).2) else
  if (!nameOk nm) = true then (t, 0, 60) else
  if ((nodeUnder t.nodes (dirN t.nodes to).1.ents nm).ino == (lookN t.nodes dir s).1) = true then (t, 0, 0) else
  if ((nodeN t.nodes (lookN t.nodes dir s).1).kind == 2 && (upsN t.nodes to).contains (lookN t.nodes dir s).1) = true then (t, 0, 75) else
  if ((findE (dirN t.nodes to).1.ents nm).isSome && ontoN (nodeN t.nodes (lookN t.nodes dir s).1) (nodeUnder t.nodes (dirN t.nodes to).1.ents nm) != 0) = true then (t, 0, ontoN (nodeN t.nodes (lookN t.nodes dir s).1) (nodeUnder t.nodes (dirN t.nodes to).1.ents nm)) else
  if manyW t dir to (dirN t.nodes to).1.ents (findE (dirN t.nodes to).1.ents nm).isSome (nodeN t.nodes (lookN t.nodes dir s).1).kind (lookN t.nodes dir s).1 = true then (t, 0, 76) else
  (moveW t dir s to nm (lookN t.nodes dir s).1 (nodeN t.nodes (lookN t.nodes dir s).1) (nodeUnder t.nodes (dirN t.nodes to).1.ents nm) (findE (dirN t.nodes to).1.ents nm).isSome, (nodeUnder t.nodes (dirN t.nodes to).1.ents nm).ino, 0)
theorem k46 (a b c : Int) (d : Bytes) (e : List Ent) (u : Int) (a' b' c' : Int) (d' : Bytes) (e' : List Ent) (u' : Int) (M : AMem) : callOp (acall tab) 46 [.agg [.int .i64 a, .int .i64 b, .int .i64 c, eData d, eEnts e, .int .i64 u], .agg [.int .i64 a', .int .i64 b', .int .i64 c', eData d', eEnts e', .int .i64 u']] M = some (.int .i64 (ontoN ⟨a, b, c, d, e, u⟩ ⟨a', b', c', d', e', u'⟩), M) :=
  callOp0 (c46 ⟨a, b, c, d, e, u⟩ ⟨a', b', c', d', e', u'⟩) rfl rfl rfl rfl rfl M
theorem ups_self (nodes : List Node) (to : Int) : (upsN nodes to).contains to = true := by
  have key : ∀ (m : Nat) (ino : Int) (out : List Int), out.contains to = true → (upsGo nodes m ino out).contains to = true := by
    intro m
    induction m with
    | zero => intro ino out h; exact h
    | succ m ih =>
      intro ino out h
      rw [upsGo]
      split
      · split
        · exact h
        · exact ih _ _ (by simp at h ⊢; exact .inl h)
      · exact h
  exact key _ _ _ (by simp)
theorem node_ino {nodes : List Node} {i : Int} (h : (nodeN nodes i).kind = 2) : (nodeN nodes i).ino = i := by
  cases hf : find nodes i with
  | none => simp [nodeN, hf, Node.zero] at h
  | some n => simp [nodeN, hf]; exact (find_mem hf).2
set_option maxHeartbeats 4000000 in
theorem c17 (t : Tree) (dir : Int) (s : Bytes) (to : Int) (nm : Bytes) (hz : Sz 1000 t) (hr : Srt t) (hs : s.length ≤ 100000) (ha : Ascii s) (hs' : nm.length ≤ 100000) (ha' : Ascii nm)
    (hun : ∀ e, findE (dirN t.nodes to).1.ents nm = some e → (nodeN t.nodes e.ino).ino ≠ to) :
    acall tab 17 [eTree t, .int .i64 dir, .str s, .int .i64 to, .str nm] [] = some (.tuple [eTree (mvW t dir s to nm).1, .int .i64 (mvW t dir s to nm).2.1, .int .i64 (mvW t dir s to nm).2.2], []) := by
  obtain ⟨nodes, next, cookie⟩ := t
  have ht : Small ⟨nodes, next, cookie⟩ := hz.small (by omega)
  have hn : nodes.length ≤ 100000 := ht.nodes
  have hasc : Asc nodes := hr.asc
  have hl := fun M => k15 nodes next cookie dir s ht hr hs ha M
  have hg := fun i b c M => k43 nodes next cookie i hasc hn 2 (b :: c :: .cells [eNodes nodes, .int .i64 next, .int .i64 cookie] :: M) rfl
  have hd := fun b c M => k40 nodes next cookie to hasc hn 2 (b :: c :: .cells [eNodes nodes, .int .i64 next, .int .i64 cookie] :: M) rfl
  have hup := fun b c M => k44 nodes next cookie to hasc hn 2 (b :: c :: .cells [eNodes nodes, .int .i64 next, .int .i64 cookie] :: M) rfl
  have hul := upsN_len nodes to
  have hn1 : nodes.length ≤ 1000 := hz.nodes
  have hc := fun x M => k45 (upsN nodes to) x (by omega) M
  have hdp := fun i a b c M => k47 nodes next cookie i a hasc (by omega) 2 (b :: c :: .cells [eNodes nodes, .int .i64 next, .int .i64 cookie] :: M) rfl
  have hE : AscE (dirN nodes to).1.ents := hr.dir to
  have hde : (dirN nodes to).1.ents.length ≤ 100000 := dirN_ents ht to
  have hen := fun a b c d u M => k42 a b c d (dirN nodes to).1.ents u nm _ (lowE_of hE nm) hde M
  refine acall_ex rfl rfl rfl ?_
  simp only [fn17, E17a, eTree, eTreeC, hl, EVT, EVD, ↓reduceIte, Nat.reduceEqDiff, reduceCtorEq, Nat.reduceAdd, Nat.reduceLeDiff, ne_eq, Nat.reduceLT, Int.reduceLT, Int.reduceLE, Int.reduceNeg]
  refine fork_split (fun hb0 => ?_) (fun hb0 => ?_)
  · simp only [E17a, hb0, EVT, EVD, ↓reduceIte, Nat.reduceEqDiff, reduceCtorEq, Nat.reduceAdd, Nat.reduceLeDiff, ne_eq, Nat.reduceLT, Int.reduceLT, Int.reduceLE, Int.reduceNeg]
    clear hl hg hd hup hc hdp hen hun
    simp_all only [mvW, eTree, eTreeC, BBT, ↓reduceIte, reduceCtorEq, bne_self_eq_false]
  simp only [E17a, hb0, hd, eNode, eNodeC, EVT, EVD, ↓reduceIte, Nat.reduceEqDiff, reduceCtorEq, Nat.reduceAdd, Nat.reduceLeDiff, ne_eq, Nat.reduceLT, Int.reduceLT, Int.reduceLE, Int.reduceNeg]
  refine fork_split (fun hb1 => ?_) (fun hb1 => ?_)
  · simp only [E17a, hb1, EVT, EVD, ↓reduceIte, Nat.reduceEqDiff, reduceCtorEq, Nat.reduceAdd, Nat.reduceLeDiff, ne_eq, Nat.reduceLT, Int.reduceLT, Int.reduceLE, Int.reduceNeg]
    clear hl hg hd hup hc hdp hen hun
    simp_all only [mvW, eTree, eTreeC, BBT, ↓reduceIte, reduceCtorEq, bne_self_eq_false]
  simp only [E17a, hb1, k41, hs', ha', EVT, EVD, ↓reduceIte, Nat.reduceEqDiff, reduceCtorEq, Nat.reduceAdd, Nat.reduceLeDiff, ne_eq, Nat.reduceLT, Int.reduceLT, Int.reduceLE, Int.reduceNeg]
  refine fork_split (fun hb2 => ?_) (fun hb2 => ?_)
  · simp only [E17a, hb2, EVT, EVD, ↓reduceIte, Nat.reduceEqDiff, reduceCtorEq, Nat.reduceAdd, Nat.reduceLeDiff, ne_eq, Nat.reduceLT, Int.reduceLT, Int.reduceLE, Int.reduceNeg]
    clear hl hg hd hup hc hdp hen hun
    simp_all only [mvW, eTree, eTreeC, BBT, ↓reduceIte, reduceCtorEq, bne_self_eq_false]
  simp only [E17a, hb2, hg, hen, eNode, eNodeC, EVT, EVD, ↓reduceIte, Nat.reduceEqDiff, reduceCtorEq, Nat.reduceAdd, Nat.reduceLeDiff, ne_eq, Nat.reduceLT, Int.reduceLT, Int.reduceLE, Int.reduceNeg]
  obtain ⟨dd, de, e1, e2, e3, e4, e5⟩ := look_ok hb0
  obtain ⟨dt, g1, g2, g3⟩ := dir_ok (show (dirN nodes to).2 = 0 by simpa using hb1)
  have hx0 := hz.find (lookN nodes dir s).1
  have tail := fun there y yr hyr hth hy hy1 hy2 v5 v140 B0 Bd hxx => tail17 nodes next cookie dir s to nm (lookN nodes dir s).1 (nodeN nodes (lookN nodes dir s).1) y there v5 v140 B0 Bd yr hyr hz hr e1 g1 hth hxx hy hx0.1 hx0.2 hy1 hy2
  have hxne : ((nodeN nodes (lookN nodes dir s).1).kind == 2) = true → (upsN nodes to).contains (lookN nodes dir s).1 = false → (nodeN nodes (lookN nodes dir s).1).ino ≠ to := fun h1 h2 h3 => by
    rw [node_ino (by simpa using h1)] at h3
    rw [h3, ups_self] at h2; cases h2
  have hdte : dt.ents = (dirN nodes to).1.ents := by rw [g3]
  rcases at_findE hE nm with ⟨h1, o, h2, h3, h4⟩ | ⟨h1, h2⟩
  · have hnu : nodeUnder nodes (dirN nodes to).1.ents nm = nodeN nodes o.ino := by simp [nodeUnder, h3]
    have hy0 := hz.find o.ino
    have tl := tail true (nodeN nodes o.ino) _ (fun _ => rfl) (by simp) (fun _ => hun o h3) hy0.1 hy0.2
    simp only [eNodeC, zT] at tl
    simp only [E17a, h1, h2, hg, eNode, eNodeC, eEntC, EVT, EVD, ↓reduceIte, Nat.reduceEqDiff, reduceCtorEq, Nat.reduceAdd, Nat.reduceLeDiff, ne_eq, Nat.reduceLT, Int.reduceLT, Int.reduceLE, Int.reduceNeg]
    repeat' (first | (refine fork_split (fun hb => ?_) (fun hb => ?_) <;> simp only [hb, E17a, hup, hc, hdp, k46, EVT, EVD, ↓reduceIte, Nat.reduceEqDiff, reduceCtorEq, Nat.reduceAdd, Nat.reduceLeDiff, ne_eq, Nat.reduceLT, Int.reduceLT, Int.reduceLE, Int.reduceNeg]) | (refine guard_split (fun hb => ?_) (fun hb => ?_) <;> simp only [hb, E17a, hup, hc, hdp, k46, EVT, EVD, ↓reduceIte, Nat.reduceEqDiff, reduceCtorEq, Nat.reduceAdd, Nat.reduceLeDiff, ne_eq, Nat.reduceLT, Int.reduceLT, Int.reduceLE, Int.reduceNeg]) | (refine opK_pick (fun hb => ?_) (fun hb => ?_) <;> simp only [hb, E17a, hup, hc, hdp, k46, EVT, EVD, ↓reduceIte, Nat.reduceEqDiff, reduceCtorEq, Nat.reduceAdd, Nat.reduceLeDiff, ne_eq, Nat.reduceLT, Int.reduceLT, Int.reduceLE, Int.reduceNeg]))
    all_goals try (clear hl hg hd hup hc hdp hen hun tail tl hxne e5 g3; simp_all only [mvW, manyW, eTree, eTreeC, Option.isSome_some, BBT, ↓reduceIte, reduceCtorEq, bne_self_eq_false]; done)
    all_goals
      refine (tl _ _ _ _ (fun hk => by first | exact hxne hk (by assumption) | (exfalso; simp_all; done))).trans ?_
      have hmv : mvW ⟨nodes, next, cookie⟩ dir s to nm = (moveW ⟨nodes, next, cookie⟩ dir s to nm (lookN nodes dir s).1 (nodeN nodes (lookN nodes dir s).1) (nodeN nodes o.ino) true, (nodeN nodes o.ino).ino, 0) := by
        clear hl hg hd hup hc hdp hen hun tail tl hxne e5 g3
        simp_all only [mvW, manyW, Option.isSome_some, BBT, ↓reduceIte, reduceCtorEq, bne_self_eq_false]
      rw [hmv]
      rfl
  · have hnu : nodeUnder nodes (dirN nodes to).1.ents nm = Node.zero := by simp [nodeUnder, h2]
    have tl := tail false Node.zero [.int .i64 0, .int .i64 0, .slice .c0 [], .slice .c0 [], .int .i64 0] (by simp) (fun _ => by rw [hdte]; exact h2) (by simp) (by simp [Node.zero]) (by simp [Node.zero])
    have hz0 : Node.zero.ino = 0 := rfl
    simp only [eNodeC, zT, hz0] at tl
    simp only [E17a, h1, EVT, EVD, ↓reduceIte, Nat.reduceEqDiff, reduceCtorEq, Nat.reduceAdd, Nat.reduceLeDiff, ne_eq, Nat.reduceLT, Int.reduceLT, Int.reduceLE, Int.reduceNeg]
    repeat' (first | (refine fork_split (fun hb => ?_) (fun hb => ?_) <;> simp only [hb, E17a, hup, hc, hdp, k46, EVT, EVD, ↓reduceIte, Nat.reduceEqDiff, reduceCtorEq, Nat.reduceAdd, Nat.reduceLeDiff, ne_eq, Nat.reduceLT, Int.reduceLT, Int.reduceLE, Int.reduceNeg]) | (refine guard_split (fun hb => ?_) (fun hb => ?_) <;> simp only [hb, E17a, hup, hc, hdp, k46, EVT, EVD, ↓reduceIte, Nat.reduceEqDiff, reduceCtorEq, Nat.reduceAdd, Nat.reduceLeDiff, ne_eq, Nat.reduceLT, Int.reduceLT, Int.reduceLE, Int.reduceNeg]) | (refine opK_pick (fun hb => ?_) (fun hb => ?_) <;> simp only [hb, E17a, hup, hc, hdp, k46, EVT, EVD, ↓reduceIte, Nat.reduceEqDiff, reduceCtorEq, Nat.reduceAdd, Nat.reduceLeDiff, ne_eq, Nat.reduceLT, Int.reduceLT, Int.reduceLE, Int.reduceNeg]))
    all_goals try (clear hl hg hd hup hc hdp hen hun tail tl hxne e5 g3; simp_all only [mvW, manyW, eTree, eTreeC, Option.isSome_none, BBT, ↓reduceIte, reduceCtorEq, bne_self_eq_false]; done)
    all_goals
      refine (tl _ _ _ _ (fun hk => by first | exact hxne hk (by assumption) | (exfalso; simp_all; done))).trans ?_
      have hmv : mvW ⟨nodes, next, cookie⟩ dir s to nm = (moveW ⟨nodes, next, cookie⟩ dir s to nm (lookN nodes dir s).1 (nodeN nodes (lookN nodes dir s).1) Node.zero false, 0, 0) := by
        clear hl hg hd hup hc hdp hen hun tail tl hxne e5 g3
        simp_all only [mvW, manyW, Option.isSome_none, BBT, ↓reduceIte, reduceCtorEq, bne_self_eq_false]
      rw [hmv]
      rfl
end Go.Proofs.YtnapockikkbkcaaGreat
namespace Go.Proofs.YtnapockikkbkcaaGreat
open Go Go.Abs
def cntE (l : List Ent) (i : Int) : Nat := l.countP fun e => e.ino == i
def cnt (ns : List Node) (i : Int) : Nat := (ns.map fun n => cntE n.ents i).sum
theorem cntE_nil (i : Int) : cntE [] i = 0 := rfl
theorem cntE_app (a b : List Ent) (i : Int) : cntE (a ++ b) i = cntE a i + cntE b i := List.countP_append
theorem cntE_cons (e : Ent) (l : List Ent) (i : Int) : cntE (e :: l) i = cntE l i + (if e.ino = i then 1 else 0) := by simp [cntE, List.countP_cons]
theorem cnt_app (a b : List Node) (i : Int) : cnt (a ++ b) i = cnt a i + cnt b i := by simp [cnt]
theorem cnt_cons (n : Node) (l : List Node) (i : Int) : cnt (n :: l) i = cntE n.ents i + cnt l i := by simp [cnt]
theorem cnt_withN {ns : List Node} (h : Asc ns) (n : Node) (i : Int) : cnt (withN ns n) i + cntE (nodeN ns n.ino).ents i = cnt ns i + cntE n.ents i := by
  rcases at_find h n.ino with ⟨_, o, h2, h3, h4⟩ | ⟨_, h2⟩
  · rw [withN_set h h2 h4]
    obtain ⟨s1, s2⟩ := set_split (n := n) h2
    have e1 : cnt ns i = cnt (ns.take (lowB ns n.ino)) i + (cntE o.ents i + cnt (ns.drop (lowB ns n.ino + 1)) i) := by
      rw [← cnt_cons, ← cnt_app, ← s1]
    rw [s2, cnt_app, cnt_cons, e1]
    simp only [nodeN, h3, Option.getD_some]
    omega
  · rw [withN_ins h h2]
    have e1 : cnt ns i = cnt (ns.take (lowB ns n.ino)) i + cnt (ns.drop (lowB ns n.ino)) i := by
      rw [← cnt_app, List.take_append_drop]
    rw [cnt_app, cnt_cons, e1]
    simp only [nodeN, h2, Option.getD_none, Node.zero, cntE_nil]
    omega
theorem cnt_withoutN {ns : List Node} (h : Asc ns) (k i : Int) : cnt (withoutN ns k) i + cntE (nodeN ns k).ents i = cnt ns i := by
  rcases at_find h k with ⟨_, o, h2, h3, h4⟩ | ⟨_, h2⟩
  · rw [withoutN_del h h2 h4]
    obtain ⟨s1, _⟩ := set_split (n := o) h2
    have e1 : cnt ns i = cnt (ns.take (lowB ns k)) i + (cntE o.ents i + cnt (ns.drop (lowB ns k + 1)) i) := by
      rw [← cnt_cons, ← cnt_app, ← s1]
    rw [cnt_app, e1]
    simp only [nodeN, h3, Option.getD_some]
    omega
  · rw [withoutN_none h2]
    simp only [nodeN, h2, Option.getD_none, Node.zero, cntE_nil]
    omega
theorem cntE_pos {l : List Ent} {i : Int} : 0 < cntE l i ↔ ∃ e, e ∈ l ∧ e.ino = i := by simp [cntE, List.countP_pos_iff]
theorem cnt_pos {i : Int} : ∀ {ns : List Node}, 0 < cnt ns i ↔ ∃ n e, n ∈ ns ∧ e ∈ n.ents ∧ e.ino = i
  | [] => by simp [cnt]
  | n :: ns => by
    rw [cnt_cons]
    constructor
    · intro h
      rcases Nat.eq_zero_or_pos (cntE n.ents i) with h0 | h0
      · obtain ⟨m, e, h1, h2, h3⟩ := (cnt_pos (i := i) (ns := ns)).1 (by omega)
        exact ⟨m, e, List.mem_cons_of_mem _ h1, h2, h3⟩
      · obtain ⟨e, h1, h2⟩ := cntE_pos.1 h0
        exact ⟨n, e, List.mem_cons_self, h1, h2⟩
    · rintro ⟨m, e, h1, h2, h3⟩
      rcases List.mem_cons.1 h1 with rfl | h1
      · have := cntE_pos.2 ⟨e, h2, h3⟩; omega
      · have := (cnt_pos (i := i) (ns := ns)).2 ⟨m, e, h1, h2, h3⟩; omega
theorem mem_insE {l : List Ent} (h : AscE l) {e : Ent} (hf : findE l e.name = none) {x : Ent} : x ∈ insE l e ↔ x = e ∨ x ∈ l := by
  rw [insE_ins h hf]
  have : x ∈ l ↔ x ∈ l.take (lowE l e.name) ∨ x ∈ l.drop (lowE l e.name) := by rw [← List.mem_append, List.take_append_drop]
  rw [this, List.mem_append, List.mem_cons]
  constructor
  · rintro (h | h | h)
    · exact .inr (.inl h)
    · exact .inl h
    · exact .inr (.inr h)
  · rintro (h | h | h)
    · exact .inr (.inl h)
    · exact .inl h
    · exact .inr (.inr h)
theorem cntE_insE {l : List Ent} (h : AscE l) {e : Ent} (hf : findE l e.name = none) (i : Int) : cntE (insE l e) i = cntE l i + (if e.ino = i then 1 else 0) := by
  rw [insE_ins h hf, cntE_app, cntE_cons]
  have : cntE l i = cntE (l.take (lowE l e.name)) i + cntE (l.drop (lowE l e.name)) i := by rw [← cntE_app, List.take_append_drop]
  omega
theorem len_insE {l : List Ent} (h : AscE l) {e : Ent} (hf : findE l e.name = none) : (insE l e).length = l.length + 1 := by
  rw [insE_ins h hf]
  have : l.length = (l.take (lowE l e.name)).length + (l.drop (lowE l e.name)).length := by rw [← List.length_append, List.take_append_drop]
  simp only [List.length_append, List.length_cons]
  omega
theorem mem_dropE {l : List Ent} {s : Bytes} {x : Ent} : x ∈ dropE l s ↔ x ∈ l ∧ x.name ≠ s := by simp [dropE, List.mem_filter]
theorem setE_split {l : List Ent} {b : Nat} {o : Ent} (ho : l[b]? = some o) : l = l.take b ++ o :: l.drop (b + 1) := by
  have hlt := (List.getElem?_eq_some_iff.1 ho).1
  rw [List.getElem?_eq_getElem hlt] at ho; injection ho with ho
  conv => lhs; rw [← List.take_append_drop b l]
  rw [List.drop_eq_getElem_cons hlt, ho]
theorem cntE_dropE {l : List Ent} (h : AscE l) {s : Bytes} {o : Ent} (hf : findE l s = some o) (i : Int) : cntE (dropE l s) i + (if o.ino = i then 1 else 0) = cntE l i := by
  rcases at_findE h s with ⟨_, o', h2, h3, h4⟩ | ⟨_, h2⟩
  · rw [hf] at h3; injection h3 with h3; subst h3
    rw [dropE_del h h2 h4]
    have e1 : cntE l i = cntE (l.take (lowE l s)) i + (cntE (l.drop (lowE l s + 1)) i + (if o.ino = i then 1 else 0)) := by
      rw [← cntE_cons, ← cntE_app, ← setE_split h2]
    rw [cntE_app, e1]
    omega
  · rw [hf] at h2; cases h2
theorem len_dropE {l : List Ent} (h : AscE l) {s : Bytes} {o : Ent} (hf : findE l s = some o) : (dropE l s).length + 1 = l.length := by
  rcases at_findE h s with ⟨_, o', h2, h3, h4⟩ | ⟨_, h2⟩
  · rw [dropE_del h h2 h4]
    have e1 : l.length = (l.take (lowE l s)).length + ((l.drop (lowE l s + 1)).length + 1) := by
      rw [← List.length_cons (a := o'), ← List.length_append, ← setE_split h2]
    rw [List.length_append]
    omega
  · rw [hf] at h2; cases h2
theorem len_withN {ns : List Node} (h : Asc ns) {n o : Node} (hf : find ns n.ino = some o) : (withN ns n).length = ns.length := by
  rcases at_find h n.ino with ⟨_, o, h2, h3, h4⟩ | ⟨_, h2⟩
  · rw [withN_set h h2 h4, List.length_set]
  · rw [hf] at h2; cases h2
end Go.Proofs.YtnapockikkbkcaaGreat
namespace Go.Proofs.YtnapockikkbkcaaGreat
open Go Go.Abs
def Nm (s : Bytes) : Prop := s = [97] ∨ s = [98] ∨ s = [99] ∨ s = [100] ∨ s = [101]
structure GInv (t : Tree) (dep : Int → Nat) (x : Int) : Prop where
  srt : Srt t
  root : ∃ r, find t.nodes 1 = some r ∧ r.kind = 2 ∧ r.up = 1
  num : ∀ i n, find t.nodes i = some n → 1 ≤ i ∧ i < t.next
  kind : ∀ i n, find t.nodes i = some n → n.kind = 1 ∨ n.kind = 2
  file : ∀ i n, find t.nodes i = some n → n.kind = 1 → n.ents = [] ∧ n.up = 0 ∧ n.data.length ≤ 4096
  dir : ∀ i n, find t.nodes i = some n → n.kind = 2 → n.data = []
  ent : ∀ i n e, find t.nodes i = some n → e ∈ n.ents → 1 ≤ e.cookie ∧ e.cookie < t.cookie ∧ e.ino ≠ 1 ∧ Nm e.name ∧ ∃ m, find t.nodes e.ino = some m ∧ (m.kind = 2 → m.up = i)
  cook : ∀ i n, find t.nodes i = some n → n.ents.Pairwise fun a b => a.cookie ≠ b.cookie
  links : ∀ i n, find t.nodes i = some n → n.links = (cnt t.nodes i : Int) + (if i = x then 1 else 0)
  one : ∀ i n, find t.nodes i = some n → n.kind = 2 → i ≠ 1 → n.links = 1
  dep1 : dep 1 = 0
  deps : ∀ i n, find t.nodes i = some n → n.kind = 2 → i ≠ 1 → dep i = dep n.up + 1 ∧ ∃ p, find t.nodes n.up = some p ∧ p.kind = 2
  deep : ∀ i n, find t.nodes i = some n → n.kind = 2 → dep i ≤ 12 ∧ (dep i = 12 → n.ents = [])
  nodes : t.nodes.length ≤ 200
  next : t.next ≤ 1099511627776
  cookie : 1 ≤ t.cookie ∧ t.cookie ≤ 1099511627776
theorem GInv.ino {t : Tree} {dep : Int → Nat} {x : Int} (_ : GInv t dep x) {i : Int} {n : Node} (hf : find t.nodes i = some n) : n.ino = i := (find_mem hf).2
theorem GInv.upd {t t' : Tree} {dep : Int → Nat} {x x' d : Int} {n n' : Node} (h : GInv t dep x) (hs : Srt t') (hd : find t.nodes d = some n)
    (hf : ∀ i, find t'.nodes i = if i = d then some n' else find t.nodes i) (hk : n'.kind = n.kind) (hu : n'.up = n.up)
    (hfile : n.kind = 1 → n'.ents = [] ∧ n'.data.length ≤ 4096) (hdir : n.kind = 2 → n'.data = [])
    (hent : ∀ e, e ∈ n'.ents → 1 ≤ e.cookie ∧ e.cookie < t'.cookie ∧ e.ino ≠ 1 ∧ Nm e.name ∧ ∃ m, find t.nodes e.ino = some m ∧ (m.kind = 2 → m.up = d))
    (hcook : n'.ents.Pairwise fun a b => a.cookie ≠ b.cookie)
    (hc : ∀ i, 1 ≤ i → (cnt t'.nodes i : Int) + (if i = x' then 1 else 0) = cnt t.nodes i + (if i = x then 1 else 0) + (if i = d then n'.links - n.links else 0))
    (h1 : n.kind = 2 → n'.links = n.links) (hdeep : dep d = 12 → n'.ents = []) (hn : t'.nodes.length ≤ 200) (hnx : t'.next = t.next) (hck : t.cookie ≤ t'.cookie) (hck' : t'.cookie ≤ 1099511627776) : GInv t' dep x' := by
  have keep : ∀ j m, find t.nodes j = some m → ∃ m', find t'.nodes j = some m' ∧ m'.kind = m.kind ∧ m'.up = m.up := by
    intro j m hm
    rw [hf]
    split
    · rename_i he
      subst he
      rw [hd] at hm; injection hm with hm; subst hm
      exact ⟨n', rfl, hk, hu⟩
    · exact ⟨m, hm, rfl, rfl⟩
  have back : ∀ j m', find t'.nodes j = some m' → (j = d ∧ m' = n') ∨ (j ≠ d ∧ find t.nodes j = some m') := by
    intro j m' hm
    rw [hf] at hm
    split at hm
    · rename_i he; injection hm with hm; exact .inl ⟨he, hm.symm⟩
    · rename_i he; exact .inr ⟨he, hm⟩
  refine ⟨hs, ?_, ?_, ?_, ?_, ?_, ?_, ?_, ?_, ?_, h.dep1, ?_, ?_, hn, by rw [hnx]; exact h.next, ⟨by have := h.cookie.1; omega, hck'⟩⟩
  · obtain ⟨r, h1, h2, h3⟩ := h.root
    obtain ⟨r', k1, k2, k3⟩ := keep _ _ h1
    exact ⟨r', k1, by omega, by omega⟩
  · intro i m hm
    rw [hnx]
    rcases back i m hm with ⟨rfl, rfl⟩ | ⟨_, hm⟩
    · exact h.num _ _ hd
    · exact h.num _ _ hm
  · intro i m hm
    rcases back i m hm with ⟨rfl, rfl⟩ | ⟨_, hm⟩
    · rw [hk]; exact h.kind _ _ hd
    · exact h.kind _ _ hm
  · intro i m hm hk1
    rcases back i m hm with ⟨rfl, rfl⟩ | ⟨_, hm⟩
    · rw [hk] at hk1
      exact ⟨(hfile hk1).1, by rw [hu]; exact (h.file _ _ hd hk1).2.1, (hfile hk1).2⟩
    · exact h.file _ _ hm hk1
  · intro i m hm hk1
    rcases back i m hm with ⟨rfl, rfl⟩ | ⟨_, hm⟩
    · rw [hk] at hk1
      exact hdir hk1
    · exact h.dir _ _ hm hk1
  · intro i m e hm he
    have key : ∀ m, find t.nodes e.ino = some m ∧ (m.kind = 2 → m.up = i) → ∃ m, find t'.nodes e.ino = some m ∧ (m.kind = 2 → m.up = i) := by
      rintro m ⟨k1, k2⟩
      obtain ⟨m', j1, j2, j3⟩ := keep _ _ k1
      exact ⟨m', j1, fun hk => by rw [j3]; exact k2 (by omega)⟩
    rcases back i m hm with ⟨rfl, rfl⟩ | ⟨_, hm⟩
    · obtain ⟨a1, a2, a3, a4, k, a5⟩ := hent e he
      exact ⟨a1, a2, a3, a4, key k a5⟩
    · obtain ⟨a1, a2, a3, a4, k, a5⟩ := h.ent _ _ e hm he
      exact ⟨a1, by omega, a3, a4, key k a5⟩
  · intro i m hm
    rcases back i m hm with ⟨rfl, rfl⟩ | ⟨_, hm⟩
    · exact hcook
    · exact h.cook _ _ hm
  · intro i m hm
    rcases back i m hm with ⟨rfl, rfl⟩ | ⟨hne, hm⟩
    · have := hc i (h.num _ _ hd).1
      have := h.links _ _ hd
      simp only [↓reduceIte] at *
      omega
    · have := hc i (h.num _ _ hm).1
      have := h.links _ _ hm
      simp only [hne, ↓reduceIte] at *
      omega
  · intro i m hm hk1 hi
    rcases back i m hm with ⟨rfl, rfl⟩ | ⟨_, hm⟩
    · rw [hk] at hk1
      rw [h1 hk1]; exact h.one _ _ hd hk1 hi
    · exact h.one _ _ hm hk1 hi
  · intro i m hm hk1 hi
    rcases back i m hm with ⟨rfl, rfl⟩ | ⟨_, hm⟩
    · rw [hk] at hk1
      obtain ⟨a, p, b, c⟩ := h.deps _ _ hd hk1 hi
      obtain ⟨p', k1, k2, _⟩ := keep _ _ b
      rw [hu]; exact ⟨a, p', k1, by omega⟩
    · obtain ⟨a, p, b, c⟩ := h.deps _ _ hm hk1 hi
      obtain ⟨p', k1, k2, _⟩ := keep _ _ b
      exact ⟨a, p', k1, by omega⟩
  · intro i m hm hk1
    rcases back i m hm with ⟨rfl, rfl⟩ | ⟨_, hm⟩
    · rw [hk] at hk1
      exact ⟨(h.deep _ _ hd hk1).1, hdeep⟩
    · exact h.deep _ _ hm hk1
theorem GInv.left {t : Tree} {dep : Int → Nat} {d : Int} {n : Node} {s : Bytes} {e : Ent} (h : GInv t dep 0) (hd : find t.nodes d = some n) (he : findE n.ents s = some e) : GInv ⟨leftN t.nodes d s, t.next, t.cookie⟩ dep e.ino := by
  have hE : AscE n.ents := h.srt.ents n (find_mem hd).1
  have hi : n.ino = d := h.ino hd
  have hem := findE_mem he
  have hw : leftN t.nodes d s = withN t.nodes { n with ents := dropE n.ents s } := by simp [leftN, hd]
  have hc : ∀ i, cnt (leftN t.nodes d s) i + (if e.ino = i then 1 else 0) = cnt t.nodes i := by
    intro i
    have h1 := cnt_withN h.srt.asc { n with ents := dropE n.ents s } i
    have h2 := cntE_dropE hE he i
    rw [hw]
    have h3 : nodeN t.nodes n.ino = n := by simp only [nodeN, hi, hd, Option.getD_some]
    simp only [h3] at h1
    omega
  refine h.upd (h.srt.left d s t.next t.cookie) hd (find_leftN h.srt.asc hd) rfl rfl ?_ ?_ ?_ ?_ ?_ (fun _ => rfl) ?_ ?_ rfl (Int.le_refl _) h.cookie.2
  · intro hk
    obtain ⟨h1, _, h3⟩ := h.file _ _ hd hk
    exact ⟨by simp [h1, dropE], h3⟩
  · exact h.dir _ _ hd
  · intro x hx
    exact h.ent _ _ x hd (mem_dropE.1 hx).1
  · exact List.Pairwise.filter _ (h.cook _ _ hd)
  · intro i h0
    have h1 := hc i
    rw [if_neg (show i ≠ 0 by omega)]
    have e1 : (if i = d then (n.links - n.links : Int) else 0) = 0 := by split <;> omega
    simp only [e1]
    by_cases h0 : i = e.ino
    · subst h0
      simp only [↓reduceIte] at h1 ⊢
      omega
    · rw [if_neg (fun hh => h0 hh.symm)] at h1
      rw [if_neg h0]
      omega
  · intro h12
    have := (h.deep _ _ hd ?_).2 h12
    · simp [this, dropE]
    · rcases h.kind _ _ hd with hk | hk
      · have := (h.file _ _ hd hk).1
        rw [this] at hem; cases hem.1
      · exact hk
  · show (leftN t.nodes d s).length ≤ 200
    rw [hw, len_withN h.srt.asc (o := n) (by simp only [hi]; exact hd)]
    exact h.nodes
theorem GInv.entered {t : Tree} {dep : Int → Nat} {x d : Int} {n m : Node} {s : Bytes} (h : GInv t dep x) (hd : find t.nodes d = some n) (hk : n.kind = 2) (he : findE n.ents s = none) (hnm : Nm s)
    (hx : find t.nodes x = some m) (hx1 : x ≠ 1) (hup : m.kind = 2 → m.up = d) (hdp : dep d < 12) (hck : t.cookie < 1099511627776) : GInv (enteredN t d s x) dep 0 := by
  have hE : AscE n.ents := h.srt.ents n (find_mem hd).1
  have hi : n.ino = d := h.ino hd
  have hcw : w64 (t.cookie + 1) = t.cookie + 1 := wrap_small (by have := h.cookie; omega) (by omega)
  have hw : enteredN t d s x = ⟨withN t.nodes { n with ents := insE n.ents ⟨s, x, t.cookie⟩ }, t.next, t.cookie + 1⟩ := by simp only [enteredN, hd, Option.getD_some, hcw]
  have hfn : findE n.ents (Ent.mk s x t.cookie).name = none := he
  have hc : ∀ i, cnt (enteredN t d s x).nodes i = cnt t.nodes i + (if x = i then 1 else 0) := by
    intro i
    have h1 := cnt_withN h.srt.asc { n with ents := insE n.ents ⟨s, x, t.cookie⟩ } i
    have h2 := cntE_insE hE hfn i
    rw [hw]
    have h3 : nodeN t.nodes n.ino = n := by simp only [nodeN, hi, hd, Option.getD_some]
    simp only [h3] at h1 h2 ⊢
    omega
  have hff : ∀ i, find (enteredN t d s x).nodes i = if i = d then some { n with ents := insE n.ents ⟨s, x, t.cookie⟩ } else find t.nodes i := by
    intro i
    rw [hw]
    have := find_withN h.srt.asc { n with ents := insE n.ents ⟨s, x, t.cookie⟩ } i
    rw [this]
    simp only [hi]
  refine h.upd (h.srt.entered d s x (by simp [nodeN, hd, he])) hd hff rfl rfl ?_ ?_ ?_ ?_ ?_ (fun _ => rfl) ?_ ?_ ?_ ?_ ?_
  · intro hk1; omega
  · exact h.dir _ _ hd
  · intro e hem
    rw [hw]
    rcases (mem_insE hE hfn).1 hem with rfl | hem
    · exact ⟨h.cookie.1, by simp only; omega, hx1, hnm, m, hx, hup⟩
    · obtain ⟨a1, a2, a3, a4, a5⟩ := h.ent _ _ e hd hem
      exact ⟨a1, by simp only; omega, a3, a4, a5⟩
  · rw [insE_ins hE hfn]
    have hp := h.cook _ _ hd
    rw [← List.take_append_drop (lowE n.ents s) n.ents, List.pairwise_append] at hp
    obtain ⟨p1, p2, p3⟩ := hp
    rw [List.pairwise_append]
    refine ⟨p1, List.pairwise_cons.2 ⟨fun a ha => ?_, p2⟩, fun a ha c hc => ?_⟩
    · have := (h.ent _ _ a hd (List.mem_of_mem_drop ha)).2.1
      simp only; omega
    · rcases List.mem_cons.1 hc with rfl | hc
      · have := (h.ent _ _ a hd (List.mem_of_mem_take ha)).2.1
        simp only; omega
      · exact p3 a ha c hc
  · intro i h0
    have h1 := hc i
    rw [if_neg (show i ≠ 0 by omega)]
    have e1 : (if i = d then (n.links - n.links : Int) else 0) = 0 := by split <;> omega
    simp only [e1]
    by_cases h0 : i = x
    · subst h0
      simp only [↓reduceIte] at h1 ⊢
      omega
    · rw [if_neg (fun hh => h0 hh.symm)] at h1
      rw [if_neg h0]
      omega
  · intro h12; omega
  · rw [hw]
    simp only
    rw [len_withN h.srt.asc (o := n) (by simp only [hi]; exact hd)]
    exact h.nodes
  · rw [hw]
  · rw [hw]; simp only; omega
  · rw [hw]; simp only; omega
theorem GInv.file' {t : Tree} {dep : Int → Nat} {x x' d : Int} {n n' : Node} (h : GInv t dep x) (hd : find t.nodes d = some n) (hk : n.kind = 1) (hi' : n'.ino = d) (hk' : n'.kind = 1) (hu : n'.up = n.up) (he : n'.ents = n.ents) (hda : n'.data.length ≤ 4096)
    (hx : ∀ i : Int, 1 ≤ i → (if i = x' then 1 else 0 : Int) = (if i = x then 1 else 0) + (if i = d then n'.links - n.links else 0)) : GInv ⟨withN t.nodes n', t.next, t.cookie⟩ dep x' := by
  have hi : n.ino = d := h.ino hd
  have hE : AscE n'.ents := by rw [he]; exact h.srt.ents n (find_mem hd).1
  have hff : ∀ i, find (withN t.nodes n') i = if i = d then some n' else find t.nodes i := by
    intro i
    rw [find_withN h.srt.asc n' i, hi']
  obtain ⟨f1, f2, f3⟩ := h.file _ _ hd hk
  refine h.upd (h.srt.with hE t.next t.cookie) hd hff (by omega) hu ?_ ?_ ?_ ?_ ?_ ?_ ?_ ?_ rfl (Int.le_refl _) h.cookie.2
  · intro _; exact ⟨by rw [he]; exact f1, hda⟩
  · intro h2; omega
  · intro e hem; rw [he, f1] at hem; cases hem
  · rw [he, f1]; exact List.Pairwise.nil
  · intro i h0
    have h1 := cnt_withN h.srt.asc n' i
    have h2 := hx i h0
    simp only [nodeN, hi', hd, Option.getD_some, he] at h1
    simp only
    omega
  · intro h2; omega
  · intro _; rw [he, f1]
  · simp only
    rw [len_withN h.srt.asc (o := n) (by simp only [hi']; exact hd)]
    exact h.nodes
theorem GInv.named {t : Tree} {dep : Int → Nat} {x : Int} (h : GInv t dep x) {i : Int} {n : Node} (hi : find t.nodes i = some n) (hk : n.kind = 2) (h1 : i ≠ 1) (hx : i ≠ x) : ∃ p e, find t.nodes n.up = some p ∧ p.kind = 2 ∧ e ∈ p.ents ∧ e.ino = i := by
  have a := h.links _ _ hi
  have b := h.one _ _ hi hk h1
  rw [if_neg hx] at a
  obtain ⟨m, e, e1, e2, e3⟩ := cnt_pos.1 (show 0 < cnt t.nodes i by omega)
  have hm : find t.nodes m.ino = some m := (find_iff h.srt.asc).2 ⟨e1, rfl⟩
  obtain ⟨_, _, _, _, k, k1, k2⟩ := h.ent _ _ e hm e2
  rw [e3, hi] at k1; injection k1 with k1; subst k1
  obtain ⟨_, p, p1, p2⟩ := h.deps _ _ hi hk h1
  rw [k2 hk] at p1 ⊢
  rw [hm] at p1; injection p1 with p1; subst p1
  exact ⟨m, e, hm, p2, e2, e3⟩
theorem GInv.drop {t : Tree} {dep : Int → Nat} {x k : Int} {n : Node} (h : GInv t dep x) (hx : x = k ∨ x = 0) (hk : find t.nodes k = some n) (he : n.ents = []) (h1 : k ≠ 1) (hc : cnt t.nodes k = 0) : GInv ⟨withoutN t.nodes k, t.next, t.cookie⟩ dep 0 := by
  have hff : ∀ i m, find (withoutN t.nodes k) i = some m ↔ i ≠ k ∧ find t.nodes i = some m := by
    intro i m
    rw [find_withoutN h.srt.asc]
    split <;> simp_all
  have hcn : ∀ i, cnt (withoutN t.nodes k) i = cnt t.nodes i := by
    intro i
    have := cnt_withoutN h.srt.asc k i
    simp only [nodeN, hk, Option.getD_some, he, cntE_nil] at this
    omega
  have hno : ∀ i m e, find t.nodes i = some m → e ∈ m.ents → e.ino ≠ k := by
    intro i m e hm hem hh
    have := cnt_pos.2 ⟨m, e, (find_mem hm).1, hem, hh⟩
    omega
  refine ⟨h.srt.without k t.next t.cookie, ?_, ?_, ?_, ?_, ?_, ?_, ?_, ?_, ?_, h.dep1, ?_, ?_, ?_, h.next, h.cookie⟩
  · obtain ⟨r, r1, r2⟩ := h.root
    exact ⟨r, (hff _ _).2 ⟨fun hh => h1 hh.symm, r1⟩, r2⟩
  · intro i m hm; exact h.num _ _ ((hff _ _).1 hm).2
  · intro i m hm; exact h.kind _ _ ((hff _ _).1 hm).2
  · intro i m hm; exact h.file _ _ ((hff _ _).1 hm).2
  · intro i m hm; exact h.dir _ _ ((hff _ _).1 hm).2
  · intro i m e hm hem
    have hm' := ((hff _ _).1 hm).2
    obtain ⟨a1, a2, a3, a4, q, a5, a6⟩ := h.ent _ _ e hm' hem
    exact ⟨a1, a2, a3, a4, q, (hff _ _).2 ⟨hno _ _ e hm' hem, a5⟩, a6⟩
  · intro i m hm; exact h.cook _ _ ((hff _ _).1 hm).2
  · intro i m hm
    obtain ⟨m1, m2⟩ := (hff _ _).1 hm
    have := h.links _ _ m2
    have h0 := (h.num _ _ m2).1
    rw [if_neg (show i ≠ 0 by omega)]
    rw [if_neg (by rcases hx with rfl | rfl <;> omega)] at this
    simp only [hcn]
    exact this
  · intro i m hm; exact h.one _ _ ((hff _ _).1 hm).2
  · intro i m hm hk2 hi1
    obtain ⟨m1, m2⟩ := (hff _ _).1 hm
    obtain ⟨a, p, b, c⟩ := h.deps _ _ m2 hk2 hi1
    refine ⟨a, p, (hff _ _).2 ⟨fun hh => ?_, b⟩, c⟩
    have h0 := (h.num _ _ m2).1
    obtain ⟨q, e, q1, _, q3, _⟩ := h.named m2 hk2 hi1 (by rcases hx with rfl | rfl <;> omega)
    rw [hh, hk] at q1; injection q1 with q1; subst q1
    rw [he] at q3; cases q3
  · intro i m hm; exact h.deep _ _ ((hff _ _).1 hm).2
  · exact Nat.le_trans (List.length_filter_le _ _) h.nodes
theorem GInv.setUp {t : Tree} {dep dep' : Int → Nat} {x to : Int} {n p : Node} (h : GInv t dep x) (hx : find t.nodes x = some n) (hk : n.kind = 2) (hx1 : x ≠ 1) (hp : find t.nodes to = some p) (hpk : p.kind = 2)
    (h1 : dep' 1 = 0) (hds : ∀ i m, find t.nodes i = some m → m.kind = 2 → i ≠ 1 → i ≠ x → dep' i = dep' m.up + 1) (hdx : dep' x = dep' to + 1)
    (hdeep : ∀ i m, find t.nodes i = some m → m.kind = 2 → dep' i ≤ 12 ∧ (dep' i = 12 → m.ents = [])) : GInv ⟨withN t.nodes { n with up := to }, t.next, t.cookie⟩ dep' x := by
  have hi : n.ino = x := h.ino hx
  have hff : ∀ i, find (withN t.nodes { n with up := to }) i = if i = x then some { n with up := to } else find t.nodes i := by
    intro i
    rw [find_withN h.srt.asc { n with up := to } i]
    simp only [hi]
  have keep : ∀ j m, find t.nodes j = some m → ∃ m', find (withN t.nodes { n with up := to }) j = some m' ∧ m'.kind = m.kind ∧ (j ≠ x → m'.up = m.up) := by
    intro j m hm
    rw [hff]
    split
    · rename_i he
      subst he
      rw [hx] at hm; injection hm with hm; subst hm
      exact ⟨_, rfl, rfl, fun hh => absurd rfl hh⟩
    · exact ⟨m, hm, rfl, fun _ => rfl⟩
  have back : ∀ j m', find (withN t.nodes { n with up := to }) j = some m' → (j = x ∧ m' = { n with up := to }) ∨ (j ≠ x ∧ find t.nodes j = some m') := by
    intro j m' hm
    rw [hff] at hm
    split at hm
    · rename_i he; injection hm with hm; exact .inl ⟨he, hm.symm⟩
    · rename_i he; exact .inr ⟨he, hm⟩
  have hcn : ∀ i, cnt (withN t.nodes { n with up := to }) i = cnt t.nodes i := by
    intro i
    have := cnt_withN h.srt.asc { n with up := to } i
    have h3 : nodeN t.nodes n.ino = n := by simp only [nodeN, hi, hx, Option.getD_some]
    simp only [h3] at this
    omega
  have hc0 : cnt t.nodes x = 0 := by
    have a := h.links _ n hx
    have b := h.one _ n hx hk hx1
    simp only [↓reduceIte] at a
    omega
  have hno : ∀ i m e, find t.nodes i = some m → e ∈ m.ents → e.ino ≠ x := by
    intro i m e hm hem hh
    have := cnt_pos.2 ⟨m, e, (find_mem hm).1, hem, hh⟩
    omega
  have hent : ∀ i m e, find t.nodes i = some m → e ∈ m.ents → 1 ≤ e.cookie ∧ e.cookie < t.cookie ∧ e.ino ≠ 1 ∧ Nm e.name ∧ ∃ m, find (withN t.nodes { n with up := to }) e.ino = some m ∧ (m.kind = 2 → m.up = i) := by
    intro i m e hm hem
    obtain ⟨a1, a2, a3, a4, q, a5, a6⟩ := h.ent _ _ e hm hem
    obtain ⟨q', j1, j2, j3⟩ := keep _ _ a5
    exact ⟨a1, a2, a3, a4, q', j1, fun hk => by rw [j3 (hno _ _ e hm hem)]; exact a6 (by omega)⟩
  refine ⟨h.srt.with (n := { n with up := to }) (h.srt.ents n (find_mem hx).1) t.next t.cookie, ?_, ?_, ?_, ?_, ?_, ?_, ?_, ?_, ?_, h1, ?_, ?_, ?_, h.next, h.cookie⟩
  · obtain ⟨r, r1, r2, r3⟩ := h.root
    obtain ⟨r', k1, k2, k3⟩ := keep _ _ r1
    exact ⟨r', k1, by omega, by rw [k3 (fun hh => hx1 hh.symm)]; exact r3⟩
  · intro i m hm
    rcases back i m hm with ⟨rfl, rfl⟩ | ⟨_, hm⟩
    · exact h.num _ n hx
    · exact h.num _ _ hm
  · intro i m hm
    rcases back i m hm with ⟨rfl, rfl⟩ | ⟨_, hm⟩
    · exact h.kind _ n hx
    · exact h.kind _ _ hm
  · intro i m hm hk1
    rcases back i m hm with ⟨rfl, rfl⟩ | ⟨_, hm⟩
    · simp only at hk1; omega
    · exact h.file _ _ hm hk1
  · intro i m hm hk1
    rcases back i m hm with ⟨rfl, rfl⟩ | ⟨_, hm⟩
    · exact h.dir _ n hx hk
    · exact h.dir _ _ hm hk1
  · intro i m e hm hem
    rcases back i m hm with ⟨rfl, rfl⟩ | ⟨_, hm⟩
    · exact hent _ n e hx hem
    · exact hent _ _ e hm hem
  · intro i m hm
    rcases back i m hm with ⟨rfl, rfl⟩ | ⟨_, hm⟩
    · exact h.cook _ n hx
    · exact h.cook _ _ hm
  · intro i m hm
    simp only [hcn]
    rcases back i m hm with ⟨rfl, rfl⟩ | ⟨_, hm⟩
    · exact h.links _ n hx
    · exact h.links _ _ hm
  · intro i m hm hk1 hi1
    rcases back i m hm with ⟨rfl, rfl⟩ | ⟨_, hm⟩
    · exact h.one _ n hx hk hi1
    · exact h.one _ _ hm hk1 hi1
  · intro i m hm hk1 hi1
    rcases back i m hm with ⟨rfl, rfl⟩ | ⟨hne, hm⟩
    · obtain ⟨p', k1, k2, _⟩ := keep _ _ hp
      exact ⟨hdx, p', k1, by omega⟩
    · obtain ⟨_, q, b, c⟩ := h.deps _ _ hm hk1 hi1
      obtain ⟨q', k1, k2, _⟩ := keep _ _ b
      exact ⟨hds _ _ hm hk1 hi1 hne, q', k1, by omega⟩
  · intro i m hm hk1
    rcases back i m hm with ⟨rfl, rfl⟩ | ⟨_, hm⟩
    · exact hdeep _ n hx hk
    · exact hdeep _ _ hm hk1
  · simp only
    rw [len_withN h.srt.asc (o := n) (by simp only [hi]; exact hx)]
    exact h.nodes
theorem GInv.made {t : Tree} {dep : Int → Nat} {d kind : Int} {p : Node} (h : GInv t dep 0) (hp : find t.nodes d = some p) (hpk : p.kind = 2) (hk : kind = 1 ∨ kind = 2) (hdp : dep d < 12) (hl : t.nodes.length < 200) (hn : t.next < 1099511627776) :
    GInv ⟨withN t.nodes ⟨t.next, kind, 1, [], [], if (kind == 2) = true then d else 0⟩, t.next + 1, t.cookie⟩ (fun i => if i = t.next then dep d + 1 else dep i) t.next := by
  have hnew : find t.nodes t.next = none := by
    cases hz : find t.nodes t.next with
    | none => rfl
    | some m => have := h.num _ _ hz; omega
  have hnx : 2 ≤ t.next := by
    obtain ⟨r, r1, _⟩ := h.root
    have := (h.num _ _ r1).2; omega
  generalize hn' : Node.mk t.next kind 1 [] [] (if (kind == 2) = true then d else 0) = n'
  have i1 : n'.ino = t.next := by rw [← hn']
  have i2 : n'.kind = kind := by rw [← hn']
  have i3 : n'.links = 1 := by rw [← hn']
  have i4 : n'.data = [] := by rw [← hn']
  have i5 : n'.ents = [] := by rw [← hn']
  have i6 : n'.up = if (kind == 2) = true then d else 0 := by rw [← hn']
  have hff : ∀ i, find (withN t.nodes n') i = if i = t.next then some n' else find t.nodes i := by
    intro i
    rw [find_withN h.srt.asc n' i, i1]
  have keep : ∀ j m, find t.nodes j = some m → find (withN t.nodes n') j = some m ∧ j ≠ t.next := by
    intro j m hm
    have := (h.num _ _ hm).2
    rw [hff, if_neg (by omega)]
    exact ⟨hm, by omega⟩
  have back : ∀ j m', find (withN t.nodes n') j = some m' → (j = t.next ∧ m' = n') ∨ (j ≠ t.next ∧ find t.nodes j = some m') := by
    intro j m' hm
    rw [hff] at hm
    split at hm
    · rename_i he; injection hm with hm; exact .inl ⟨he, hm.symm⟩
    · rename_i he; exact .inr ⟨he, hm⟩
  have hcn : ∀ i, cnt (withN t.nodes n') i = cnt t.nodes i := by
    intro i
    have := cnt_withN h.srt.asc n' i
    simp only [nodeN, i1, hnew, Option.getD_none, Node.zero, i5, cntE_nil] at this
    omega
  have hc0 : cnt t.nodes t.next = 0 := by
    rcases Nat.eq_zero_or_pos (cnt t.nodes t.next) with h0 | h0
    · exact h0
    · obtain ⟨m, e, e1, e2, e3⟩ := cnt_pos.1 h0
      obtain ⟨_, _, _, _, k, k1, _⟩ := h.ent _ _ e ((find_iff h.srt.asc).2 ⟨e1, rfl⟩) e2
      rw [e3, hnew] at k1; cases k1
  refine ⟨h.srt.with (n := n') (by rw [i5]; exact List.Pairwise.nil) _ _, ?_, ?_, ?_, ?_, ?_, ?_, ?_, ?_, ?_, ?_, ?_, ?_, ?_, ?_, h.cookie⟩
  · obtain ⟨r, r1, r2⟩ := h.root
    exact ⟨r, (keep _ _ r1).1, r2⟩
  · intro i m hm
    simp only
    rcases back i m hm with ⟨rfl, rfl⟩ | ⟨_, hm⟩
    · omega
    · have := h.num _ _ hm; omega
  · intro i m hm
    rcases back i m hm with ⟨rfl, rfl⟩ | ⟨_, hm⟩
    · rw [i2]; exact hk
    · exact h.kind _ _ hm
  · intro i m hm hk1
    rcases back i m hm with ⟨rfl, rfl⟩ | ⟨_, hm⟩
    · rw [i2] at hk1
      exact ⟨i5, by rw [i6, hk1]; rfl, by rw [i4]; simp⟩
    · exact h.file _ _ hm hk1
  · intro i m hm hk1
    rcases back i m hm with ⟨rfl, rfl⟩ | ⟨_, hm⟩
    · exact i4
    · exact h.dir _ _ hm hk1
  · intro i m e hm hem
    rcases back i m hm with ⟨rfl, rfl⟩ | ⟨_, hm⟩
    · rw [i5] at hem; cases hem
    · obtain ⟨a1, a2, a3, a4, q, a5, a6⟩ := h.ent _ _ e hm hem
      exact ⟨a1, a2, a3, a4, q, (keep _ _ a5).1, a6⟩
  · intro i m hm
    rcases back i m hm with ⟨rfl, rfl⟩ | ⟨_, hm⟩
    · rw [i5]; exact List.Pairwise.nil
    · exact h.cook _ _ hm
  · intro i m hm
    simp only [hcn]
    rcases back i m hm with ⟨rfl, rfl⟩ | ⟨hne, hm⟩
    · rw [hc0, i3]; simp
    · rw [if_neg hne]
      have := h.links _ _ hm
      rw [if_neg (by have := (h.num _ _ hm).1; omega)] at this
      exact this
  · intro i m hm hk1 hi1
    rcases back i m hm with ⟨rfl, rfl⟩ | ⟨_, hm⟩
    · exact i3
    · exact h.one _ _ hm hk1 hi1
  · show (if (1 : Int) = t.next then dep d + 1 else dep 1) = 0
    rw [if_neg (by omega)]; exact h.dep1
  · intro i m hm hk1 hi1
    show (if i = t.next then dep d + 1 else dep i) = (if m.up = t.next then dep d + 1 else dep m.up) + 1 ∧ _
    rcases back i m hm with ⟨rfl, rfl⟩ | ⟨hne, hm⟩
    · rw [i2] at hk1
      have hu : m.up = d := by rw [i6, hk1]; rfl
      rw [hu, if_pos rfl, if_neg (keep _ _ hp).2]
      exact ⟨rfl, p, (keep _ _ hp).1, hpk⟩
    · obtain ⟨a, q, b, c⟩ := h.deps _ _ hm hk1 hi1
      rw [if_neg hne, if_neg (keep _ _ b).2]
      exact ⟨a, q, (keep _ _ b).1, c⟩
  · intro i m hm hk1
    show (if i = t.next then dep d + 1 else dep i) ≤ 12 ∧ ((if i = t.next then dep d + 1 else dep i) = 12 → _)
    rcases back i m hm with ⟨rfl, rfl⟩ | ⟨hne, hm⟩
    · rw [if_pos rfl]; exact ⟨by omega, fun _ => i5⟩
    · rw [if_neg hne]; exact h.deep _ _ hm hk1
  · have := withN_len t.nodes n'
    simp only; omega
  · simp only; omega
end Go.Proofs.YtnapockikkbkcaaGreat
namespace Go.Proofs.YtnapockikkbkcaaGreat
open Go Go.Abs
theorem cover : ∀ (k : Nat) (l : List Nat), (∀ j, j < k → j ∈ l) → k ≤ l.length
  | 0, _, _ => Nat.zero_le _
  | k + 1, l, h => by
    have hk := h k (by omega)
    have := cover k (l.erase k) (fun j hj => (List.mem_erase_of_ne (by omega)).2 (h j (by omega)))
    rw [List.length_erase_of_mem hk] at this
    have := List.length_pos_of_mem hk
    omega
theorem GInv.up_at {t : Tree} {dep : Int → Nat} {x : Int} (h : GInv t dep x) : ∀ (m : Nat) (i : Int) (n : Node), find t.nodes i = some n → n.kind = 2 → dep i = m → ∀ k, k ≤ m → ∃ j p, find t.nodes j = some p ∧ dep j = k := by
  intro m
  induction m with
  | zero => intro i n hi _ hm k hk; exact ⟨i, n, hi, by omega⟩
  | succ m ih =>
    intro i n hi hk2 hm k hk
    rcases Nat.eq_or_lt_of_le hk with rfl | hlt
    · exact ⟨i, n, hi, hm⟩
    · have h1 : i ≠ 1 := fun hh => by subst hh; have := h.dep1; omega
      obtain ⟨a, p, b, c⟩ := h.deps _ _ hi hk2 h1
      exact ih _ p b c (by omega) k (by omega)
theorem GInv.dep_lt {t : Tree} {dep : Int → Nat} {x : Int} (h : GInv t dep x) {i : Int} {n : Node} (hi : find t.nodes i = some n) (hk : n.kind = 2) : dep i < t.nodes.length := by
  have := cover (dep i + 1) (t.nodes.map fun n => dep n.ino) (fun j hj => by
    obtain ⟨a, p, h1, h2⟩ := h.up_at _ _ _ hi hk rfl j (by omega)
    rw [List.mem_map]
    exact ⟨p, (find_mem h1).1, by rw [(find_mem h1).2, h2]⟩)
  rw [List.length_map] at this
  omega
theorem GInv.depthGo_eq {t : Tree} {dep : Int → Nat} {x : Int} (h : GInv t dep x) : ∀ (m : Nat) (i : Int) (d : Nat) (n : Node), find t.nodes i = some n → n.kind = 2 → dep i ≤ m → depthGo t.nodes m i d = d + dep i := by
  intro m
  induction m with
  | zero => intro i d n _ _ hd; simp only [depthGo]; omega
  | succ m ih =>
    intro i d n hi hk hd
    simp only [depthGo]
    split
    · rename_i h1; subst h1; have := h.dep1; omega
    · rename_i h1
      obtain ⟨a, p, b, c⟩ := h.deps _ _ hi hk h1
      have hu : upOf t.nodes i = n.up := by simp [upOf, hi]
      rw [hu, ih _ _ p b c (by omega)]
      omega
theorem GInv.depthN_eq {t : Tree} {dep : Int → Nat} {x : Int} (h : GInv t dep x) {i : Int} {n : Node} (hi : find t.nodes i = some n) (hk : n.kind = 2) : depthN t.nodes i = dep i := by
  have := h.depthGo_eq 201 i 0 n hi hk (by have := (h.deep _ _ hi hk).1; omega)
  simp only [depthN, this]; omega
theorem GInv.upsGo_len {t : Tree} {dep : Int → Nat} {x : Int} (h : GInv t dep x) : ∀ (m : Nat) (i : Int) (out : List Int) (n : Node), find t.nodes i = some n → n.kind = 2 → dep i ≤ m → (upsGo t.nodes m i out).length = out.length + dep i := by
  intro m
  induction m with
  | zero => intro i out n _ _ hd; simp only [upsGo]; omega
  | succ m ih =>
    intro i out n hi hk hd
    simp only [upsGo]
    by_cases h1 : i = 1
    · subst h1; have := h.dep1; simp; omega
    · obtain ⟨a, p, b, c⟩ := h.deps _ _ hi hk h1
      simp only [bne_iff_ne, ne_eq, h1, not_false_eq_true, ↓reduceIte, nodeN, hi, Option.isSome_some, Bool.not_true, Option.getD_some, hk, bne_self_eq_false, Bool.or_self, Bool.false_eq_true]
      rw [ih _ _ p b c (by omega)]
      simp only [List.length_append, List.length_cons, List.length_nil]
      omega
theorem GInv.upsN_len {t : Tree} {dep : Int → Nat} {x : Int} (h : GInv t dep x) {i : Int} {n : Node} (hi : find t.nodes i = some n) (hk : n.kind = 2) : (upsN t.nodes i).length = dep i + 1 := by
  have := h.upsGo_len t.nodes.length i [i] n hi hk (by have := h.dep_lt hi hk; omega)
  simp only [upsN, this, List.length_cons, List.length_nil]; omega
theorem GInv.upDepth_eq {t : Tree} {dep : Int → Nat} {x : Int} (h : GInv t dep x) {i : Int} {n : Node} (hi : find t.nodes i = some n) (hk : n.kind = 2) : upDepth t.nodes i = dep i := by
  simp only [upDepth, h.upsN_len hi hk]; omega
theorem GInv.up_of {t : Tree} {dep : Int → Nat} {x : Int} (_ : GInv t dep x) {i : Int} {n : Node} (hi : find t.nodes i = some n) : upOf t.nodes i = n.up := by simp [upOf, hi]
theorem GInv.below_fuel {t : Tree} {dep : Int → Nat} {x : Int} (h : GInv t dep x) (of : Int) : ∀ (m : Nat) (i : Int) (n : Node), find t.nodes i = some n → n.kind = 2 → dep i < m → belowGo t.nodes of m i = belowGo t.nodes of (dep i + 1) i := by
  intro m
  induction m with
  | zero => intro i n _ _ hd; omega
  | succ m ih =>
    intro i n hi hk hd
    by_cases h1 : i = 1
    · subst h1; simp only [belowGo]; split <;> rfl
    · obtain ⟨a, p, b, c⟩ := h.deps _ _ hi hk h1
      simp only [belowGo, h1, ↓reduceIte, h.up_of hi]
      rw [ih _ p b c (by omega), a]
theorem GInv.below_self {t : Tree} (i : Int) : belowN t.nodes i i = true := by simp [belowN, belowGo]
theorem GInv.below_root {t : Tree} {of : Int} (h1 : of ≠ 1) : belowN t.nodes 1 of = false := by
  simp only [belowN, belowGo]
  rw [if_neg (fun hh => h1 hh.symm)]
  rfl
theorem GInv.below_up {t : Tree} {dep : Int → Nat} {x : Int} (h : GInv t dep x) {of i : Int} {n : Node} (hi : find t.nodes i = some n) (hk : n.kind = 2) (h1 : i ≠ 1) (ho : i ≠ of) : belowN t.nodes i of = belowN t.nodes n.up of := by
  obtain ⟨a, p, b, c⟩ := h.deps _ _ hi hk h1
  have d1 := h.dep_lt b c
  have d2 := h.dep_lt hi hk
  simp only [belowN]
  rw [h.below_fuel of _ _ p b c (by omega)]
  rw [h.below_fuel of _ _ n hi hk (by omega)]
  conv => lhs; rw [belowGo]
  simp only [ho, h1, ↓reduceIte, h.up_of hi]
  rw [a]
theorem GInv.below_dep {t : Tree} {dep : Int → Nat} {x : Int} (h : GInv t dep x) {of : Int} : ∀ (m : Nat) (i : Int) (n : Node), find t.nodes i = some n → n.kind = 2 → dep i = m → belowN t.nodes i of = true → dep of ≤ dep i := by
  intro m
  induction m with
  | zero =>
    intro i n hi hk hm hb
    by_cases h1 : i = 1
    · by_cases h2 : of = 1
      · subst h1; subst h2; exact Nat.le_refl _
      · subst h1; rw [GInv.below_root h2] at hb; cases hb
    · obtain ⟨a, _⟩ := h.deps _ _ hi hk h1
      omega
  | succ m ih =>
    intro i n hi hk hm hb
    have h1 : i ≠ 1 := fun hh => by subst hh; have := h.dep1; omega
    obtain ⟨a, p, b, c⟩ := h.deps _ _ hi hk h1
    by_cases ho : i = of
    · subst ho; exact Nat.le_refl _
    · rw [h.below_up hi hk h1 ho] at hb
      have := ih _ p b c (by omega) hb
      omega
theorem GInv.ups_below {t : Tree} {dep : Int → Nat} {x : Int} (h : GInv t dep x) (of : Int) : ∀ (m : Nat) (i : Int) (out : List Int) (n : Node), find t.nodes i = some n → n.kind = 2 → dep i ≤ m → out.contains i = true → (upsGo t.nodes m i out).contains of = (out.contains of || belowGo t.nodes of (m + 1) i) := by
  intro m
  induction m with
  | zero =>
    intro i out n hi hk hd ho
    simp only [upsGo, belowGo]
    by_cases h1 : i = of
    · subst h1; rw [ho]; rfl
    · simp [h1]
  | succ m ih =>
    intro i out n hi hk hd ho
    simp only [upsGo]
    rw [belowGo]
    by_cases h1 : i = 1
    · by_cases h2 : i = of
      · subst h2; simp [h1] at ho ⊢; exact ho
      · simp [h1, h2]
        intro h3; exact absurd (h1.trans h3) h2
    · obtain ⟨a, p, b, c⟩ := h.deps _ _ hi hk h1
      simp only [bne_iff_ne, ne_eq, h1, not_false_eq_true, ↓reduceIte, nodeN, hi, Option.isSome_some, Bool.not_true, Option.getD_some, hk, bne_self_eq_false, Bool.or_self, Bool.false_eq_true]
      rw [ih _ _ p b c (by omega) (by simp), h.up_of hi]
      by_cases h2 : i = of
      · subst h2
        have : (out ++ [n.up]).contains i = true := by simp at ho ⊢; exact .inl ho
        rw [this, ho]; simp
      · rw [if_neg h2]
        by_cases h3 : n.up = of
        · have : belowGo t.nodes of (m + 1) n.up = true := by simp [belowGo, h3]
          rw [this]; simp
        · have : (out ++ [n.up]).contains of = out.contains of := by
            simp
            intro hh; exact absurd hh.symm h3
          rw [this]
theorem GInv.upsN_contains {t : Tree} {dep : Int → Nat} {x : Int} (h : GInv t dep x) (of : Int) {i : Int} {n : Node} (hi : find t.nodes i = some n) (hk : n.kind = 2) : (upsN t.nodes i).contains of = belowN t.nodes i of := by
  have := h.ups_below of t.nodes.length i [i] n hi hk (by have := h.dep_lt hi hk; omega) (by simp)
  simp only [upsN, this, belowN]
  by_cases h2 : i = of
  · subst h2; simp [belowGo]
  · have : ([i] : List Int).contains of = false := by simp; exact fun hh => h2 hh.symm
    rw [this]; rfl
theorem GInv.lbelow_eq {t : Tree} {dep : Int → Nat} {x : Int} (h : GInv t dep x) (of : Int) : ∀ (m : Nat) (i : Int) (n : Node), find t.nodes i = some n → n.kind = 2 → lbelowGo t.nodes of m i = belowGo t.nodes of m i := by
  intro m
  induction m with
  | zero => intro i n _ _; rfl
  | succ m ih =>
    intro i n hi hk
    simp only [lbelowGo, belowGo, beq_iff_eq, hi, Option.isSome_some, Bool.not_true, Bool.false_or]
    split
    · rfl
    · split
      · rfl
      · rename_i h1
        obtain ⟨a, p, b, c⟩ := h.deps _ _ hi hk h1
        rw [h.up_of hi]
        exact ih _ p b c
theorem GInv.lbelowN_eq {t : Tree} {dep : Int → Nat} {x : Int} (h : GInv t dep x) (of : Int) {i : Int} {n : Node} (hi : find t.nodes i = some n) (hk : n.kind = 2) : lbelowN t.nodes i of = belowN t.nodes i of := h.lbelow_eq of _ i n hi hk
end Go.Proofs.YtnapockikkbkcaaGreat
namespace Go.Proofs.YtnapockikkbkcaaGreat
open Go Go.Abs
theorem nodup_le {α : Type} [DecidableEq α] : ∀ (l k : List α), l.Nodup → (∀ x, x ∈ l → x ∈ k) → l.length ≤ k.length
  | [], _, _, _ => Nat.zero_le _
  | a :: l, k, h, hs => by
    have ha := hs a List.mem_cons_self
    obtain ⟨h1, h2⟩ := List.nodup_cons.1 h
    have := nodup_le l (k.erase a) h2 (fun x hx => (List.mem_erase_of_ne (by rintro rfl; exact h1 hx)).2 (hs x (List.mem_cons_of_mem _ hx)))
    rw [List.length_erase_of_mem ha] at this
    have := List.length_pos_of_mem ha
    simp only [List.length_cons]
    omega
theorem nm_len {l : List Ent} (h : AscE l) (hn : ∀ e, e ∈ l → Nm e.name) : l.length ≤ 5 := by
  have := nodup_le (l.map Ent.name) [[97], [98], [99], [100], [101]] (by
    unfold List.Nodup
    rw [List.pairwise_map]
    refine List.Pairwise.imp ?_ h
    intro a b hab he
    rw [he, strLt_irrefl] at hab; cases hab) (by
    intro x hx
    obtain ⟨e, he, rfl⟩ := List.mem_map.1 hx
    rcases hn e he with h | h | h | h | h <;> rw [h] <;> simp)
  simpa using this
theorem GInv.few {t : Tree} {dep : Int → Nat} {x : Int} (h : GInv t dep x) {i : Int} {n : Node} (hi : find t.nodes i = some n) : n.ents.length ≤ 5 :=
  nm_len (h.srt.ents n (find_mem hi).1) (fun e he => (h.ent _ _ e hi he).2.2.2.1)
theorem cnt_le (i : Int) : ∀ (ns : List Node), (∀ n, n ∈ ns → n.ents.length ≤ 5) → cnt ns i ≤ 5 * ns.length
  | [], _ => Nat.zero_le _
  | n :: ns, h => by
    have h1 := cnt_le i ns (fun m hm => h m (List.mem_cons_of_mem _ hm))
    have h2 : cntE n.ents i ≤ n.ents.length := List.countP_le_length
    have h3 := h n List.mem_cons_self
    rw [cnt_cons, List.length_cons]
    omega
theorem GInv.cnt_lt {t : Tree} {dep : Int → Nat} {x : Int} (h : GInv t dep x) (i : Int) : cnt t.nodes i ≤ 1000 := by
  have := cnt_le i t.nodes (fun n hn => h.few ((find_iff h.srt.asc).2 ⟨hn, rfl⟩))
  have := h.nodes
  omega
theorem GInv.ent_ne {t : Tree} {dep : Int → Nat} {x : Int} (h : GInv t dep x) {i : Int} {n : Node} (hi : find t.nodes i = some n) {e : Ent} (he : e ∈ n.ents) : e.ino ≠ i := by
  intro hh
  obtain ⟨_, _, h1, _, m, hm, hu⟩ := h.ent _ _ e hi he
  rw [hh, hi] at hm; injection hm with hm; subst hm
  have hk : n.kind = 2 := by
    rcases h.kind _ _ hi with hk | hk
    · rw [(h.file _ _ hi hk).1] at he; cases he
    · exact hk
  have := (h.deps _ _ hi hk (by omega)).1
  rw [hu hk] at this
  omega
theorem GInv.has_dir {t : Tree} {dep : Int → Nat} {x : Int} (h : GInv t dep x) {i : Int} {n : Node} (hi : find t.nodes i = some n) {e : Ent} (he : e ∈ n.ents) : n.kind = 2 := by
  rcases h.kind _ _ hi with hk | hk
  · rw [(h.file _ _ hi hk).1] at he; cases he
  · exact hk
theorem nameOf_nm (n : Nat) (h : nameOk (nameOf n) = true) : Nm (nameOf n) := by
  unfold nameOf at h ⊢
  unfold Nm
  split
  · simp
  · simp
  · simp
  · simp
  · simp
  · rename_i h0 h1 h2 h3 h4
    split at h
    · exact absurd (by assumption) h0
    · exact absurd (by assumption) h1
    · exact absurd (by assumption) h2
    · exact absurd (by assumption) h3
    · exact absurd (by assumption) h4
    · exact absurd h (by decide)
theorem enter_ok {t : Tree} {ino : Int} {s : Bytes} (h : (enterErr t ino s != 0) = false) : ∃ d, find t.nodes ino = some d ∧ d.kind = 2 ∧ nameOk s = true ∧ findE d.ents s = none ∧ d.ents.length < 64 ∧ depthN t.nodes ino < 12 ∧ t.cookie < 1099511627776 := by
  have h0 : enterErr t ino s = 0 := by simpa using h
  unfold enterErr at h0
  split at h0
  · rename_i h1; exact absurd h0 h1
  · rename_i h1
    obtain ⟨d, d1, d2, d3⟩ := dir_ok (show (dirN t.nodes ino).2 = 0 by omega)
    rw [d3] at h0
    split at h0
    · cases h0
    · rename_i h2
      split at h0
      · cases h0
      · rename_i h3
        split at h0
        · cases h0
        · rename_i h4
          simp only [fullN, (find_mem d1).2, Bool.or_eq_true, decide_eq_true_eq, not_or] at h4
          refine ⟨d, d1, d2, by simpa using h2, by simpa using h3, by omega, by omega, by omega⟩
theorem GInv.cw {t : Tree} {dep : Int → Nat} {x : Int} (h : GInv t dep x) (hn : t.next < 1099511627776) : w64 (t.next + 1) = t.next + 1 := wrap_small (by
  obtain ⟨r, r1, _⟩ := h.root
  have := h.num _ _ r1; omega) (by omega)
theorem addN_inv {t : Tree} {dep : Int → Nat} (h : GInv t dep 0) (ino : Int) (s : Bytes) (kind : Int) (hs : nameOk s = true → Nm s) : ∃ dep', GInv (addN t ino s kind).1 dep' 0 := by
  unfold addN
  split
  · exact ⟨dep, h⟩
  · rename_i hk
    split
    · exact ⟨dep, h⟩
    · rename_i he
      split
      · exact ⟨dep, h⟩
      · rename_i hb
        obtain ⟨d, d1, d2, d3, d4, d5, d6, d7⟩ := enter_ok (by simpa using he)
        simp only [Bool.or_eq_true, decide_eq_true_eq, not_or] at hb
        have hn : t.next < 1099511627776 := by omega
        rw [h.depthN_eq d1 d2] at d6
        have hk' : kind = 1 ∨ kind = 2 := by
          simp only [Bool.and_eq_true, bne_iff_ne, ne_eq, not_and, Decidable.not_not] at hk
          by_cases h1 : kind = 1
          · exact .inl h1
          · exact .inr (hk h1)
        have hm := h.made d1 d2 hk' d6 (by omega) hn
        rw [h.cw hn]
        have hlt := (h.num _ _ d1).2
        have hne : ino ≠ t.next := by omega
        refine ⟨_, hm.entered (d := ino) (n := d) (m := ⟨t.next, kind, 1, [], [], if (kind == 2) = true then ino else 0⟩) ?_ d2 d4 (hs d3) ?_ ?_ ?_ ?_ d7⟩
        · simp only; rw [find_withN h.srt.asc]; simp only [hne, ↓reduceIte]; exact d1
        · simp only; rw [find_withN h.srt.asc]; simp only [↓reduceIte]
        · have := (h.num _ _ d1).1; omega
        · intro h2
          simp only at h2
          simp [h2]
        · simp only [hne, ↓reduceIte]; exact d6
theorem lnN_inv {t : Tree} {dep : Int → Nat} (h : GInv t dep 0) (ino to : Int) (s : Bytes) (hs : nameOk s = true → Nm s) : GInv (lnN t ino to s).1 dep 0 := by
  unfold lnN
  split
  · exact h
  · rename_i hf
    split
    · exact h
    · rename_i hk
      split
      · exact h
      · rename_i he
        obtain ⟨d, d1, d2, d3, d4, d5, d6, d7⟩ := enter_ok (by simpa using he)
        rw [h.depthN_eq d1 d2] at d6
        cases hi : find t.nodes ino with
        | none => simp [hi] at hf
        | some n =>
          simp only [nodeN, hi, Option.getD_some] at hk ⊢
          have hk1 : n.kind = 1 := by
            rcases h.kind _ _ hi with h1 | h1
            · exact h1
            · simp [h1] at hk
          have hlk := h.links _ _ hi
          rw [if_neg (by have := (h.num _ _ hi).1; omega)] at hlk
          have hcl := h.cnt_lt ino
          have hw : w64 (n.links + 1) = n.links + 1 := wrap_small (by omega) (by omega)
          rw [hw]
          obtain ⟨f1, f2, f3⟩ := h.file _ _ hi hk1
          have hg := h.file' (n' := { n with links := n.links + 1 }) (x' := ino) hi hk1 (find_mem hi).2 hk1 rfl rfl f3 (fun i h0 => by
            simp only
            rw [if_neg (show i ≠ 0 by omega)]
            split <;> omega)
          have hne : to ≠ ino := fun hh => by subst hh; rw [hi] at d1; injection d1 with d1; subst d1; omega
          refine hg.entered (d := to) (n := d) (m := { n with links := n.links + 1 }) ?_ d2 d4 (hs d3) ?_ ?_ ?_ d6 d7
          · simp only; rw [find_withN h.srt.asc]; simp only [h.ino hi, hne, ↓reduceIte]; exact d1
          · simp only; rw [find_withN h.srt.asc]; simp only [h.ino hi, ↓reduceIte]
          · intro hh; subst hh
            obtain ⟨r, r1, r2, _⟩ := h.root
            rw [hi] at r1; injection r1 with r1; subst r1; omega
          · intro h2; simp only at h2; omega
theorem GInv.unnamed {t : Tree} {dep : Int → Nat} {k : Int} {n : Node} (h : GInv t dep k) (hk : find t.nodes k = some n) (he : n.ents = []) (h1 : k ≠ 1) : GInv ⟨unnamedN t.nodes k, t.next, t.cookie⟩ dep 0 := by
  unfold unnamedN
  simp only [nodeN, hk, Option.getD_some]
  have hl := h.links _ _ hk
  simp only [↓reduceIte] at hl
  split
  · rename_i h2
    have := h.one _ _ hk (by simpa using h2) h1
    exact h.drop (.inl rfl) hk he h1 (by omega)
  · rename_i h2
    have hk1 : n.kind = 1 := by
      rcases h.kind _ _ hk with h1 | h1
      · exact h1
      · simp [h1] at h2
    have hcl := h.cnt_lt k
    have hw : w64 (n.links - 1) = n.links - 1 := wrap_small (by omega) (by omega)
    rw [hw]
    obtain ⟨f1, f2, f3⟩ := h.file _ _ hk hk1
    exact h.file' (n' := { n with links := n.links - 1 }) (x' := 0) hk hk1 (find_mem hk).2 hk1 rfl rfl f3 (fun i h0 => by
      simp only
      rw [if_neg (show i ≠ 0 by omega)]
      split <;> omega)
theorem GInv.un {t : Tree} {dep : Int → Nat} (h : GInv t dep 0) {d : Int} {n m : Node} {s : Bytes} {e : Ent} (hd : find t.nodes d = some n) (he : findE n.ents s = some e) (hm : find t.nodes e.ino = some m) (hm0 : m.ents = []) : GInv ⟨unnamedN (leftN t.nodes d s) e.ino, t.next, t.cookie⟩ dep 0 := by
  have hem := (findE_mem he).1
  have hl := h.left hd he
  refine hl.unnamed (n := m) ?_ hm0 (h.ent _ _ e hd hem).2.2.1
  simp only
  rw [find_leftN h.srt.asc hd, if_neg (h.ent_ne hd hem)]
  exact hm
theorem unN_inv {t : Tree} {dep : Int → Nat} (h : GInv t dep 0) (ino : Int) (s : Bytes) : GInv (unN t ino s).1 dep 0 := by
  unfold unN
  split
  · exact h
  · rename_i hl
    obtain ⟨d, e, d1, d2, d3, d4, d5⟩ := look_ok (by simpa using hl)
    rw [d5]
    split
    · exact h
    · rename_i h0
      obtain ⟨_, _, _, _, m, hm, _⟩ := h.ent _ _ e d1 (findE_mem d4).1
      simp only [nodeN, hm, Option.getD_some, decide_eq_true_eq] at h0
      exact h.un d1 d4 hm (List.length_eq_zero_iff.1 (by omega))
theorem putN_inv {t : Tree} {dep : Int → Nat} (h : GInv t dep 0) (ino : Int) (data : Bytes) : GInv (putN t ino data).1 dep 0 := by
  unfold putN
  split
  · exact h
  · rename_i hf
    split
    · exact h
    · rename_i hk
      split
      · exact h
      · rename_i hd
        cases hi : find t.nodes ino with
        | none => simp [hi] at hf
        | some n =>
          simp only [nodeN, hi, Option.getD_some] at hk ⊢
          have hk1 : n.kind = 1 := by
            rcases h.kind _ _ hi with h1 | h1
            · exact h1
            · simp [h1] at hk
          simp only [decide_eq_true_eq] at hd
          exact h.file' (n' := { n with data := data }) (x' := 0) hi hk1 (find_mem hi).2 hk1 rfl rfl (by simp only; omega) (fun i h0 => by
            simp only
            rw [if_neg (show i ≠ 0 by omega)]
            split <;> omega)
theorem freeN_inv {t : Tree} {dep : Int → Nat} (h : GInv t dep 0) (ino : Int) : GInv (freeN t ino).1 dep 0 := by
  unfold freeN
  split
  · exact h
  · rename_i hf
    split
    · exact h
    · rename_i hk
      split
      · exact h
      · rename_i hd
        cases hi : find t.nodes ino with
        | none => simp [hi] at hf
        | some n =>
          simp only [nodeN, hi, Option.getD_some] at hk hd
          have hk1 : n.kind = 1 := by
            rcases h.kind _ _ hi with h1 | h1
            · exact h1
            · simp [h1] at hk
          simp only [decide_eq_true_eq] at hd
          have hl := h.links _ _ hi
          rw [if_neg (by have := (h.num _ _ hi).1; omega)] at hl
          refine h.drop (.inr rfl) hi (h.file _ _ hi hk1).1 ?_ (by omega)
          intro hh; subst hh
          obtain ⟨r, r1, r2, _⟩ := h.root
          rw [hi] at r1; injection r1 with r1; subst r1; omega
end Go.Proofs.YtnapockikkbkcaaGreat
namespace Go.Proofs.YtnapockikkbkcaaGreat
open Go Go.Abs
theorem asc_ext : ∀ {a b : List Node}, Asc a → Asc b → (∀ m, m ∈ a ↔ m ∈ b) → a = b
  | [], [], _, _, _ => rfl
  | [], y :: b, _, _, h => by have := (h y).2 List.mem_cons_self; cases this
  | x :: a, [], _, _, h => by have := (h x).1 List.mem_cons_self; cases this
  | x :: a, y :: b, ha, hb, h => by
    obtain ⟨a1, a2⟩ := List.pairwise_cons.1 ha
    obtain ⟨b1, b2⟩ := List.pairwise_cons.1 hb
    have hxy : x = y := by
      rcases List.mem_cons.1 ((h x).1 List.mem_cons_self) with h1 | h1
      · exact h1
      · rcases List.mem_cons.1 ((h y).2 List.mem_cons_self) with h2 | h2
        · exact h2.symm
        · have := b1 x h1; have := a1 y h2; omega
    subst hxy
    rw [asc_ext a2 b2 (fun m => ?_)]
    constructor
    · intro hm
      rcases List.mem_cons.1 ((h m).1 (List.mem_cons_of_mem _ hm)) with h1 | h1
      · subst h1; have := a1 m hm; omega
      · exact h1
    · intro hm
      rcases List.mem_cons.1 ((h m).2 (List.mem_cons_of_mem _ hm)) with h1 | h1
      · subst h1; have := b1 m hm; omega
      · exact h1
theorem find_ext {a b : List Node} (ha : Asc a) (hb : Asc b) (h : ∀ i, find a i = find b i) : a = b :=
  asc_ext ha hb fun m => by
    constructor
    · intro hm
      have := (find_iff ha).2 ⟨hm, rfl⟩
      rw [h] at this
      exact (find_mem this).1
    · intro hm
      have := (find_iff hb).2 ⟨hm, rfl⟩
      rw [← h] at this
      exact (find_mem this).1
theorem unnamedN_asc {nodes : List Node} (h : Asc nodes) (k : Int) : Asc (unnamedN nodes k) := by
  unfold unnamedN
  split
  · exact withoutN_asc h _
  · exact withN_asc h _
theorem leftN_asc {nodes : List Node} (h : Asc nodes) (k : Int) (s : Bytes) : Asc (leftN nodes k s) := withN_asc h _
def lessN (n : Node) : Option Node := if (n.kind == 2) = true then none else some { n with links := w64 (n.links - 1) }
theorem find_unnamedN {nodes : List Node} (h : Asc nodes) {k : Int} {n : Node} (hk : find nodes k = some n) (i : Int) : find (unnamedN nodes k) i = if i = k then lessN n else find nodes i := by
  unfold unnamedN lessN
  simp only [nodeN, hk, Option.getD_some]
  split
  · rw [find_withoutN h]
  · rw [find_withN h]
    simp only [(find_mem hk).2]
theorem dropE_comm (l : List Ent) (a b : Bytes) : dropE (dropE l a) b = dropE (dropE l b) a := by
  simp only [dropE, List.filter_filter]
  congr 1
  funext e
  rw [Bool.and_comm]
theorem un_first {nodes : List Node} (h : Asc nodes) {f to y : Int} {s nm : Bytes} {dF dT m : Node} (hF : find nodes f = some dF) (hT : find nodes to = some dT) (hy : find nodes y = some m) (h1 : y ≠ f) (h2 : y ≠ to) :
    unnamedN (leftN (leftN nodes f s) to nm) y = leftN (unnamedN (leftN nodes to nm) y) f s := by
  have a1 := leftN_asc h f s
  have a2 := leftN_asc h to nm
  have a3 := leftN_asc a1 to nm
  have a4 := unnamedN_asc a2 y
  have f1 := find_leftN h hF (s := s)
  have f2 := find_leftN h hT (s := nm)
  have hy1 : find (leftN nodes to nm) y = some m := by rw [f2, if_neg h2]; exact hy
  have f4 := find_unnamedN a2 hy1
  obtain ⟨dT', hT'⟩ : ∃ dT', find (leftN nodes f s) to = some dT' := by rw [f1]; split <;> simp_all
  have f3 := find_leftN a1 hT' (s := nm)
  have hy3 : find (leftN (leftN nodes f s) to nm) y = some m := by rw [f3, if_neg h2, f1, if_neg h1]; exact hy
  have f5 := find_unnamedN a3 hy3
  obtain ⟨dF', hF'⟩ : ∃ dF', find (unnamedN (leftN nodes to nm) y) f = some dF' := by rw [f4, if_neg (fun hh => h1 hh.symm), f2]; split <;> simp_all
  have f6 := find_leftN a4 hF' (s := s)
  refine find_ext (unnamedN_asc a3 y) (leftN_asc a4 f s) (fun i => ?_)
  rw [f5, f6, f4, f3]
  rw [f1] at hT'
  rw [f4, if_neg (fun hh => h1 hh.symm), f2] at hF'
  by_cases i1 : i = y
  · subst i1; simp [h1]
  · simp only [i1, ↓reduceIte]
    by_cases i2 : i = to
    · subst i2
      simp only [↓reduceIte]
      by_cases i3 : i = f
      · subst i3
        simp only [↓reduceIte] at hT' hF' ⊢
        injection hT' with hT'; injection hF' with hF'
        rw [← hT', ← hF']
        rw [hF] at hT; injection hT with hT; subst hT
        simp only [dropE_comm]
      · simp only [i3, ↓reduceIte] at hT' ⊢
        rw [f2]; simp only [↓reduceIte]
        rw [hT] at hT'; injection hT' with hT'; rw [hT']
    · simp only [i2, ↓reduceIte]
      rw [f1, f2]
      by_cases i3 : i = f
      · subst i3
        simp only [↓reduceIte, i2] at hF' ⊢
        rw [hF] at hF'; injection hF' with hF'; rw [hF']
      · simp only [i3, i2, ↓reduceIte]
theorem GInv.move0 {t : Tree} {dep dep' : Int → Nat} {f to : Int} {s nm : Bytes} {dF dT m : Node} {e : Ent} (h : GInv t dep 0) (hF : find t.nodes f = some dF) (he : findE dF.ents s = some e) (hT : find t.nodes to = some dT) (hTk : dT.kind = 2) (hfree : findE dT.ents nm = none) (hnm : Nm nm)
    (hm : find t.nodes e.ino = some m) (hne : e.ino ≠ to) (hd12 : dep' to < 12) (hck : t.cookie < 1099511627776)
    (hcase : (m.kind = 1 ∧ dep' = dep) ∨ (m.kind = 2 ∧ dep' 1 = 0 ∧ (∀ i n, find t.nodes i = some n → n.kind = 2 → i ≠ 1 → i ≠ e.ino → dep' i = dep' n.up + 1) ∧ dep' e.ino = dep' to + 1 ∧
      ∀ i n, find t.nodes i = some n → n.kind = 2 → dep' i ≤ 12 ∧ (dep' i = 12 → n.ents = []))) : GInv (moveN t f s to nm e.ino 0) dep' 0 := by
  have hem := (findE_mem he).1
  have hnf : e.ino ≠ f := h.ent_ne hF hem
  have h1 : e.ino ≠ 1 := (h.ent _ _ e hF hem).2.2.1
  have hl := h.left hF he
  have fl := find_leftN h.srt.asc hF (s := s)
  have hmx : find (leftN t.nodes f s) e.ino = some m := by rw [fl, if_neg hnf]; exact hm
  obtain ⟨d1, g1, g2, g3⟩ : ∃ d1, find (leftN t.nodes f s) to = some d1 ∧ d1.kind = 2 ∧ findE d1.ents nm = none := by
    rw [fl]
    split
    · rename_i hh
      subst hh
      rw [hF] at hT; injection hT with hT; subst hT
      exact ⟨_, rfl, hTk, findE_dropE_none hfree⟩
    · exact ⟨dT, hT, hTk, hfree⟩
  have hnode : nodeN t.nodes e.ino = m := by simp [nodeN, hm]
  unfold moveN
  simp only [hnode, bne_self_eq_false, Bool.false_eq_true, ↓reduceIte]
  rcases hcase with ⟨hk, rfl⟩ | ⟨hk, c1, c2, c3, c4⟩
  · rw [if_neg (by simp [hk])]
    exact hl.entered g1 g2 g3 hnm hmx h1 (fun h2 => by omega) hd12 hck
  · rw [if_pos (by simp [hk])]
    have hs := hl.setUp (dep' := dep') hmx hk h1 g1 g2 c1 (fun i n hi hk2 hi1 hie => by
        simp only [fl] at hi
        split at hi
        · rename_i hh; subst hh
          injection hi with hi; subst hi
          exact c2 i dF hF hk2 hi1 hie
        · exact c2 _ _ hi hk2 hi1 hie) c3 (fun i n hi hk2 => by
        simp only [fl] at hi
        split at hi
        · rename_i hh; subst hh
          injection hi with hi; subst hi
          obtain ⟨q1, q2⟩ := c4 i dF hF hk2
          exact ⟨q1, fun h12 => by simp [q2 h12, dropE]⟩
        · exact c4 _ _ hi hk2)
    have hmi : m.ino = e.ino := (find_mem hm).2
    have fw := find_withN (leftN_asc h.srt.asc f s) { m with up := to }
    refine hs.entered (n := d1) (m := { m with up := to }) ?_ g2 g3 hnm ?_ h1 (fun _ => rfl) hd12 hck
    · simp only
      rw [fw]
      rw [if_neg (show ¬ to = m.ino from fun hh => hne (by omega))]
      exact g1
    · simp only
      rw [fw]
      simp only [hmi, ↓reduceIte]
end Go.Proofs.YtnapockikkbkcaaGreat
namespace Go.Proofs.YtnapockikkbkcaaGreat
open Go Go.Abs
def highAt (nodes : List Node) (at' d : Int) (n : Node) : Int :=
  if decide ((0 : Int) < n.ents.length) = true then w64 (w64 (w64 (at' + depthN nodes n.ino) - d) + 1) else w64 (w64 (at' + depthN nodes n.ino) - d)
theorem highStep_ge (nodes : List Node) (ino at' d : Int) (n : Node) (most : Int) : most ≤ highStep nodes ino at' d n most ∧ ((n.kind == 2 && belowN nodes n.ino ino) = true → highAt nodes at' d n ≤ highStep nodes ino at' d n most) := by
  have e : highStep nodes ino at' d n most = if (n.kind == 2 && belowN nodes n.ino ino) = true then (if highAt nodes at' d n > most then highAt nodes at' d n else most) else most := rfl
  rw [e]
  split
  · split
    · exact ⟨by omega, fun _ => Int.le_refl _⟩
    · exact ⟨Int.le_refl _, fun _ => by omega⟩
  · rename_i h; exact ⟨Int.le_refl _, fun hh => absurd hh h⟩
theorem highGo_ge (nodes : List Node) (ino at' d : Int) : ∀ (l : List Node) (most : Int), most ≤ highGo nodes ino at' d l most ∧ ∀ n, n ∈ l → (n.kind == 2 && belowN nodes n.ino ino) = true → highAt nodes at' d n ≤ highGo nodes ino at' d l most
  | [], most => ⟨Int.le_refl _, fun n hn => by cases hn⟩
  | m :: l, most => by
    obtain ⟨h1, h2⟩ := highGo_ge nodes ino at' d l (highStep nodes ino at' d m most)
    obtain ⟨h3, h4⟩ := highStep_ge nodes ino at' d m most
    rw [highGo]
    refine ⟨by omega, fun n hn hb => ?_⟩
    rcases List.mem_cons.1 hn with rfl | hn
    · have := h4 hb; omega
    · exact h2 n hn hb
def redep (nodes : List Node) (dep : Int → Nat) (x to : Int) : Int → Nat := fun i => if belowN nodes i x = true then dep i + (dep to + 1) - dep x else dep i
theorem GInv.highAt_eq {t : Tree} {dep : Int → Nat} (h : GInv t dep 0) {x to i : Int} {m n : Node} (hx : find t.nodes x = some m) (hk : m.kind = 2) (hd : dep to < 12) (hi : find t.nodes i = some n) (hk2 : n.kind = 2) (hb : belowN t.nodes i x = true) :
    highAt t.nodes (((dep to + 1 : Nat) : Int)) (dep x) n = ((redep t.nodes dep x to i + (if 0 < n.ents.length then 1 else 0) : Nat) : Int) := by
  have d1 := (h.deep _ _ hi hk2).1
  have d2 := (h.deep _ _ hx hk).1
  have d3 := h.below_dep _ i n hi hk2 rfl hb
  have hdn : depthN t.nodes n.ino = dep i := by rw [h.ino hi]; exact h.depthN_eq hi hk2
  have w1 : w64 ((((dep to + 1 : Nat) : Int)) + (dep i : Nat)) = (((dep to + 1 : Nat) : Int)) + (dep i : Nat) := wrap_small (by omega) (by omega)
  have w2 : w64 ((((dep to + 1 : Nat) : Int)) + (dep i : Nat) - (dep x : Nat)) = (((dep to + 1 : Nat) : Int)) + (dep i : Nat) - (dep x : Nat) := wrap_small (by omega) (by omega)
  have w3 : w64 ((((dep to + 1 : Nat) : Int)) + (dep i : Nat) - (dep x : Nat) + 1) = (((dep to + 1 : Nat) : Int)) + (dep i : Nat) - (dep x : Nat) + 1 := wrap_small (by omega) (by omega)
  unfold highAt redep
  rw [if_pos hb, hdn, w1, w2, w3]
  by_cases hl : 0 < n.ents.length
  · rw [if_pos (by simpa using hl), if_pos hl]; omega
  · rw [if_neg (by simpa using hl), if_neg hl]; omega
theorem GInv.redeps {t : Tree} {dep : Int → Nat} (h : GInv t dep 0) {x to : Int} {m dT : Node} (hx : find t.nodes x = some m) (hk : m.kind = 2) (hx1 : x ≠ 1) (hT : find t.nodes to = some dT) (hTk : dT.kind = 2) (hnb : belowN t.nodes to x = false) (hd : dep to < 12)
    (hh : highN t.nodes x (((dep to + 1 : Nat) : Int)) ≤ 12) :
    redep t.nodes dep x to 1 = 0 ∧ (∀ i n, find t.nodes i = some n → n.kind = 2 → i ≠ 1 → i ≠ x → redep t.nodes dep x to i = redep t.nodes dep x to n.up + 1) ∧ redep t.nodes dep x to x = redep t.nodes dep x to to + 1 ∧
      (∀ i n, find t.nodes i = some n → n.kind = 2 → redep t.nodes dep x to i ≤ 12 ∧ (redep t.nodes dep x to i = 12 → n.ents = [])) ∧ redep t.nodes dep x to to = dep to := by
  have hto : redep t.nodes dep x to to = dep to := by unfold redep; rw [if_neg (by simp [hnb])]
  refine ⟨?_, ?_, ?_, ?_, hto⟩
  · unfold redep
    rw [if_neg (by simp [GInv.below_root hx1])]
    exact h.dep1
  · intro i n hi hk2 hi1 hix
    obtain ⟨a, p, b, c⟩ := h.deps _ _ hi hk2 hi1
    have hb := h.below_up hi hk2 hi1 hix
    unfold redep
    rw [hb]
    split
    · rename_i hb2
      have := h.below_dep _ _ p b c rfl hb2
      omega
    · exact a
  · rw [hto]
    unfold redep
    rw [if_pos (GInv.below_self x)]
    omega
  · intro i n hi hk2
    by_cases hb : belowN t.nodes i x = true
    · have h1 := (highGo_ge t.nodes x (((dep to + 1 : Nat) : Int)) (depthN t.nodes x) t.nodes 0).2 n (find_mem hi).1 (by rw [hk2, h.ino hi, hb]; rfl)
      rw [h.depthN_eq hx hk, h.highAt_eq hx hk hd hi hk2 hb] at h1
      unfold highN at hh
      rw [h.depthN_eq hx hk] at hh
      have h2 := Int.le_trans h1 hh
      split at h2
      · rename_i hl
        exact ⟨by omega, fun h12 => by omega⟩
      · rename_i hl
        exact ⟨by omega, fun _ => List.length_eq_zero_iff.1 (by omega)⟩
    · have : redep t.nodes dep x to i = dep i := by unfold redep; rw [if_neg hb]
      rw [this]
      exact h.deep _ _ hi hk2
theorem findE_dropE_ne {l : List Ent} {s r : Bytes} (h : r ≠ s) : findE (dropE l s) r = findE l r := by
  unfold findE dropE
  rw [List.find?_filter]
  congr 1
  funext e
  by_cases he : e.name = r
  · have hn : e.name ≠ s := he ▸ h
    simp [he, h]
  · simp [he]
structure MvOk (t : Tree) (dep : Int → Nat) (f : Int) (s : Bytes) (to : Int) (nm : Bytes) (dF dT m : Node) (e : Ent) : Prop where
  hF : find t.nodes f = some dF
  kF : dF.kind = 2
  he : findE dF.ents s = some e
  hT : find t.nodes to = some dT
  kT : dT.kind = 2
  hn : nameOk nm = true
  hm : find t.nodes e.ino = some m
  ne : e.ino ≠ to
  nf : e.ino ≠ f
  loop : m.kind = 2 → belowN t.nodes to e.ino = false
  deep : dep to < 12
  high : m.kind = 2 → highN t.nodes e.ino (((dep to + 1 : Nat) : Int)) ≤ 12
  cookie : t.cookie < 1099511627776
  room : findE dT.ents nm = none → to ≠ f → dT.ents.length < 64
  onto : ∀ e2, findE dT.ents nm = some e2 → e2.ino ≠ e.ino ∧ ∃ y, find t.nodes e2.ino = some y ∧ y.ents = [] ∧ (m.kind = 2 ↔ y.kind = 2) ∧ e2.ino ≠ f ∧ e2.ino ≠ to
theorem GInv.mv {t : Tree} {dep : Int → Nat} (h : GInv t dep 0) {f : Int} {s : Bytes} {to : Int} {nm : Bytes} {dF dT m : Node} {e : Ent} (hs : nameOk nm = true → Nm nm) (k : MvOk t dep f s to nm dF dT m e) : ∃ dep', GInv (moveN t f s to nm e.ino (underN dT.ents nm)) dep' 0 := by
  have hem := (findE_mem k.he).1
  have hx1 := (h.ent _ _ e k.hF hem).2.2.1
  have hcase : ∃ dep' : Int → Nat, dep' to < 12 ∧ ((m.kind = 1 ∧ dep' = dep) ∨ (m.kind = 2 ∧ dep' 1 = 0 ∧ (∀ i n, find t.nodes i = some n → n.kind = 2 → i ≠ 1 → i ≠ e.ino → dep' i = dep' n.up + 1) ∧ dep' e.ino = dep' to + 1 ∧
      ∀ i n, find t.nodes i = some n → n.kind = 2 → dep' i ≤ 12 ∧ (dep' i = 12 → n.ents = []))) := by
    rcases h.kind _ _ k.hm with hk | hk
    · exact ⟨dep, k.deep, .inl ⟨hk, rfl⟩⟩
    · obtain ⟨c1, c2, c3, c4, c5⟩ := h.redeps k.hm hk hx1 k.hT k.kT (k.loop hk) k.deep (k.high hk)
      exact ⟨redep t.nodes dep e.ino to, by rw [c5]; exact k.deep, .inr ⟨hk, c1, c2, c3, c4⟩⟩
  obtain ⟨dep', hd12, hcase⟩ := hcase
  refine ⟨dep', ?_⟩
  cases hfr : findE dT.ents nm with
  | none =>
    have hu : underN dT.ents nm = 0 := by simp [underN, hfr]
    rw [hu]
    exact h.move0 k.hF k.he k.hT k.kT hfr (hs k.hn) k.hm k.ne hd12 k.cookie hcase
  | some e2 =>
    have hu : underN dT.ents nm = e2.ino := by simp [underN, hfr]
    rw [hu]
    obtain ⟨q1, y, q2, q3, q4, q5, q6⟩ := k.onto e2 hfr
    have h1 := h.un k.hT hfr q2 q3
    have a2 := leftN_asc h.srt.asc to nm
    have f2 := find_leftN h.srt.asc k.hT (s := nm)
    have hy1 : find (leftN t.nodes to nm) e2.ino = some y := by rw [f2, if_neg q6]; exact q2
    have f4 : ∀ i, find (unnamedN (leftN t.nodes to nm) e2.ino) i = if i = e2.ino then lessN y else if i = to then some { dT with ents := dropE dT.ents nm } else find t.nodes i := by
      intro i
      rw [find_unnamedN a2 hy1, f2]
    have hnn : nodeN (unnamedN (leftN t.nodes to nm) e2.ino) e.ino = nodeN t.nodes e.ino := by
      simp only [nodeN]
      rw [f4, if_neg (fun hh => q1 hh.symm), if_neg k.ne]
    have hy0 := (h.num _ _ q2).1
    have hmv : moveN t f s to nm e.ino e2.ino = moveN ⟨unnamedN (leftN t.nodes to nm) e2.ino, t.next, t.cookie⟩ f s to nm e.ino 0 := by
      unfold moveN
      simp only [hnn]
      rw [un_first h.srt.asc k.hF k.hT q2 q5 q6]
      have e1 : (e2.ino != 0) = true := by simp; omega
      simp only [e1, bne_self_eq_false, Bool.false_eq_true, ↓reduceIte]
    rw [hmv]
    have hsn : to = f → s ≠ nm := fun hh hsn => by
      subst hh; subst hsn
      have := k.hF; rw [k.hT] at this; injection this with this; subst this
      have := k.he; rw [hfr] at this; injection this with this; subst this
      exact q1 rfl
    obtain ⟨dF', g1, g2⟩ : ∃ dF', find (unnamedN (leftN t.nodes to nm) e2.ino) f = some dF' ∧ findE dF'.ents s = some e := by
      rw [f4, if_neg (fun hh => q5 hh.symm)]
      split
      · rename_i hh
        refine ⟨_, rfl, ?_⟩
        rw [findE_dropE_ne (hsn hh.symm)]
        subst hh
        have := k.hF; rw [k.hT] at this; injection this with this; subst this
        exact k.he
      · exact ⟨dF, k.hF, k.he⟩
    have back : ∀ i n, find (unnamedN (leftN t.nodes to nm) e2.ino) i = some n → n.kind = 2 → ∃ n0, find t.nodes i = some n0 ∧ n0.kind = 2 ∧ n0.up = n.up ∧ (n0.ents = [] → n.ents = []) := by
      intro i n hi hk
      rw [f4] at hi
      split at hi
      · unfold lessN at hi
        split at hi
        · cases hi
        · rename_i hh
          injection hi with hi; subst hi
          simp only at hk
          simp [hk] at hh
      · split at hi
        · rename_i hh; subst hh
          injection hi with hi; subst hi
          exact ⟨dT, k.hT, hk, rfl, fun h0 => by simp [h0, dropE]⟩
        · exact ⟨n, hi, hk, rfl, fun h0 => h0⟩
    refine h1.move0 (dep' := dep') g1 g2 (dT := { dT with ents := dropE dT.ents nm }) ?_ k.kT (findE_dropE _ _) (hs k.hn) (m := m) ?_ k.ne hd12 k.cookie ?_
    · simp only; rw [f4, if_neg (fun hh => q6 hh.symm), if_pos rfl]
    · simp only; rw [f4, if_neg (fun hh => q1 hh.symm), if_neg k.ne]; exact k.hm
    · rcases hcase with hc | ⟨hk, c1, c2, c3, c4⟩
      · exact .inl hc
      · refine .inr ⟨hk, c1, ?_, c3, ?_⟩
        · intro i n hi hk2 hi1 hie
          obtain ⟨n0, b1, b2, b3, _⟩ := back i n hi hk2
          rw [← b3]; exact c2 i n0 b1 b2 hi1 hie
        · intro i n hi hk2
          obtain ⟨n0, b1, b2, _, b4⟩ := back i n hi hk2
          exact ⟨(c4 i n0 b1 b2).1, fun h12 => b4 ((c4 i n0 b1 b2).2 h12)⟩
end Go.Proofs.YtnapockikkbkcaaGreat
namespace Go.Proofs.YtnapockikkbkcaaGreat
open Go Go.Abs
theorem GInv.zero {t : Tree} {dep : Int → Nat} {x : Int} (h : GInv t dep x) : find t.nodes 0 = none := by
  cases hz : find t.nodes 0 with
  | none => rfl
  | some m => have := h.num _ _ hz; omega
theorem mvN_cases {t : Tree} {dep : Int → Nat} (h : GInv t dep 0) (f : Int) (s : Bytes) (to : Int) (nm : Bytes) :
    ((mvN t f s to nm).1 = t ∧ (mvN t f s to nm).2.1 = 0 ∧ (mvN t f s to nm).2.2 ≠ 0) ∨
    (mvN t f s to nm = (t, 0, 0) ∧ ∃ dF dT e e2, find t.nodes f = some dF ∧ dF.kind = 2 ∧ nameOk s = true ∧ findE dF.ents s = some e ∧ lookN t.nodes f s = (e.ino, 0) ∧ find t.nodes to = some dT ∧ dT.kind = 2 ∧ nameOk nm = true ∧ findE dT.ents nm = some e2 ∧ e2.ino = e.ino) ∨
    ∃ dF dT m e, MvOk t dep f s to nm dF dT m e ∧ nameOk s = true ∧ lookN t.nodes f s = (e.ino, 0) ∧ mvN t f s to nm = (moveN t f s to nm e.ino (underN dT.ents nm), underN dT.ents nm, 0) := by
  unfold mvN
  split
  · rename_i c1; exact .inl ⟨rfl, rfl, by simpa using c1⟩
  rename_i c1
  split
  · rename_i c2; exact .inl ⟨rfl, rfl, by simpa using c2⟩
  rename_i c2
  split
  · exact .inl ⟨rfl, rfl, by simp⟩
  rename_i c3
  obtain ⟨dF, e, e1, e2, e3, e4, e5⟩ := look_ok (by simpa using c1)
  obtain ⟨dT, g1, g2, g3⟩ := dir_ok (show (dirN t.nodes to).2 = 0 by simpa using c2)
  have hem := (findE_mem e4).1
  obtain ⟨_, _, x1, _, m, hm, hup⟩ := h.ent _ _ e e1 hem
  have hnode : nodeN t.nodes e.ino = m := by simp [nodeN, hm]
  simp only [e5, g3, hnode]
  split
  · rename_i c4
    right; left
    refine ⟨rfl, dF, dT, e, ?_⟩
    have c4' : underN dT.ents nm = e.ino := by simpa using c4
    cases hfr : findE dT.ents nm with
    | none => simp only [underN, hfr] at c4'; have := (h.num _ _ hm).1; omega
    | some e2' => simp only [underN, hfr] at c4'; exact ⟨e2', e1, e2, e3, e4, rfl, g1, g2, by simpa using c3, rfl, c4'⟩
  rename_i c4
  split
  · exact .inl ⟨rfl, rfl, by simp⟩
  rename_i c5
  split
  · rename_i c6; exact .inl ⟨rfl, rfl, by simpa using c6⟩
  rename_i c6
  split
  · exact .inl ⟨rfl, rfl, by simp⟩
  rename_i c7
  right; right
  have hdt := h.depthN_eq g1 g2
  simp only [manyN, hdt, Bool.or_eq_true, Bool.and_eq_true, beq_iff_eq, decide_eq_true_eq, not_or, not_and, bne_iff_ne] at c7
  obtain ⟨r1, r2, r3, r4⟩ := c7
  have hw : w64 (((dep to : Nat) : Int) + 1) = ((dep to + 1 : Nat) : Int) := by
    have := (h.deep _ _ g1 g2).1
    rw [show (((dep to : Nat) : Int) + 1) = ((dep to + 1 : Nat) : Int) by omega]
    exact wrap_small (by omega) (by omega)
  rw [hw] at r3
  have hnf := h.ent_ne e1 hem
  have hne : e.ino ≠ to := fun hh => by
    rw [hh, g1] at hm; injection hm with hm; subst hm
    simp only [g2, beq_self_eq_true, Bool.true_and] at c5
    rw [hh, GInv.below_self] at c5
    exact c5 rfl
  refine ⟨dF, dT, m, e, ⟨e1, e2, e4, g1, g2, by simpa using c3, hm, hne, hnf, ?_, by omega, ?_, by omega, ?_, ?_⟩, e3, rfl, rfl⟩
  · intro hk
    simpa [hk] using c5
  · intro hk
    have := r3 hk; omega
  · intro hfr hne
    have hu : underN dT.ents nm = 0 := by simp [underN, hfr]
    have := r1 ⟨hu, hne⟩
    omega
  · intro e2' hfr
    have hu : underN dT.ents nm = e2'.ino := by simp [underN, hfr]
    rw [hu] at c4 c6
    obtain ⟨_, _, _, _, y, hy, _⟩ := h.ent _ _ e2' g1 (findE_mem hfr).1
    have hny : nodeN t.nodes e2'.ino = y := by simp [nodeN, hy]
    have hto := h.ent_ne g1 (findE_mem hfr).1
    simp only [clashN, hy, Option.isSome_some, Bool.not_true, Bool.false_eq_true, ↓reduceIte, hny, bne_iff_ne, ne_eq, Decidable.not_not] at c6
    split at c6
    · cases c6
    · rename_i k1
      split at c6
      · cases c6
      · rename_i k2
        split at c6
        · cases c6
        · rename_i k3
          have hy0 : y.ents = [] := List.length_eq_zero_iff.1 (by simpa using k3)
          refine ⟨by simpa using c4, y, hy, hy0, ?_, ?_, hto⟩
          · simp at k1 k2
            constructor
            · exact k1
            · intro hy2
              rcases h.kind _ _ hm with hk | hk
              · exact absurd hy2 (k2 (by omega))
              · exact hk
          · intro hh
            rw [hh, e1] at hy; injection hy with hy; subst hy
            rw [hy0] at hem; cases hem
theorem mvN_inv {t : Tree} {dep : Int → Nat} (h : GInv t dep 0) (f : Int) (s : Bytes) (to : Int) (nm : Bytes) (hs : nameOk nm = true → Nm nm) : ∃ dep', GInv (mvN t f s to nm).1 dep' 0 := by
  rcases mvN_cases h f s to nm with ⟨h1, _⟩ | ⟨h1, _⟩ | ⟨dF, dT, m, e, k, _, _, hk⟩
  · rw [h1]; exact ⟨dep, h⟩
  · rw [h1]; exact ⟨dep, h⟩
  · rw [hk]; exact h.mv hs k
theorem doneN_inv {t : Tree} {dep : Int → Nat} (h : GInv t dep 0) (s : Step) : ∃ dep', GInv (doneN t s).1 dep' 0 := by
  unfold doneN
  split
  · exact addN_inv h _ _ _ (nameOf_nm _)
  split
  · exact ⟨dep, lnN_inv h _ _ _ (nameOf_nm _)⟩
  split
  · exact ⟨dep, unN_inv h _ _⟩
  split
  · exact mvN_inv h _ _ _ _ (nameOf_nm _)
  split
  · exact ⟨dep, putN_inv h _ _⟩
  · exact ⟨dep, freeN_inv h _⟩
theorem newN_inv : GInv newN (fun _ => 0) 0 := by
  have hf : ∀ i n, find newN.nodes i = some n → i = 1 ∧ n = ⟨1, 2, 0, [], [], 1⟩ := by
    intro i n hi
    obtain ⟨h1, h2⟩ := find_mem hi
    simp [newN] at h1
    subst h1
    exact ⟨h2.symm, rfl⟩
  refine ⟨⟨?_, ?_⟩, ⟨_, rfl, rfl, rfl⟩, ?_, ?_, ?_, ?_, ?_, ?_, ?_, ?_, rfl, ?_, ?_, by simp [newN], by simp [newN], by simp [newN]⟩
  · simp [newN, Asc]
  · intro n hn; simp [newN] at hn; subst hn; exact List.Pairwise.nil
  · intro i n hi; obtain ⟨rfl, rfl⟩ := hf i n hi; simp [newN]
  · intro i n hi; obtain ⟨rfl, rfl⟩ := hf i n hi; simp
  · intro i n hi; obtain ⟨rfl, rfl⟩ := hf i n hi; simp
  · intro i n hi; obtain ⟨rfl, rfl⟩ := hf i n hi; simp
  · intro i n e hi he; obtain ⟨rfl, rfl⟩ := hf i n hi; cases he
  · intro i n hi; obtain ⟨rfl, rfl⟩ := hf i n hi; exact List.Pairwise.nil
  · intro i n hi; obtain ⟨rfl, rfl⟩ := hf i n hi; simp [newN, cnt, cntE]
  · intro i n hi _ h1; exact absurd (hf i n hi).1 h1
  · intro i n hi _ h1; exact absurd (hf i n hi).1 h1
  · intro i n hi; obtain ⟨rfl, rfl⟩ := hf i n hi; simp
theorem madeN_inv (l : List Step) : ∃ dep, GInv (madeN l) dep 0 := by
  have key : ∀ (l : List Step) (t : Tree), (∃ dep, GInv t dep 0) → ∃ dep, GInv (l.foldl (fun t s => (doneN t s).1) t) dep 0 := by
    intro l
    induction l with
    | nil => intro t h; exact h
    | cons s l ih =>
      rintro t ⟨dep, h⟩
      exact ih _ (doneN_inv h s)
  exact key l _ ⟨_, newN_inv⟩
end Go.Proofs.YtnapockikkbkcaaGreat
namespace Go.Proofs.YtnapockikkbkcaaGreat
open Go Go.Abs Go.RowKit Go.Shelf
def SeqStopsC {α : Type} (b0 : Nat) (F : Fence) (n : Nat) (P : Program) (g : Nat) (lb : Array Value) (encs : α → Array Value) (Kp : World → World → Prop) (S Sp : List α → Prop) (N : Nat) (w : World) : Prop :=
  ∀ (l : Nat) (J Jx : List α → World → Prop) (W : World), Below w.heap.size w W → AbidesFrom W.heap.size J → AbidesFrom W.heap.size Jx → (∀ s A v, J s A → J s (A.setCell ⟨b0, 0, none⟩ v)) →
    (∀ pre x W1, J pre W1 → pre.length < N → YieldAt F (n - 1) P l (encs x) W1 fun e W' =>
      (e = .returned (.bool true) ∧ J (pre ++ [x]) W' ∧ Kp W1 W') ∨ (e = .returned (.bool false) ∧ Jx (pre ++ [x]) W')) →
    J [] W →
    CallsIn F n P g (#[.func (.yield l) #[] #[]] ++ lb) W fun e W' => (∃ v, e = .returned v) ∧ ((∃ xs, S xs ∧ J xs W') ∨ (∃ pre, Sp pre ∧ Jx pre W'))
theorem wpIn_rangeFunc_ownC {F : Fence} {n : Nat} {P : Program} {b0 : Nat} {α : Type} {g : Operand} {ps : Array Tmp} {assign body : Code} {Q : Exit → Act → World → Prop} {a : Act} {w : World} (hb0w : b0 < w.heap.size)
    (hro : F.round = none) (h1 : 1 ≤ n) {gf : Nat} {lb : Array Value} (hg : a.eval g = .func (.func gf) #[] lb) (hFg : F.fn gf) (eg : ∀ args w, (callFunc gf args).run P w = .ok (.enter gf args) w)
    {encs : α → Array Value} {Kp : World → World → Prop} {S Sp : List α → Prop} {N : Nat} {w0 : World} (hseq : SeqStopsC b0 F (n - 1) P gf lb encs Kp S Sp N w0)
    (hKt : ∀ {A B C : World}, Kp A B → Kp B C → Kp A C) (hKb : ∀ (W : World) (l : Nat) (o o' : Obj), w.heap.size ≤ l → W.heap[l]? = some o → o.isCells = false → o.isWalk = false → Kp W (W.putObj l o')) (hb0 : Below w0.heap.size w0 w) (hps : ∀ x, (encs x).size = ps.size)
    (I : List α → World → Prop) (Ix : Code → List α → World → Prop) (hI : OwnFrom w.heap.size I) (hIx : ∀ c, OwnFrom w.heap.size (Ix c)) (hIc : ∀ s A v, I s A → I s (A.setCell ⟨b0, 0, none⟩ v)) (h0 : I [] w) (a₁ : α → Act)
    (hassign : ∀ (l : Nat) (x : α) (W : World) (K : Act → World → Prop), K (a₁ x) W →
      assign.wpIn (F.inRound l) (n - 1 - 1) P (Exit.then K (fun _ _ _ => False)) { tmps := (ps.zip (encs x)).foldl (fun t (p, v) => t.setIfInBounds p v) a.tmps, defers := [] } W)
    (hbody : ∀ (l : Nat) (pre : List α) (x : α) (W : World), I pre W → pre.length < N → body.wpIn (F.inRound l) (n - 1 - 1) P (ownPostK Kp I Ix (pre ++ [x]) W) (a₁ x) W)
    (hdone : ∀ (D : Nat) (xs : List α) (W : World), w.heap.size ≤ D → S xs → I xs W → W.heap[D]? = some (.deferred (some [])) → Q .normal { a with defers := { target := .collected D, args := #[] } :: a.defers } W)
    (hstop : ∀ (D : Nat) (c : Code) (pre : List α) (W : World), w.heap.size ≤ D → Sp pre → Ix c pre W → W.heap[D]? = some (.deferred (some [])) → c.wpIn F n P Q { a with defers := { target := .collected D, args := #[] } :: a.defers } W) :
    (Code.rangeFunc g ps assign body).wpIn F n P Q a w := by
  refine wpIn_rangeFunc ?_
  intro fn hfn
  rw [hro]
  obtain ⟨rec, hrec⟩ : ∃ rec : LoopState → Option Code → Loop, rec = fun st pe => { state := st, pending := pe, fn, tmps := a.tmps, params := ps, assign, body, defers := w.heap.size } := ⟨_, rfl⟩
  obtain ⟨W1, hW1⟩ : ∃ W1, (w.alloc (.deferred (some []))).alloc (.loop (rec .ready none)) = W1 := ⟨_, rfl⟩
  have hL1 : W1.heap[w.heap.size + 1]? = some (.loop (rec .ready none)) := by
    rw [← hW1]; have := World.alloc_heap_new (w.alloc (.deferred (some []))) (.loop (rec .ready none)); rwa [World.size_alloc] at this
  have hK1 : W1.heap[w.heap.size]? = some (.deferred (some [])) := by
    rw [← hW1]; exact (Below.heap_alloc _ _ _ (by simp)).trans (World.alloc_heap_new w _)
  have hI1 : I [] W1 := by rw [← hW1]; exact hI.alloc _ (hI.alloc _ h0)
  have hb1 : Below w0.heap.size w0 W1 := by
    rw [← hW1]; exact hb0.trans ((((Below.refl _ w).alloc (Nat.le_refl _) _).alloc (by simp) _).mono hb0.size)
  refine ⟨w.heap.size + 1, [{ target := .collected w.heap.size, args := #[] }], W1, { target := .fn (.func gf) lb, args := #[.func (.yield (w.heap.size + 1)) #[] #[]] }, W1, gf,
    #[.func (.yield (w.heap.size + 1)) #[] #[]] ++ lb, W1, ?_, ?_, ?_, ?_, fun _ => h1, ?_⟩
  · rw [← hW1, hrec]; exact run_enterLoop_outer _ _ _ _ _
  · simp only [resolve, hg]
    simp [go_sem]
  · intro f' hf'; simp [Target.leads] at hf'; subst hf'; exact hFg
  · simp [invoke, go_sem, eg]
  · have hnw : ∀ {A B : World} {row : Option Nat}, (∀ r, row = some r → W1.heap.size ≤ r ∧ ∃ o : Obj, A.heap[r]? = some o ∧ o.isWalk = true) → (∀ r, row = some r → w.heap.size ≤ r ∧ ∃ o : Obj, A.heap[r]? = some o ∧ o.isCells = false) :=
      fun hr r e => by obtain ⟨hB, o, ho, hw⟩ := hr r e; exact ⟨by rw [← hW1] at hB; simp at hB; omega, o, ho, Obj.not_cells_of_walk hw⟩
    refine (hseq (w.heap.size + 1)
      (fun pre W => I pre W ∧ W.heap[w.heap.size + 1]? = some (.loop (rec .ready none)) ∧ W.heap[w.heap.size]? = some (.deferred (some [])))
      (fun pre W => ∃ c, Ix c pre W ∧ W.heap[w.heap.size + 1]? = some (.loop (rec .done (some c))) ∧ W.heap[w.heap.size]? = some (.deferred (some [])))
      W1 hb1
      (fun s A B row hs hg' hr => ⟨hI s A B row hs.1 hg' (hnw (B := B) hr), (grownBy_keeps hg' (fun r e => (hr r e).2) hs.2.1 rfl).trans hs.2.1, (grownBy_keeps hg' (fun r e => (hr r e).2) hs.2.2 rfl).trans hs.2.2⟩)
      (fun s A B row hs hg' hr => by
        obtain ⟨c, hc, hl, hk⟩ := hs
        exact ⟨c, hIx c s A B row hc hg' (hnw (B := B) hr), (grownBy_keeps hg' (fun r e => (hr r e).2) hl rfl).trans hl, (grownBy_keeps hg' (fun r e => (hr r e).2) hk rfl).trans hk⟩)
      (fun s A v hs => ⟨hIc s A v hs.1, (Below.heap_setCell _ _ _ _ (by show _ ≠ b0; omega)).trans hs.2.1, (Below.heap_setCell _ _ _ _ (by show _ ≠ b0; omega)).trans hs.2.2⟩)
      ?_ ⟨hI1, hL1, hK1⟩).mono ?_
    · rintro pre x W ⟨hi, hl, hk⟩ hlen
      have hlt : w.heap.size + 1 < W.heap.size := (Array.getElem?_eq_some_iff.1 hl).1
      have hy := run_yield (P := P) (args := encs x) hl (by rw [hrec]; exact hps x)
      rw [hrec] at hy
      refine ⟨fn, _, assign, body, hy, roundIn_of_wpIn hfn (hassign _ x W _ ⟨_, run_beginRound hl (by rw [hrec]), ?_⟩)⟩
      have hl2 : (W.putObj (w.heap.size + 1) (.loop { rec .ready none with state := .busy })).heap[w.heap.size + 1]? = some (.loop { rec .ready none with state := .busy }) := World.putObj_heap_same hlt
      have hk2 : (W.putObj (w.heap.size + 1) (.loop { rec .ready none with state := .busy })).heap[w.heap.size]? = some (.deferred (some [])) := (World.putObj_heap_other (by omega)).trans hk
      have hw2 : Kp W (W.putObj (w.heap.size + 1) (.loop { rec .ready none with state := .busy })) := hKb _ _ _ _ (by omega) hl rfl rfl
      refine wpIn_mono (hbody _ pre x _ (hI.putObj _ hi (by omega) hl rfl) hlen) ?_
      have fin : ∀ (jump : Option Code) (W3 : World), KeepsOthers (W.putObj (w.heap.size + 1) (.loop { rec .ready none with state := .busy })) W3 →
          (Instr.endRound (w.heap.size + 1) jump).run P W3 = .ok (.bool jump.isNone) (W3.putObj (w.heap.size + 1) (.loop (rec (if jump.isNone then .ready else .done) jump))) ∧
          W3.heap[w.heap.size + 1]? = some (.loop { rec .ready none with state := .busy }) ∧
          (W3.putObj (w.heap.size + 1) (.loop (rec (if jump.isNone then .ready else .done) jump))).heap[w.heap.size + 1]? = some (.loop (rec (if jump.isNone then .ready else .done) jump)) ∧
          (W3.putObj (w.heap.size + 1) (.loop (rec (if jump.isNone then .ready else .done) jump))).heap[w.heap.size]? = some (.deferred (some [])) := fun jump W3 hk3 => by
        have hl3 := hk3.same _ _ hl2 rfl
        have := run_endRound (P := P) jump hl3
        rw [hrec] at this ⊢
        exact ⟨this, by rw [hrec] at hl3; exact hl3, World.putObj_heap_same (Array.getElem?_eq_some_iff.1 hl3).1, (World.putObj_heap_other (by omega)).trans (hk3.same _ _ hk2 rfl)⟩
      rintro e a3 W3 hp
      cases e with
      | normal =>
        obtain ⟨hk3, hkp3, hi3⟩ := hp
        obtain ⟨hr, hl3, hl4, hk4⟩ := fin none W3 hk3
        exact ⟨_, _, hr, .inl ⟨rfl, ⟨hI.putObj _ hi3 (by omega) hl3 rfl, hl4, hk4⟩, hKt (hKt hw2 hkp3) (hKb _ _ _ _ (by omega) hl3 rfl rfl)⟩⟩
      | ret =>
        obtain ⟨hk3, hi3⟩ := hp
        obtain ⟨hr, hl3, hl4, hk4⟩ := fin (some .ret) W3 hk3
        exact ⟨_, _, hr, .inr ⟨rfl, .ret, (hIx _).putObj _ hi3 (by omega) hl3 rfl, hl4, hk4⟩⟩
      | exit id =>
        obtain ⟨hk3, hi3⟩ := hp
        obtain ⟨hr, hl3, hl4, hk4⟩ := fin (some (.exit id)) W3 hk3
        exact ⟨_, _, hr, .inr ⟨rfl, .exit id, (hIx _).putObj _ hi3 (by omega) hl3 rfl, hl4, hk4⟩⟩
      | goto t =>
        obtain ⟨hk3, hi3⟩ := hp
        obtain ⟨hr, hl3, hl4, hk4⟩ := fin (some (.goto t)) W3 hk3
        exact ⟨_, _, hr, .inr ⟨rfl, .goto t, (hIx _).putObj _ hi3 (by omega) hl3 rfl, hl4, hk4⟩⟩
      | panic ch => exact hp.elim
      | outgrown => exact hp.elim
    · rintro e W2 ⟨⟨v, rfl⟩, (⟨xs, hS, hi, hl, hk⟩ | ⟨pre, hSp, c, hi, hl, hk⟩)⟩
      · exact ⟨none, _, by have := run_endLoop (P := P) hl (by rw [hrec]; simp); rw [hrec] at this; exact this, hdone _ xs _ (Nat.le_refl _) hS (hI.putObj _ hi (by omega) hl rfl) ((World.putObj_heap_other (by omega)).trans hk)⟩
      · exact ⟨some c, _, by have := run_endLoop (P := P) hl (by rw [hrec]; simp); rw [hrec] at this; exact this, hstop _ c pre _ (Nat.le_refl _) hSp ((hIx c).putObj _ hi (by omega) hl rfl) ((World.putObj_heap_other (by omega)).trans hk)⟩
def jNone : J := ⟨fun _ => none, fun _ _ => False⟩
theorem rel_none (w : World) : Rel jNone [] w where
  inj := fun _ _ _ h => by cases h
  lt := fun _ _ h => by cases h
  fix := fun _ _ h => by cases h
  tick := fun _ _ _ _ h => by cases h
  arr := fun _ _ _ _ h => by cases h
  xdis := fun _ _ h => by cases h
  xlt := fun _ _ h => h.elim
theorem plain_call {f : Nat} {args : List AVal} {r : AVal} (h : acall tab f args [] = some (r, [])) (w : World) (vs : Array Value) (hl : args.length = vs.size) (hv : ∀ (i : Nat) (c : AVal) (v : Value), args[i]? = some c → vs[i]? = some v → Rep jNone [] w c v) :
    Calls Tryz.prog f vs w fun e w' => ∃ v j', e = .returned v ∧ w.grownBy w' none ∧ Rep j' [] w' r v := by
  refine ((sound f args [] _ h).2 jNone w vs (rel_none w) hl hv).mono ?_
  rintro e w' ⟨v, j', rfl, _, hx, hr⟩
  exact ⟨v, j', rfl, ⟨hx.os, hx.tape, hx.output, hx.size, fun k hk _ => (hx.old k hk fun i hi => by cases hi).1⟩, hr⟩
theorem right41 (s : Bytes) (hs : s.length ≤ 100000) (ha : Ascii s) (w : World) : Calls Tryz.prog 41 #[.string (bs s)] w fun e w' => e = .returned (.bool (nameOk s)) ∧ w.grownBy w' none := by
  refine (plain_call (c41 s hs ha) w #[.string (bs s)] rfl ?_).mono ?_
  · intro i c v h1 h2
    match i with
    | 0 => cases h1; cases h2; exact .plain (.str _)
    | i + 1 => cases h1
  · rintro e w' ⟨v, j', rfl, hg, hr⟩
    rw [hr.bool_inv]
    exact ⟨rfl, hg⟩
set_option maxHeartbeats 1000000 in
set_option maxRecDepth 100000 in
theorem index141 (a : ByteArray) (c : Int) (w : World) :
    Calls Tryz.prog 141 #[.string a, .int .u8 c] w fun e w' => e = .returned (.int .i64 (Lib.indexByte a.data.toList c.toNat.toUInt8)) ∧ w' = w := by
  go_enter Tryz.func141, Tryz.ntmps141
  go_wp2
  rw [run_callFunc_extern Tryz.func146 (by kernel_rfl) (by kernel_rfl) (by kernel_rfl) (e := Extern.BytealgIndexByte.indexByte) (by kernel_rfl), Lib.run_indexByteString]
  simp only [Result.andThen]
  rw [Oper.upon_value]
  go_wp2
  go_ret
  exact ⟨rfl, rfl⟩
set_option maxHeartbeats 1000000 in
set_option maxRecDepth 100000 in
theorem index131 (a : ByteArray) (c : Int) (w : World) :
    Calls Tryz.prog 131 #[.string a, .int .u8 c] w fun e w' => e = .returned (.int .i64 (Lib.indexByte a.data.toList c.toNat.toUInt8)) ∧ w' = w := by
  go_enter Tryz.func131, Tryz.ntmps131
  go_wp2_with (go_at_call 141; refine (index141 _ _ _).mono ?_; rintro e w' ⟨rfl, rfl⟩)
  go_ret
  exact ⟨rfl, rfl⟩
end Go.Proofs.YtnapockikkbkcaaGreat
namespace Go.Proofs.YtnapockikkbkcaaGreat
open Go Go.Abs Go.RowKit Go.Shelf
section ev
attribute [local irreducible] exK opsK opK gK forkK kr acall callOp owhen obind
def cutS : Bytes → Bytes × Bool
  | b :: r => if b = 47 then (r, true) else (b :: r, false)
  | [] => ([], false)
def hasS : Bytes → Bool
  | b :: _ => b == 47
  | [] => false
theorem c145 (s : Bytes) : acall tab 145 [.str s, .str [47]] [] = some (.bool (hasS s), []) := by
  refine acall_ex rfl rfl rfl ?_
  cases s with
  | nil =>
    have h0 : decide (((1 : Nat) : Int) ≤ ((0 : Nat) : Int)) = false := by decide
    simp only [fn145, E145, h0, EVT, EVD, ↓reduceIte, Nat.reduceEqDiff, reduceCtorEq, Nat.reduceAdd, Nat.reduceLeDiff, ne_eq, Nat.reduceLT, Int.reduceLT, Int.reduceLE, Int.reduceNeg]
    simp only [hasS, E145, h0, EVT, EVD, ↓reduceIte, Nat.reduceEqDiff, reduceCtorEq, Nat.reduceAdd, Nat.reduceLeDiff, ne_eq, Nat.reduceLT, Int.reduceLT, Int.reduceLE, Int.reduceNeg]
  | cons b r =>
    have h1 : (1 : Int) ≤ (r.length : Int) + 1 := by omega
    simp only [fn145, E145, EVT, EVD, ↓reduceIte, Nat.reduceEqDiff, reduceCtorEq, Nat.reduceAdd, Nat.reduceLeDiff, ne_eq, Nat.reduceLT, Int.reduceLT, Int.reduceLE, Int.reduceNeg]
    simp [hasS, h1, boundOf, E145, EVT, EVD, ↓reduceIte, Nat.reduceEqDiff, reduceCtorEq, Nat.reduceAdd, Nat.reduceLeDiff, ne_eq, Nat.reduceLT, Int.reduceLT, Int.reduceLE, Int.reduceNeg]
    try (cases hb : (b == 47) <;> simp_all)
theorem k145 (s : Bytes) (M : AMem) : callOp (acall tab) 145 [.str s, .str [47]] M = some (.bool (hasS s), M) := callOp0 (c145 s) rfl rfl rfl rfl rfl M
theorem c140 (s : Bytes) : acall tab 140 [.str s, .str [47]] [] = some (.tuple [.str (cutS s).1, .bool (cutS s).2], []) := by
  refine acall_ex rfl rfl rfl ?_
  simp only [fn140, E140, k145, EVT, EVD, ↓reduceIte, Nat.reduceEqDiff, reduceCtorEq, Nat.reduceAdd, Nat.reduceLeDiff, ne_eq, Nat.reduceLT, Int.reduceLT, Int.reduceLE, Int.reduceNeg]
  cases s with
  | nil => simp only [hasS, E140, k145, EVT, EVD, ↓reduceIte, Nat.reduceEqDiff, reduceCtorEq, Nat.reduceAdd, Nat.reduceLeDiff, ne_eq, Nat.reduceLT, Int.reduceLT, Int.reduceLE, Int.reduceNeg]; rfl
  | cons b r =>
    by_cases hb : b = 47
    · have h1 : (1 : Int) ≤ (r.length : Int) + 1 := by omega
      have h2 : (0 : Int) ≤ (r.length : Int) + 1 := by omega
      simp [hasS, hb, E140, cutS, boundOf, h1, h2, EVT, EVD, ↓reduceIte, Nat.reduceEqDiff, reduceCtorEq, Nat.reduceAdd, Nat.reduceLeDiff, ne_eq, Nat.reduceLT, Int.reduceLT, Int.reduceLE, Int.reduceNeg]
    · have hb' : (b == 47) = false := by simpa using hb
      simp only [hasS, hb', E140, EVT, EVD, ↓reduceIte, Nat.reduceEqDiff, reduceCtorEq, Nat.reduceAdd, Nat.reduceLeDiff, ne_eq, Nat.reduceLT, Int.reduceLT, Int.reduceLE, Int.reduceNeg]
      simp [cutS, hb]
theorem k140 (s : Bytes) (M : AMem) : callOp (acall tab) 140 [.str s, .str [47]] M = some (.tuple [.str (cutS s).1, .bool (cutS s).2], M) := callOp0 (c140 s) rfl rfl rfl rfl rfl M
theorem c130 (s : Bytes) : acall tab 130 [.str s, .str [47]] [] = some (.tuple [.str (cutS s).1, .bool (cutS s).2], []) := by
  refine acall_ex rfl rfl rfl ?_
  simp only [fn130, E130, k140, EVT, EVD, ↓reduceIte, Nat.reduceEqDiff, reduceCtorEq, Nat.reduceAdd, Nat.reduceLeDiff, ne_eq, Nat.reduceLT, Int.reduceLT, Int.reduceLE, Int.reduceNeg]
end ev
theorem cut130 (s : Bytes) (w : World) : Calls Tryz.prog 130 #[.string (bs s), .string ⟨#[47]⟩] w fun e w' => e = .returned (.tuple #[.string (bs (cutS s).1), .bool (cutS s).2]) ∧ w.grownBy w' none := by
  refine (plain_call (c130 s) w #[.string (bs s), .string ⟨#[47]⟩] rfl ?_).mono ?_
  · intro i c v h1 h2
    match i with
    | 0 => cases h1; cases h2; exact .plain (.str _)
    | 1 => cases h1; cases h2; exact .plain (.str [47])
    | i + 2 => cases h1
  · rintro e w' ⟨v, j', rfl, hg, hr⟩
    obtain ⟨vs, rfl, hl, hv⟩ := hr.tuple_inv
    obtain ⟨l⟩ := vs
    match l, hl with
    | [u1, u2], _ =>
      rw [(hv 0 _ u1 rfl rfl).str_inv, (hv 1 _ u2 rfl rfl).bool_inv]
      exact ⟨rfl, hg⟩
def endS (s : Bytes) : Nat := if Lib.indexByte s 47 < 0 then s.length else (Lib.indexByte s 47).toNat
def pieceS (s : Bytes) : Bytes × Bool := ((cutS s).1.take (endS (cutS s).1), (cutS s).2)
def restS (s : Bytes) : Bytes := (cutS s).1.drop (endS (cutS s).1)
def piecesN : Nat → Bytes → List (Bytes × Bool)
  | 0, _ => []
  | n + 1, s => match s with
    | [] => []
    | b :: r => pieceS (b :: r) :: piecesN n (restS (b :: r))
theorem index_le (l : Bytes) (c : UInt8) : Lib.indexByte l c ≤ l.length := by
  induction l with
  | nil => simp [Lib.indexByte]
  | cons b r ih =>
    simp only [Lib.indexByte]
    split
    · simp; omega
    · split
      · simp; omega
      · simp; omega
theorem endS_le (s : Bytes) : endS s ≤ s.length := by
  unfold endS
  have := index_le s 47
  split <;> omega
theorem cutS_len (s : Bytes) : (cutS s).1.length ≤ s.length := by
  cases s with
  | nil => simp [cutS]
  | cons b r => simp only [cutS]; split <;> simp
theorem restS_lt {s : Bytes} (h : s ≠ []) : (restS s).length < s.length := by
  cases s with
  | nil => exact absurd rfl h
  | cons b r =>
    unfold restS
    rw [List.length_drop]
    by_cases hb : b = 47
    · have : cutS (b :: r) = (r, true) := by simp [cutS, hb]
      rw [this]; simp; omega
    · have e : cutS (b :: r) = (b :: r, false) := by simp [cutS, hb]
      rw [e]
      have : 0 < endS (b :: r) := by
        unfold endS
        have hb' : (b == 47) = false := by simpa using hb
        have hg := Lib.indexByte_ge r 47
        split
        · simp
        · rename_i hn
          simp only [Lib.indexByte, hb', Bool.false_eq_true, if_false] at hn ⊢
          split
          · rename_i he; simp [he] at hn
          · rename_i he
            have : Lib.indexByte r 47 ≠ -1 := by simpa using he
            omega
      simp only [List.length_cons]
      omega
theorem piecesN_more : ∀ (n m : Nat) (s : Bytes), s.length ≤ n → s.length ≤ m → piecesN n s = piecesN m s := by
  intro n
  induction n with
  | zero =>
    intro m s h _
    have : s = [] := by cases s with | nil => rfl | cons b r => simp at h
    subst this
    cases m <;> rfl
  | succ n ih =>
    intro m s h h'
    cases s with
    | nil => cases m <;> rfl
    | cons b r =>
      cases m with
      | zero => simp at h'
      | succ m =>
        have := restS_lt (s := b :: r) (by simp)
        simp only [piecesN]
        rw [ih m _ (by omega) (by omega)]
def piecesS (s : Bytes) : List (Bytes × Bool) := piecesN s.length s
theorem piecesS_cons {s : Bytes} (h : s ≠ []) : piecesS s = pieceS s :: piecesS (restS s) := by
  cases s with
  | nil => exact absurd rfl h
  | cons b r =>
    have := restS_lt (s := b :: r) (by simp)
    unfold piecesS
    rw [show (b :: r).length = r.length + 1 from rfl, piecesN]
    rw [piecesN_more r.length (restS (b :: r)).length _ (by simp at this; omega) (by omega)]
theorem mem_cutS {s : Bytes} {b : UInt8} (h : b ∈ (cutS s).1) : b ∈ s := by
  cases s with
  | nil => exact h
  | cons a r =>
    simp only [cutS] at h
    split at h
    · exact List.mem_cons_of_mem _ h
    · exact h
theorem ascii_piece {s : Bytes} (h : Ascii s) : Ascii (pieceS s).1 := fun b hb => h b (mem_cutS (List.mem_of_mem_take hb))
theorem ascii_rest {s : Bytes} (h : Ascii s) : Ascii (restS s) := fun b hb => h b (mem_cutS (List.mem_of_mem_drop hb))
theorem piece_len (s : Bytes) : (pieceS s).1.length ≤ s.length := by
  have := cutS_len s
  unfold pieceS
  rw [List.length_take]
  omega
abbrev PA := { x : Bytes × Bool // Ascii x.1 ∧ x.1.length ≤ 100000 }
abbrev encP (x : PA) : Array Value := #[.string (bs x.1.1), .bool x.1.2]
def cellLen (b0 : Nat) (w : World) : Nat := match w.cell? ⟨b0, 0, none⟩ with
  | some (.string s) => s.size
  | _ => 0
end Go.Proofs.YtnapockikkbkcaaGreat
namespace Go.Proofs.YtnapockikkbkcaaGreat
open Go Go.Abs Go.RowKit Go.Shelf
attribute [local go_sem] Oper.semAt_some
set_option maxHeartbeats 1000000 in
theorem pieces106 (n : Nat) (s : Bytes) (w : World) :
    CallsIn Fence.wide n Tryz.prog 106 #[.string (bs s)] w fun e w' => e = .returned (.func (.func 129) #[] #[.pointer (some ⟨w.heap.size, 0, none⟩)]) ∧ w' = w.alloc (.cells #[.string (bs s)] 9) := by
  refine callsIn_of_wp Tryz.func106 rfl trivial ?_ rfl
  simp only [Tryz.ntmps106, List.size_toArray, List.length_cons, List.length_nil, Nat.reduceAdd, Nat.reduceSub, Array.replicate_succ, Array.replicate_zero, List.push_toArray, List.append_toArray, List.nil_append, List.cons_append]
  gi_wp2
  go_ret
  exact ⟨rfl, rfl⟩
theorem bs_drop (c : Bytes) (n : Nat) : bs (c.drop n) = (bs c).extract n (bs c).size := by
  rw [bs_extract, show (bs c).size = c.length from rfl, List.take_length]
theorem cellLen_of {b0 : Nat} {w : World} {s : Bytes} (h : Boxed w b0 9 (.string (bs s))) : cellLen b0 w = s.length := by
  unfold cellLen
  rw [h.cell]
  rfl
set_option maxRecDepth 100000 in
set_option maxHeartbeats 1000000 in
theorem iter129 (n : Nat) (hn : 3 ≤ n) (l b0 N : Nat) (s0 : Bytes) (ha : Ascii s0) (hs : s0.length ≤ 100000) (hN : (piecesS s0).length ≤ N) (J Jx : List PA → World → Prop) (W : World) (hJ : AbidesFrom W.heap.size J) (hJc : ∀ s A v, J s A → J s (A.setCell ⟨b0, 0, none⟩ v))
    (hY : ∀ pre x W1, J pre W1 → pre.length < N → YieldAt Fence.wide (n - 1) Tryz.prog l (encP x) W1 fun e W' =>
      (e = .returned (.bool true) ∧ J (pre ++ [x]) W' ∧ W'.heap[b0]? = W1.heap[b0]?) ∨ (e = .returned (.bool false) ∧ Jx (pre ++ [x]) W'))
    (hB : Boxed W b0 9 (.string (bs s0))) (h0 : J [] W) :
    CallsIn Fence.wide n Tryz.prog 129 #[.func (.yield l) #[] #[], .pointer (some ⟨b0, 0, none⟩)] W fun e W' => (∃ v, e = .returned v) ∧
      ((∃ xs : List PA, xs.map (·.1) = piecesS s0 ∧ J xs W') ∨ (∃ pre : List PA, pre.map (·.1) <+: piecesS s0 ∧ Jx pre W')) := by
  refine callsIn_of_wp Tryz.func129 rfl trivial ?_ rfl
  simp only [Tryz.ntmps129, List.size_toArray, List.length_cons, List.length_nil, Nat.reduceAdd, Nat.reduceSub, Array.replicate_succ, Array.replicate_zero, List.push_toArray, List.append_toArray, List.nil_append, List.cons_append]
  gi_wp2
  gi_loopw [3] (fun _ wr => ∃ (pre : List PA) (rest : Bytes), Boxed wr b0 9 (.string (bs rest)) ∧ Ascii rest ∧ rest.length ≤ 100000 ∧ piecesS s0 = pre.map (·.1) ++ piecesS rest ∧ J pre wr)
    (fun _ wr => cellLen b0 wr)
  case atStart =>
    exact ⟨[], s0, hB, ha, hs, rfl, h0⟩
  case round =>
    obtain ⟨pre, rest, hb, hra, hrl, hp, hJs⟩ := hrel
    have hf := hb.frozen
    cases rest with
    | nil =>
      have hc : wr.cell? ⟨b0, 0, none⟩ = some (.string ⟨#[]⟩) := hb.cell
      gi_wp2
      go_end0
      exact ⟨⟨_, rfl⟩, .inl ⟨pre, by rw [hp]; simp [piecesS, piecesN], hJs⟩⟩
    | cons x rest =>
      have hc := hb.cell
      have hne : (!(bs (x :: rest)).toList.isEmpty) = true := by simp [bs]
      gi_wp2
      refine ⟨trivial, fun h => (by cases h), (callsIn_wide.2 (cut130 _ _)).mono ?_⟩
      rintro e w1 ⟨rfl, hg⟩
      have hb1 : Boxed w1 b0 9 (.string (bs (x :: rest))) := hb.kept hg (by simp)
      have hJ1 : J pre w1 := hJ pre wr w1 none hJs hg (fun r e => by cases e)
      have hbr := hb
      clear hb hc hf hJs
      have hc1 := hb1.cell
      have hf1 := hb1.frozen
      gi_wp2
      refine ⟨trivial, fun h => (by cases h), (callsIn_wide.2 (index131 _ _ _)).mono ?_⟩
      rintro e w2 ⟨rfl, rfl⟩
      have hlen : pre.length < N := by
        have := congrArg List.length hp
        rw [piecesS_cons (s := x :: rest) (by simp)] at this
        simp at this
        omega
      have hpl := piece_len (x :: rest)
      have hrest := restS_lt (s := x :: rest) (by simp)
      obtain ⟨fn, tmps, assign, body, hy, hR⟩ := hY pre ⟨pieceS (x :: rest), ascii_piece hra, by omega⟩ w2 hJ1 hlen
      have hpn : piecesS s0 = (pre ++ [⟨pieceS (x :: rest), ascii_piece hra, by omega⟩] : List PA).map (·.1) ++ piecesS (restS (x :: rest)) := by
        rw [hp, piecesS_cons (by simp)]; simp
      obtain ⟨c, hc⟩ : ∃ c, (cutS (x :: rest)).1 = c := ⟨_, rfl⟩
      have hix := index_le c 47
      by_cases hi : Lib.indexByte c 47 < 0
      · have he : pieceS (x :: rest) = (c, (cutS (x :: rest)).2) := by simp [pieceS, hc, endS, hi]
        have hre : restS (x :: rest) = [] := by simp [restS, hc, endS, hi]
        simp only [encP, he] at hy
        rw [hc]
        have hi' : Lib.indexByte (bs c).data.toList 47 < 0 := hi
        gi_wp2
        refine ⟨fun h => (by cases h), hR.mono ?_⟩
        rintro e W3 (⟨rfl, hJ3, hk3⟩ | ⟨rfl, hJx3⟩)
        · have hb3 : Boxed W3 b0 9 (.string (bs (x :: rest))) := hk3.trans hb1
          have hc3 := hb3.cell
          have hf3 := hb3.frozen
          gi_wp2
          go_roundw
          case rel =>
            exact ⟨_, restS (x :: rest), (by rw [hre]; exact (hb3.set _)), ascii_rest hra, by omega, hpn, hJc _ _ _ hJ3⟩
          case measure =>
            rw [cellLen_of (s := restS (x :: rest)) (by rw [hre]; exact (hb3.set _)), cellLen_of hbr]
            exact hrest
        · gi_wp2
          refine bodyPost_ret (results_none rfl _ _ _) rfl ?_
          exact ⟨⟨_, rfl⟩, .inr ⟨_, ⟨piecesS (restS (x :: rest)), hpn.symm⟩, hJx3⟩⟩
      · have hi0 : 0 ≤ Lib.indexByte c 47 := by omega
        have he : pieceS (x :: rest) = (c.take (Lib.indexByte c 47).toNat, (cutS (x :: rest)).2) := by simp [pieceS, hc, endS, hi]
        have hre : restS (x :: rest) = c.drop (Lib.indexByte c 47).toNat := by simp [restS, hc, endS, hi]
        simp only [encP, he] at hy
        rw [show bs (c.take (Lib.indexByte c 47).toNat) = (bs c).extract 0 (Lib.indexByte (bs c).data.toList 47).toNat by rw [bs_extract]; rfl] at hy
        rw [hc]
        have hi' : ¬ Lib.indexByte (bs c).data.toList 47 < 0 := hi
        have hi2 : Lib.indexByte (bs c).data.toList 47 ≤ (bs c).size := hix
        gi_wp2
        refine ⟨fun h => (by cases h), hR.mono ?_⟩
        rintro e W3 (⟨rfl, hJ3, hk3⟩ | ⟨rfl, hJx3⟩)
        · have hb3 : Boxed W3 b0 9 (.string (bs (x :: rest))) := hk3.trans hb1
          have hc3 := hb3.cell
          have hf3 := hb3.frozen
          gi_wp2
          go_roundw
          case rel =>
            exact ⟨_, restS (x :: rest), (by rw [hre, bs_drop]; exact (hb3.set _)), ascii_rest hra, by omega, hpn, hJc _ _ _ hJ3⟩
          case measure =>
            rw [cellLen_of (s := restS (x :: rest)) (by rw [hre, bs_drop]; exact (hb3.set _)), cellLen_of hbr]
            exact hrest
        · gi_wp2
          refine bodyPost_ret (results_none rfl _ _ _) rfl ?_
          exact ⟨⟨_, rfl⟩, .inr ⟨_, ⟨piecesS (restS (x :: rest)), hpn.symm⟩, hJx3⟩⟩
end Go.Proofs.YtnapockikkbkcaaGreat
