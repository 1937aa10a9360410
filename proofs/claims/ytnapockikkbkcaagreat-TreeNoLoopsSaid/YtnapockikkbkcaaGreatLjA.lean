/-
  TreeNoLoops: proved of the given program, for every input that the row allows: see the last text of this claim. Conditions: none beside the row's own.
-/
import Derived.Test.YtnapockikkbkcaaGreatProg
import Derived.KernelRfl
import Derived.Test.YtnapockikkbkcaaGreatBaF
set_option linter.unusedSimpArgs false
set_option linter.unusedVariables false
/-
  What the program's Mv answers of a right tree: loops. Own work.
-/
namespace Go.Proofs.YtnapockikkbkcaaGreat
open Go Go.Abs

theorem look_of {nodes : List Node} {dir : Int} {s : Bytes} {d : Node} (hd : find nodes dir = some d) (hk : d.kind = 2) (hs : nameOk s = true) : lookN nodes dir s = match findE d.ents s with
    | none => (0, 70)
    | some e => (e.ino, 0) := by
  have : dirN nodes dir = (d, 0) := by simp [dirN, hd, hk]
  simp only [lookN, this, hs]
  cases findE d.ents s <;> simp
theorem ontoN_codes (x y : Node) : ontoN x y = 73 ∨ ontoN x y = 72 ∨ ontoN x y = 74 ∨ ontoN x y = 0 := by
  unfold ontoN
  split
  · simp
  split
  · simp
  split
  · simp
  · simp
theorem GInv.under {t : Tree} {dep : Int → Nat} (h : GInv t dep 0) {to : Int} {nm : Bytes} {dT : Node} (hT : find t.nodes to = some dT) : (nodeUnder t.nodes dT.ents nm).ino = underN dT.ents nm := by
  unfold nodeUnder underN
  cases he : findE dT.ents nm with
  | none => rfl
  | some e =>
    obtain ⟨_, _, _, _, m, hm, _⟩ := h.ent _ _ e hT (findE_mem he).1
    simp [nodeN, hm, (find_mem hm).2]
theorem loop_same {t : Tree} {dep : Int → Nat} (h : GInv t dep 0) {f to : Int} {s nm : Bytes} {dT : Node} (hl : (lookN t.nodes f s).2 = 0) (hT : find t.nodes to = some dT) (hTk : dT.kind = 2) (hn : nameOk nm = true)
    (h1 : (lookN t.nodes to nm).2 = 0) (h2 : (lookN t.nodes to nm).1 = (lookN t.nodes f s).1) : (mvW t f s to nm).2.2 = 0 := by
  have hd : dirN t.nodes to = (dT, 0) := by simp [dirN, hT, hTk]
  rw [look_of hT hTk hn] at h1 h2
  unfold mvW
  simp only [hl, hd, bne_self_eq_false, Bool.false_eq_true, ↓reduceIte, hn, Bool.not_true]
  cases he : findE dT.ents nm with
  | none => rw [he] at h1; cases h1
  | some e =>
    rw [he] at h2
    have hu : underN dT.ents nm = e.ino := by simp [underN, he]
    rw [h.under hT, hu]
    simp only at h2
    rw [h2]
    simp
theorem loop_else {t : Tree} {dep : Int → Nat} (h : GInv t dep 0) {f to : Int} {s nm : Bytes} {dT : Node} (hl : (lookN t.nodes f s).2 = 0) (hx : (find t.nodes (lookN t.nodes f s).1).isSome = true) (hk : (nodeN t.nodes (lookN t.nodes f s).1).kind = 2) (hT : find t.nodes to = some dT) (hTk : dT.kind = 2) (hn : nameOk nm = true)
    (h1 : (lookN t.nodes to nm).2 = 0 → (lookN t.nodes to nm).1 ≠ (lookN t.nodes f s).1) : ((mvW t f s to nm).2.2 == 75) = lbelowN t.nodes to (lookN t.nodes f s).1 := by
  have hd : dirN t.nodes to = (dT, 0) := by simp [dirN, hT, hTk]
  rw [look_of hT hTk hn] at h1
  generalize hxx : (lookN t.nodes f s).1 = x at *
  have hx1 : 1 ≤ x := by
    cases hf : find t.nodes x with
    | none => rw [hf] at hx; cases hx
    | some n => exact (h.num _ _ hf).1
  have hu : underN dT.ents nm ≠ x := by
    unfold underN
    cases he : findE dT.ents nm with
    | none => simp only; omega
    | some e => rw [he] at h1; exact h1 rfl
  rw [h.lbelowN_eq x hT hTk, ← h.upsN_contains x hT hTk]
  unfold mvW
  simp only [hl, hd, bne_self_eq_false, Bool.false_eq_true, ↓reduceIte, hn, Bool.not_true, h.under hT, hxx, hk, beq_self_eq_true, Bool.true_and]
  rw [if_neg (by simpa using hu)]
  split
  · rename_i hc; rw [hc]; rfl
  · rename_i hc
    have hc' : (upsN t.nodes to).contains x = false := by simpa using hc
    rw [hc']
    split
    · rcases ontoN_codes (nodeN t.nodes x) (nodeUnder t.nodes dT.ents nm) with h | h | h | h <;> simp [h]
    · split
      · rfl
      · rfl
end Go.Proofs.YtnapockikkbkcaaGreat
/-
  The program's own changes of a right tree are the document's. Own work.
-/
namespace Go.Proofs.YtnapockikkbkcaaGreat
open Go Go.Abs

theorem may_eq {t : Tree} {dep : Int → Nat} (h : GInv t dep 0) (dir : Int) (s : Bytes) : mayErr t dir s = enterErr t dir s := by
  unfold mayErr enterErr
  by_cases h0 : (dirN t.nodes dir).2 = 0
  · obtain ⟨d, d1, d2, d3⟩ := dir_ok h0
    have hf : fullN t d = (decide ((64 : Int) ≤ d.ents.length) || (decide ((12 : Int) ≤ upDepth t.nodes dir) || decide ((1099511627776 : Int) ≤ t.cookie))) := by
      unfold fullN
      rw [(find_mem d1).2, h.depthN_eq d1 d2, h.upDepth_eq d1 d2]
    simp only [d3, hf, bne_self_eq_false, Bool.false_eq_true, ↓reduceIte, ne_eq, not_true_eq_false]
    cases nameOk s <;> simp
  · rw [if_pos (by simpa using h0), if_pos h0]
theorem addW_eq {t : Tree} {dep : Int → Nat} (h : GInv t dep 0) (dir : Int) (s : Bytes) (kind : Int) : addW t dir s kind = addN t dir s kind := by
  unfold addW addN
  rw [may_eq h]
theorem lnW_eq {t : Tree} {dep : Int → Nat} (h : GInv t dep 0) (ino dir : Int) (s : Bytes) : lnW t ino dir s = lnN t ino dir s := by
  unfold lnW lnN
  rw [may_eq h]
theorem unnamedW_eq {nodes : List Node} {x : Int} {m : Node} (hx : find nodes x = some m) : unnamedW nodes m = unnamedN nodes x := by
  unfold unnamedW unnamedN
  simp only [nodeN, hx, Option.getD_some, (find_mem hx).2]
theorem unW_eq {t : Tree} {dep : Int → Nat} (h : GInv t dep 0) (dir : Int) (s : Bytes) : unW t dir s = unN t dir s := by
  unfold unW unN
  split
  · rfl
  · rename_i hl
    obtain ⟨d, e, d1, d2, d3, d4, d5⟩ := look_ok (by simpa using hl)
    simp only [d5]
    obtain ⟨_, _, _, _, m, hm, _⟩ := h.ent _ _ e d1 (findE_mem d4).1
    have hm' : find (leftN t.nodes dir s) e.ino = some m := by
      rw [find_leftN h.srt.asc d1, if_neg (h.ent_ne d1 (findE_mem d4).1)]; exact hm
    have hn : nodeN t.nodes e.ino = m := by simp [nodeN, hm]
    rw [hn, unnamedW_eq hm']
theorem highGo_ex (nodes : List Node) (ino at' d : Int) (b : Int) : ∀ (l : List Node) (most : Int), b < highGo nodes ino at' d l most → b < most ∨ ∃ n, n ∈ l ∧ (n.kind == 2 && belowN nodes n.ino ino) = true ∧ b < highAt nodes at' d n
  | [], most, h => .inl h
  | m :: l, most, h => by
    rw [highGo] at h
    rcases highGo_ex nodes ino at' d b l _ h with h1 | ⟨n, h1, h2, h3⟩
    · have e : highStep nodes ino at' d m most = if (m.kind == 2 && belowN nodes m.ino ino) = true then (if highAt nodes at' d m > most then highAt nodes at' d m else most) else most := rfl
      rw [e] at h1
      split at h1
      · rename_i hb
        split at h1
        · exact .inr ⟨m, List.mem_cons_self, hb, h1⟩
        · exact .inl h1
      · exact .inl h1
    · exact .inr ⟨n, List.mem_cons_of_mem _ h1, h2, h3⟩
theorem GInv.deep_eq {t : Tree} {dep : Int → Nat} (h : GInv t dep 0) {x to : Int} {m : Node} (hx : find t.nodes x = some m) (hk : m.kind = 2) (hd : dep to < 12) :
    deepN t.nodes x (((dep to + 1 : Nat) : Int)) = decide ((12 : Int) < highN t.nodes x (((dep to + 1 : Nat) : Int))) := by
  have key : ∀ n, n ∈ t.nodes → deepAt t.nodes (((dep to + 1 : Nat) : Int)) ((dep x : Nat) : Int) x n = ((n.kind == 2 && belowN t.nodes n.ino x) && decide ((12 : Int) < highAt t.nodes (((dep to + 1 : Nat) : Int)) ((dep x : Nat) : Int) n)) := by
    intro n hn
    have hi : find t.nodes n.ino = some n := (find_iff h.srt.asc).2 ⟨hn, rfl⟩
    unfold deepAt
    by_cases hk2 : n.kind = 2
    · rw [h.upsN_contains x hi hk2, h.upsN_len hi hk2]
      by_cases hb : belowN t.nodes n.ino x = true
      · rw [h.highAt_eq hx hk hd hi hk2 hb]
        have d1 := (h.deep _ _ hi hk2).1
        have d2 := (h.deep _ _ hx hk).1
        have d3 := h.below_dep _ _ n hi hk2 rfl hb
        have w1 : w64 ((((dep to + 1 : Nat) : Int)) + ((dep n.ino + 1 : Nat) : Int)) = (((dep to + 1 : Nat) : Int)) + ((dep n.ino + 1 : Nat) : Int) := wrap_small (by omega) (by omega)
        have w2 : w64 ((((dep to + 1 : Nat) : Int)) + ((dep n.ino + 1 : Nat) : Int) - 1) = (((dep to + 1 : Nat) : Int)) + ((dep n.ino + 1 : Nat) : Int) - 1 := wrap_small (by omega) (by omega)
        have w3 : w64 ((((dep to + 1 : Nat) : Int)) + ((dep n.ino + 1 : Nat) : Int) - 1 - (dep x : Nat)) = (((dep to + 1 : Nat) : Int)) + ((dep n.ino + 1 : Nat) : Int) - 1 - (dep x : Nat) := wrap_small (by omega) (by omega)
        rw [w1, w2, w3]
        unfold redep
        rw [if_pos hb, hb]
        simp only [hk2, beq_self_eq_true, Bool.true_and]
        rw [Bool.eq_iff_iff]
        simp only [Bool.or_eq_true, Bool.and_eq_true, decide_eq_true_eq, beq_iff_eq]
        split <;> omega
      · have : belowN t.nodes n.ino x = false := by simpa using hb
        simp [this]
    · have : (n.kind == 2) = false := by simpa using hk2
      simp [this]
  have hdx : (upDepth t.nodes x : Int) = ((dep x : Nat) : Int) := by rw [h.upDepth_eq hx hk]
  unfold deepN highN
  rw [h.depthN_eq hx hk, hdx]
  rw [Bool.eq_iff_iff]
  simp only [List.any_eq_true, decide_eq_true_eq]
  constructor
  · rintro ⟨n, hn, hp⟩
    rw [key n hn] at hp
    simp only [Bool.and_eq_true, decide_eq_true_eq] at hp
    have := (highGo_ge t.nodes x (((dep to + 1 : Nat) : Int)) ((dep x : Nat) : Int) t.nodes 0).2 n hn (by simp [hp.1.1, hp.1.2])
    omega
  · intro hh
    rcases highGo_ex t.nodes x _ _ 12 t.nodes 0 hh with h1 | ⟨n, h1, h2, h3⟩
    · omega
    · exact ⟨n, h1, by rw [key n h1, h2]; simpa using h3⟩
theorem mvW_eq {t : Tree} {dep : Int → Nat} (h : GInv t dep 0) (f : Int) (s : Bytes) (to : Int) (nm : Bytes) : mvW t f s to nm = mvN t f s to nm := by
  unfold mvW mvN
  split
  · rfl
  rename_i c1
  split
  · rfl
  rename_i c2
  split
  · rfl
  obtain ⟨dF, e, e1, e2, e3, e4, e5⟩ := look_ok (by simpa using c1)
  obtain ⟨dT, g1, g2, g3⟩ := dir_ok (show (dirN t.nodes to).2 = 0 by simpa using c2)
  have hem := (findE_mem e4).1
  obtain ⟨_, _, x1, _, m, hm, hup⟩ := h.ent _ _ e e1 hem
  have hnode : nodeN t.nodes e.ino = m := by simp [nodeN, hm]
  simp only [e5, g3, hnode, h.under g1, h.upsN_contains e.ino g1 g2]
  split
  · rfl
  rename_i c4
  split
  · rfl
  rename_i c5
  have hup' : underN dT.ents nm ≠ e.ino := by simpa using c4
  have hnf := h.ent_ne e1 hem
  have hne : e.ino ≠ to := fun hh => by
    rw [hh, g1] at hm; injection hm with hm; subst hm
    simp only [g2, beq_self_eq_true, Bool.true_and] at c5
    rw [hh, GInv.below_self] at c5
    exact c5 rfl
  have hmany : ∀ there : Bool, (underN dT.ents nm == 0) = !there → manyW t f to dT.ents there m.kind e.ino = manyN t f to dT.ents m.kind (underN dT.ents nm) e.ino := by
    intro there hth
    unfold manyW manyN
    rw [hth, h.upsN_len g1 g2, h.depthN_eq g1 g2]
    by_cases hd : dep to < 12
    · have hw : w64 (((dep to : Nat) : Int) + 1) = ((dep to + 1 : Nat) : Int) := by
        rw [show (((dep to : Nat) : Int) + 1) = ((dep to + 1 : Nat) : Int) by omega]
        exact wrap_small (by omega) (by omega)
      rw [hw]
      have hdd : decide ((12 : Int) < ((dep to + 1 : Nat) : Int)) = decide ((12 : Int) ≤ ((dep to : Nat) : Int)) := by
        rw [decide_eq_decide]; omega
      rw [hdd]
      rcases h.kind _ _ hm with hk | hk
      · simp [hk]
      · rw [h.deep_eq hm hk hd]
    · have h1 : decide ((12 : Int) < ((dep to + 1 : Nat) : Int)) = true := by rw [decide_eq_true_eq]; omega
      have h2 : decide ((12 : Int) ≤ ((dep to : Nat) : Int)) = true := by rw [decide_eq_true_eq]; omega
      rw [h1, h2]; simp
  cases hfr : findE dT.ents nm with
  | none =>
    have hu : underN dT.ents nm = 0 := by simp [underN, hfr]
    have hm1 := hmany false (by rw [hu]; rfl)
    rw [hu] at hm1 ⊢
    have hcl : clashN t.nodes m.kind 0 = 0 := by simp [clashN, h.zero]
    simp only [Option.isSome_none, Bool.false_and, Bool.false_eq_true, ↓reduceIte, hcl, bne_self_eq_false, hm1]
    split
    · rfl
    · unfold moveW moveN
      simp only [hnode, Bool.false_eq_true, ↓reduceIte, bne_self_eq_false]
  | some e2 =>
    have hu : underN dT.ents nm = e2.ino := by simp [underN, hfr]
    obtain ⟨_, _, _, _, y, hy, _⟩ := h.ent _ _ e2 g1 (findE_mem hfr).1
    have hny : nodeN t.nodes e2.ino = y := by simp [nodeN, hy]
    have hto := h.ent_ne g1 (findE_mem hfr).1
    have hy0 := (h.num _ _ hy).1
    have hm1 := hmany true (by rw [hu]; simp; omega)
    have hnu : nodeUnder t.nodes dT.ents nm = y := by simp [nodeUnder, hfr, hny]
    rw [hu] at hm1 ⊢
    have hcl : clashN t.nodes m.kind e2.ino = ontoN m y := by
      unfold clashN ontoN
      simp only [hy, Option.isSome_some, Bool.not_true, Bool.false_eq_true, ↓reduceIte, hny]
    rw [hnu, hcl]
    simp only [Option.isSome_some, Bool.true_and, hm1]
    split
    · rfl
    rename_i c6
    split
    · rfl
    have hy00 : y.ents = [] := by
      have : ontoN m y = 0 := by simpa using c6
      unfold ontoN at this
      split at this
      · cases this
      split at this
      · cases this
      split at this
      · cases this
      · rename_i k3; exact List.length_eq_zero_iff.1 (by simpa using k3)
    have hnf2 : e2.ino ≠ f := fun hh => by
      rw [hh, e1] at hy; injection hy with hy; subst hy
      rw [hy00] at hem; cases hem
    have hyl : find (leftN (leftN t.nodes f s) to nm) e2.ino = some y := by
      have f1 := find_leftN h.srt.asc e1 (s := s)
      obtain ⟨dT', hT'⟩ : ∃ dT', find (leftN t.nodes f s) to = some dT' := by rw [f1]; split <;> simp_all
      rw [find_leftN (leftN_asc h.srt.asc f s) hT', if_neg hto, f1, if_neg hnf2]
      exact hy
    have hb : (e2.ino != 0) = true := by simp; omega
    unfold moveW moveN
    simp only [hnode, ↓reduceIte, hb, unnamedW_eq hyl]
end Go.Proofs.YtnapockikkbkcaaGreat
/-
  The code of the functions that the laws reach, as the evaluator takes it: printed by a program of ours, checked by the kernel.
-/
set_option linter.defProp false
namespace Go.Proofs.YtnapockikkbkcaaGreat
open Go Go.Abs

/-- catacomb/catacomblaw07.own -/
def q31_0 : ACode :=
 (.region [
 ob 45 (.bin .eql (.tmp 42) (.cst (.int .u8 1))),
 ob 43 (.mv (.tmp 45))] false [2, 3, 4, 7, 8, 9, 10, 42, 43])
def q31_1 : ACode :=
 (.seq (.region [
 ob 59 (.loadA 3 (.tmp 11)),
 ob 60 (.mv (.tmp 12)),
 ob 61 (.mv (.tmp 13)),
 ox (.store 3 (.tmp 4) (.tmp 59)),
 ob 5 (.mv (.tmp 60)),
 ob 6 (.mv (.tmp 61))] false [4, 5, 6]) (.ret))
def q31_2 : ACode :=
 (.seq (.region [
 ob 47 (.loadA 3 (.tmp 2)),
 ob 48 (.mv (.tmp 7)),
 ob 49 (.mv (.tmp 9)),
 ob 50 (.faddr 4 (.tmp 3)),
 ob 51 (.load1 (.tmp 50)),
 ob 52 (.conv .i64 (.tmp 51)),
 ob 53 (.bin .rem (.tmp 52) (.cst (.int .i64 2))),
 ob 54 (.bin .add (.tmp 53) (.cst (.int .i64 1))),
 ob 55 (.call 28 [(.tmp 47), (.tmp 48), (.tmp 49), (.tmp 54)]),
 ob 46 (.mv (.tmp 55)),
 ob 56 (.extract (.tmp 46) 0),
 ob 57 (.extract (.tmp 46) 1),
 ob 58 (.extract (.tmp 46) 2),
 ob 11 (.box0 [(.slice .c0 []), (.int .i64 0), (.int .i64 0)]),
 ox (.store 3 (.tmp 11) (.tmp 56)),
 ob 12 (.mv (.tmp 57)),
 ob 13 (.mv (.tmp 58))] false [4, 11, 12, 13]) q31_1)
def q31_3 : ACode :=
 (.seq (.region [
 ob 72 (.loadA 3 (.tmp 14)),
 ob 73 (.mv (.tmp 15)),
 ox (.store 3 (.tmp 4) (.tmp 72)),
 ob 5 (.mv (.cst (.int .i64 0))),
 ob 6 (.mv (.tmp 73))] false [4, 5, 6]) (.ret))
def q31_4 : ACode :=
 (.seq (.region [
 ob 65 (.loadA 3 (.tmp 2)),
 ob 66 (.mv (.tmp 8)),
 ob 67 (.mv (.tmp 7)),
 ob 68 (.mv (.tmp 9)),
 ob 69 (.call 37 [(.tmp 65), (.tmp 66), (.tmp 67), (.tmp 68)]),
 ob 64 (.mv (.tmp 69)),
 ob 70 (.extract (.tmp 64) 0),
 ob 71 (.extract (.tmp 64) 1),
 ob 14 (.box0 [(.slice .c0 []), (.int .i64 0), (.int .i64 0)]),
 ox (.store 3 (.tmp 14) (.tmp 70)),
 ob 15 (.mv (.tmp 71))] false [4, 14, 15]) q31_3)
def q31_5 : ACode :=
 (.seq (.region [
 ob 84 (.loadA 3 (.tmp 16)),
 ob 85 (.mv (.tmp 17)),
 ob 86 (.mv (.tmp 18)),
 ox (.store 3 (.tmp 4) (.tmp 84)),
 ob 5 (.mv (.tmp 85)),
 ob 6 (.mv (.tmp 86))] false [4, 5, 6]) (.ret))
def q31_6 : ACode :=
 (.seq (.region [
 ob 77 (.loadA 3 (.tmp 2)),
 ob 78 (.mv (.tmp 7)),
 ob 79 (.mv (.tmp 9)),
 ob 80 (.call 38 [(.tmp 77), (.tmp 78), (.tmp 79)]),
 ob 76 (.mv (.tmp 80)),
 ob 81 (.extract (.tmp 76) 0),
 ob 82 (.extract (.tmp 76) 1),
 ob 83 (.extract (.tmp 76) 2),
 ob 16 (.box0 [(.slice .c0 []), (.int .i64 0), (.int .i64 0)]),
 ox (.store 3 (.tmp 16) (.tmp 81)),
 ob 17 (.mv (.tmp 82)),
 ob 18 (.mv (.tmp 83))] false [4, 16, 17, 18]) q31_5)
def q31_7 : ACode :=
 (.region [
 ob 89 (.bin .eql (.tmp 42) (.cst (.int .u8 5))),
 ob 87 (.mv (.tmp 89))] false [2, 3, 4, 7, 8, 9, 10, 42, 87])
def q31_8 : ACode :=
 (.seq (.region [
 ob 100 (.loadA 3 (.tmp 19)),
 ob 101 (.mv (.tmp 20)),
 ob 102 (.mv (.tmp 21)),
 ox (.store 3 (.tmp 4) (.tmp 100)),
 ob 5 (.mv (.tmp 101)),
 ob 6 (.mv (.tmp 102))] false [4, 5, 6]) (.ret))
def q31_9 : ACode :=
 (.seq (.region [
 ob 91 (.loadA 3 (.tmp 2)),
 ob 92 (.mv (.tmp 7)),
 ob 93 (.mv (.tmp 9)),
 ob 94 (.mv (.tmp 8)),
 ob 95 (.mv (.tmp 10)),
 ob 96 (.call 17 [(.tmp 91), (.tmp 92), (.tmp 93), (.tmp 94), (.tmp 95)]),
 ob 90 (.mv (.tmp 96)),
 ob 97 (.extract (.tmp 90) 0),
 ob 98 (.extract (.tmp 90) 1),
 ob 99 (.extract (.tmp 90) 2),
 ob 19 (.box0 [(.slice .c0 []), (.int .i64 0), (.int .i64 0)]),
 ox (.store 3 (.tmp 19) (.tmp 97)),
 ob 20 (.mv (.tmp 98)),
 ob 21 (.mv (.tmp 99))] false [4, 19, 20, 21]) q31_8)
def q31_10 : ACode :=
 (.seq (.region [
 ob 113 (.loadA 3 (.tmp 22)),
 ob 114 (.mv (.tmp 23)),
 ox (.store 3 (.tmp 4) (.tmp 113)),
 ob 5 (.mv (.cst (.int .i64 0))),
 ob 6 (.mv (.tmp 114))] false [4, 5, 6]) (.ret))
def q31_11 : ACode :=
 (.seq (.region [
 ob 106 (.loadA 3 (.tmp 2)),
 ob 107 (.mv (.tmp 7)),
 ob 108 (.faddr 5 (.tmp 3)),
 ob 109 (.load1 (.tmp 108)),
 ob 110 (.call 71 [(.tmp 106), (.tmp 107), (.tmp 109)]),
 ob 105 (.mv (.tmp 110)),
 ob 111 (.extract (.tmp 105) 0),
 ob 112 (.extract (.tmp 105) 1),
 ob 22 (.box0 [(.slice .c0 []), (.int .i64 0), (.int .i64 0)]),
 ox (.store 3 (.tmp 22) (.tmp 111)),
 ob 23 (.mv (.tmp 112))] false [4, 22, 23]) q31_10)
def q31_12 : ACode :=
 (.seq (.region [
 ob 104 (.bin .eql (.tmp 42) (.cst (.int .u8 6))),
 ob 103 (.mv (.tmp 104))] false [2, 3, 4, 7, 103]) (.cond (.tmp 103) q31_11 (.skip)))
def q31_13 : ACode :=
 (.seq (.seq (.region [
 ob 88 (.bin .eql (.tmp 42) (.cst (.int .u8 4))),
 ob 87 (.mv (.tmp 88))] false [2, 3, 4, 7, 8, 9, 10, 42, 87]) (.cond (.tmp 87) (.skip) q31_7)) (.cond (.tmp 87) q31_9 q31_12))
def q31_14 : ACode :=
 (.seq (.region [
 ob 75 (.bin .eql (.tmp 42) (.cst (.int .u8 3))),
 ob 74 (.mv (.tmp 75))] false [2, 3, 4, 7, 8, 9, 10, 42, 74]) (.cond (.tmp 74) q31_6 q31_13))
def q31_15 : ACode :=
 (.seq (.region [
 ob 63 (.bin .eql (.tmp 42) (.cst (.int .u8 2))),
 ob 62 (.mv (.tmp 63))] false [2, 3, 4, 7, 8, 9, 10, 42, 62]) (.cond (.tmp 62) q31_4 q31_14))
def q31_16 : ACode :=
 (.block 0 (.seq (.seq (.region [
 ob 44 (.bin .eql (.tmp 42) (.cst (.int .u8 0))),
 ob 43 (.mv (.tmp 44))] false [2, 3, 4, 7, 8, 9, 10, 42, 43]) (.cond (.tmp 43) (.skip) q31_0)) (.cond (.tmp 43) q31_2 q31_15)))
def q31_17 : ACode :=
 (.seq (.region [
 ob 121 (.loadA 3 (.tmp 24)),
 ob 122 (.mv (.tmp 25)),
 ox (.store 3 (.tmp 4) (.tmp 121)),
 ob 5 (.mv (.cst (.int .i64 0))),
 ob 6 (.mv (.tmp 122))] false [4, 5, 6]) (.ret))
def q31_18 : ACode :=
 (.seq (.region [
 ob 116 (.loadA 3 (.tmp 2)),
 ob 117 (.mv (.tmp 7)),
 ob 118 (.call 35 [(.tmp 116), (.tmp 117)]),
 ob 115 (.mv (.tmp 118)),
 ob 119 (.extract (.tmp 115) 0),
 ob 120 (.extract (.tmp 115) 1),
 ob 24 (.box0 [(.slice .c0 []), (.int .i64 0), (.int .i64 0)]),
 ox (.store 3 (.tmp 24) (.tmp 119)),
 ob 25 (.mv (.tmp 120))] false [4, 24, 25]) q31_17)
def q31_19 : ACode :=
 (.seq (.seq (.region [
 ob 40 (.faddr 0 (.tmp 3)),
 ob 41 (.load1 (.tmp 40)),
 ob 42 (.bin .rem (.tmp 41) (.cst (.int .u8 8)))] false [2, 3, 4, 7, 8, 9, 10, 42]) q31_16) q31_18)
def q31_20 : ACode :=
 (.seq (.region [
 ob 37 (.faddr 4 (.tmp 3)),
 ob 38 (.load1 (.tmp 37)),
 ob 39 (.call 16 [(.tmp 38)]),
 ob 10 (.mv (.tmp 39))] false [2, 3, 4, 7, 8, 9, 10]) q31_19)
def q31_21 : ACode :=
 (.seq (.region [
 ob 34 (.faddr 3 (.tmp 3)),
 ob 35 (.load1 (.tmp 34)),
 ob 36 (.call 16 [(.tmp 35)]),
 ob 9 (.mv (.tmp 36))] false [2, 3, 4, 7, 8, 9]) q31_20)
def q31_22 : ACode :=
 (.seq (.region [
 ob 30 (.loadA 3 (.tmp 2)),
 ob 31 (.faddr 2 (.tmp 3)),
 ob 32 (.load1 (.tmp 31)),
 ob 33 (.call 14 [(.tmp 30), (.tmp 32)]),
 ob 8 (.mv (.tmp 33))] false [2, 3, 4, 7, 8]) q31_21)
def q31_23 : ACode :=
 (.seq (.region [
 ob 26 (.loadA 3 (.tmp 2)),
 ob 27 (.faddr 1 (.tmp 3)),
 ob 28 (.load1 (.tmp 27)),
 ob 29 (.call 14 [(.tmp 26), (.tmp 28)]),
 ob 7 (.mv (.tmp 29))] false [2, 3, 4, 7]) q31_22)
def E31 := And.intro (exK_head q31_0.eq_1) (And.intro (exK_head q31_1.eq_1) (And.intro (exK_head q31_2.eq_1) (And.intro (exK_head q31_3.eq_1) (And.intro (exK_head q31_4.eq_1) (And.intro (exK_head q31_5.eq_1) (And.intro (exK_head q31_6.eq_1) (And.intro (exK_head q31_7.eq_1) (And.intro (exK_head q31_8.eq_1) (And.intro (exK_head q31_9.eq_1) (And.intro (exK_head q31_10.eq_1) (And.intro (exK_head q31_11.eq_1) (And.intro (exK_head q31_12.eq_1) (And.intro (exK_head q31_13.eq_1) (And.intro (exK_head q31_14.eq_1) (And.intro (exK_head q31_15.eq_1) (And.intro (exK_head q31_16.eq_1) (And.intro (exK_head q31_17.eq_1) (And.intro (exK_head q31_18.eq_1) (And.intro (exK_head q31_19.eq_1) (And.intro (exK_head q31_20.eq_1) (And.intro (exK_head q31_21.eq_1) (And.intro (exK_head q31_22.eq_1) (exK_head q31_23.eq_1)))))))))))))))))))))))
def ann31 : Ann := { n := 123, own := [], lv := [(0, [2, 3, 4]), (1, [2, 3, 4, 7]), (2, [2, 3, 4, 7, 8]), (3, [2, 3, 4, 7, 8, 9]), (4, [2, 3, 4, 7, 8, 9, 10]), (5, [2, 3, 4, 7, 8, 9, 10, 42]), (6, [2, 3, 4, 7, 8, 9, 10, 42, 43]), (7, [2, 3, 4, 7, 8, 9, 10, 42, 43]), (8, [4, 11, 12, 13]), (9, [4, 5, 6]), (10, [2, 3, 4, 7, 8, 9, 10, 42, 62]), (11, [4, 14, 15]), (12, [4, 5, 6]), (13, [2, 3, 4, 7, 8, 9, 10, 42, 74]), (14, [4, 16, 17, 18]), (15, [4, 5, 6]), (16, [2, 3, 4, 7, 8, 9, 10, 42, 87]), (17, [2, 3, 4, 7, 8, 9, 10, 42, 87]), (18, [4, 19, 20, 21]), (19, [4, 5, 6]), (20, [2, 3, 4, 7, 103]), (21, [4, 22, 23]), (22, [4, 5, 6]), (23, [4, 24, 25]), (24, [4, 5, 6])], lp := [] }
def fn31 : AFn := AFn.mk 2 [.cellA 4 3, .tmp 5, .tmp 6]
  (.seq (.region [
  ob 2 (.box (.tmp 0)),
  ob 3 (.box (.tmp 1)),
  ob 4 (.box0 [(.slice .c0 []), (.int .i64 0), (.int .i64 0)]),
  ob 5 (.mv (.cst (.int .i64 0))),
  ob 6 (.mv (.cst (.int .i64 0)))] false [2, 3, 4]) q31_23)
theorem ok31 : compFn Tryz.prog ann31 Tryz.f31 = some fn31 := by kernel_rfl

end Go.Proofs.YtnapockikkbkcaaGreat
/-
  What the law's own 'own' does with a right tree: what the document's answer does. Own work.
-/
namespace Go.Proofs.YtnapockikkbkcaaGreat
open Go Go.Abs
attribute [local irreducible] exK opsK opK gK forkK kr acall callOp owhen obind

theorem GInv.hnew {t : Tree} {dep : Int → Nat} {x : Int} (h : GInv t dep x) : ∀ m, m ∈ t.nodes → m.ino < t.next := fun m hm => (h.num _ _ ((find_iff h.srt.asc).2 ⟨hm, rfl⟩)).2
theorem k37 (nodes : List Node) (next cookie ino dir : Int) (s : Bytes) (hz : Sz 1000 ⟨nodes, next, cookie⟩) (hr : Srt ⟨nodes, next, cookie⟩) (hs : s.length ≤ 100000) (ha : Ascii s) (M : AMem) : callOp (acall tab) 37 [.agg [eNodes nodes, .int .i64 next, .int .i64 cookie], .int .i64 ino, .int .i64 dir, .str s] M =
    some (.tuple [eTree (lnW ⟨nodes, next, cookie⟩ ino dir s).1, .int .i64 (lnW ⟨nodes, next, cookie⟩ ino dir s).2], M) := callOp0 (c37 ⟨nodes, next, cookie⟩ ino dir s hz hr hs ha) rfl rfl rfl rfl rfl M
theorem k35 (nodes : List Node) (next cookie ino : Int) (ht : Small ⟨nodes, next, cookie⟩) (hr : Srt ⟨nodes, next, cookie⟩) (M : AMem) : callOp (acall tab) 35 [.agg [eNodes nodes, .int .i64 next, .int .i64 cookie], .int .i64 ino] M =
    some (.tuple [eTree (freeN ⟨nodes, next, cookie⟩ ino).1, .int .i64 (freeN ⟨nodes, next, cookie⟩ ino).2], M) := callOp0 (c35 ⟨nodes, next, cookie⟩ ino ht hr) rfl rfl rfl rfl rfl M
theorem k71 (nodes : List Node) (next cookie ino : Int) (data : Bytes) (ht : Small ⟨nodes, next, cookie⟩) (hr : Srt ⟨nodes, next, cookie⟩) (hd : data.length ≤ 100000) (M : AMem) : callOp (acall tab) 71 [.agg [eNodes nodes, .int .i64 next, .int .i64 cookie], .int .i64 ino, eData data] M =
    some (.tuple [eTree (putN ⟨nodes, next, cookie⟩ ino data).1, .int .i64 (putN ⟨nodes, next, cookie⟩ ino data).2], M) := callOp0 (c71 ⟨nodes, next, cookie⟩ ino data ht hr hd) rfl rfl rfl rfl rfl M
set_option maxHeartbeats 4000000 in
theorem c31 {c : Nat → Option AFn} (hc : ExtOk c) (h31 : c 31 = some fn31) {t : Tree} {dep : Int → Nat} (h : GInv t dep 0) (s : Step) (hz : Sz 1000 t) (hs : s.Ok) : acall (tabX c) 31 [eTree t, eStep s] [] = some (.tuple [eTree (doneN t s).1, .int .i64 (doneN t s).2.1, .int .i64 (doneN t s).2.2], []) := by
  obtain ⟨nodes, next, cookie⟩ := t
  obtain ⟨kind, a, b, n, m, data⟩ := s
  obtain ⟨h1, h2, h3, h4, h5, h6⟩ := hs
  simp only at h1 h2 h3 h4 h5 h6
  have ht : Small ⟨nodes, next, cookie⟩ := hz.small (by omega)
  have hr := h.srt
  have hn : nodes.length ≤ 100000 := ht.nodes
  have hm8 : (kind : Int).tmod 8 = ((kind % 8 : Nat) : Int) := by rw [Int.tmod_eq_emod_of_nonneg (by omega)]; rfl
  have hm2 : (m : Int).tmod 2 = ((m % 2 : Nat) : Int) := by rw [Int.tmod_eq_emod_of_nonneg (by omega)]; rfl
  have hw : IntKind.i64.wrap (m : Int) = m := wrap_small (by omega) (by omega)
  have hw2 : IntKind.i64.wrap (((m % 2 : Nat) : Int) + 1) = ((m % 2 : Nat) : Int) + 1 := wrap_small (by omega) (by omega)
  have e8 : ((8 : Int) = 0) = False := by simp
  have e2 : ((2 : Int) = 0) = False := by simp
  have q14 := fun i hi M => kX hc (k14 nodes next cookie i hi hn M)
  have q16 := fun i hi M => kX hc (k16 i hi M)
  have q28 := fun dir i k M => kX hc (k28 nodes next cookie dir (nameOf i) k hz hr (nameOf_len i) (nameOf_ascii i) h.hnew M)
  have q37 := fun ino dir i M => kX hc (k37 nodes next cookie ino dir (nameOf i) hz hr (nameOf_len i) (nameOf_ascii i) M)
  have q38 := fun dir i M => kX hc (k38 nodes next cookie dir (nameOf i) hz hr (nameOf_len i) (nameOf_ascii i) M)
  have q17 := fun dir i to j M => k17 hc nodes next cookie dir (nameOf i) to (nameOf j) hz hr (nameOf_len i) (nameOf_ascii i) (nameOf_len j) (nameOf_ascii j) (h.hun to (nameOf j)) M
  have q35 := fun ino M => kX hc (k35 nodes next cookie ino ht hr M)
  have q71 := fun ino M => kX hc (k71 nodes next cookie ino data ht hr h6 M)
  simp only [addW_eq h, lnW_eq h, unW_eq h, mvW_eq h] at q28 q37 q38 q17
  refine acall_ex rfl (codeX h31) rfl ?_
  simp only [fn31, E31, eTree, eTreeC, eStep, eStepC, q14, q16, h2, h3, h4, h5, hm8, e8, EVT, finish, resAll, resOf, one, astep, aop, parsFrom, Opd.ev, getS, putS, keepS, nth, setN, abin, ↓reduceIte, Nat.reduceEqDiff, reduceCtorEq, Nat.reduceAdd, writeAt, Nat.reduceLeDiff, ne_eq, backE, backM, ABox.back, Nat.reduceLT, Int.reduceLT, Int.reduceLE, Int.reduceNeg, litsOf, sepAll, fillParts, AOp.argIds, ob, og, ox]
  repeat' (first | (refine fork_split (fun hb => ?_) (fun hb => ?_) <;> simp only [hb, E31, q14, q16, h2, h3, h4, h5, hm8, hm2, e8, e2, hw, hw2, q28, q37, q38, q17, q35, q71, eTree, eTreeC, EVT, finish, resAll, resOf, one, astep, aop, parsFrom, Opd.ev, getS, putS, keepS, nth, setN, abin, ↓reduceIte, Nat.reduceEqDiff, reduceCtorEq, Nat.reduceAdd, writeAt, Nat.reduceLeDiff, ne_eq, backE, backM, ABox.back, Nat.reduceLT, Int.reduceLT, Int.reduceLE, Int.reduceNeg, litsOf, sepAll, fillParts, AOp.argIds, ob, og, ox]) | (refine guard_split (fun hb => ?_) (fun hb => ?_) <;> simp only [hb, E31, q14, q16, h2, h3, h4, h5, hm8, hm2, e8, e2, hw, hw2, q28, q37, q38, q17, q35, q71, eTree, eTreeC, EVT, finish, resAll, resOf, one, astep, aop, parsFrom, Opd.ev, getS, putS, keepS, nth, setN, abin, ↓reduceIte, Nat.reduceEqDiff, reduceCtorEq, Nat.reduceAdd, writeAt, Nat.reduceLeDiff, ne_eq, backE, backM, ABox.back, Nat.reduceLT, Int.reduceLT, Int.reduceLE, Int.reduceNeg, litsOf, sepAll, fillParts, AOp.argIds, ob, og, ox]) | (refine opK_pick (fun hb => ?_) (fun hb => ?_) <;> simp only [hb, E31, q14, q16, h2, h3, h4, h5, hm8, hm2, e8, e2, hw, hw2, q28, q37, q38, q17, q35, q71, eTree, eTreeC, EVT, finish, resAll, resOf, one, astep, aop, parsFrom, Opd.ev, getS, putS, keepS, nth, setN, abin, ↓reduceIte, Nat.reduceEqDiff, reduceCtorEq, Nat.reduceAdd, writeAt, Nat.reduceLeDiff, ne_eq, backE, backM, ABox.back, Nat.reduceLT, Int.reduceLT, Int.reduceLE, Int.reduceNeg, litsOf, sepAll, fillParts, AOp.argIds, ob, og, ox]))
  all_goals clear q14 q16 q28 q37 q38 q17 q35 q71
  all_goals (simp_all only [doneN, eTree, eTreeC, Bool.and_true, Bool.true_and, Bool.and_false, Bool.false_and, Bool.or_true, Bool.true_or, Bool.or_false, Bool.false_or, Bool.not_true, Bool.not_false, Bool.and_self, Bool.or_self, ↓reduceIte, Bool.false_eq_true, reduceCtorEq, beq_self_eq_true, bne_self_eq_false]; done)
theorem k31 {c : Nat → Option AFn} (hc : ExtOk c) (h31 : c 31 = some fn31) {nodes : List Node} {next cookie : Int} {dep : Int → Nat} (h : GInv ⟨nodes, next, cookie⟩ dep 0) (s : Step) (hz : Sz 1000 ⟨nodes, next, cookie⟩) (hs : s.Ok) (M : AMem) : callOp (acall (tabX c)) 31 [.agg [eNodes nodes, .int .i64 next, .int .i64 cookie], .agg (eStepC s)] M =
    some (.tuple [eTree (doneN ⟨nodes, next, cookie⟩ s).1, .int .i64 (doneN ⟨nodes, next, cookie⟩ s).2.1, .int .i64 (doneN ⟨nodes, next, cookie⟩ s).2.2], M) := callOp0 (c31 hc h31 h s hz hs) rfl rfl rfl rfl rfl M
end Go.Proofs.YtnapockikkbkcaaGreat
/-
  The code of the functions that the laws reach, as the evaluator takes it: printed by a program of ours, checked by the kernel.
-/
set_option linter.defProp false
namespace Go.Proofs.YtnapockikkbkcaaGreat
open Go Go.Abs

/-- catacomb/catacomblaw07.TreeNoLoops -/
def q10_0 : ACode :=
 (.seq (.region [
 ob 28 (.mv (.tmp 5)),
 ob 4 (.mv (.tmp 28))] false [4]) (.ret))
def q10_1 : ACode :=
 (.region [
 ob 83 (.mv (.tmp 18)),
 ob 84 (.bin .add (.tmp 83) (.cst (.int .i64 1))),
 ob 18 (.mv (.tmp 84))] false [5, 6, 9, 11, 12, 13, 14, 15, 16, 17, 18])
def q10_2 : ACode :=
 (.seq (.block 5 (.region [
 ob 85 (.mv (.tmp 17)),
 ob 86 (.mv (.tmp 85)),
 og 87 86 false (.faddr 4 (.tmp 15)),
 og 88 86 false (.load1 (.tmp 87)),
 og 89 86 false (.mv (.tmp 18)),
 og 90 86 false (.iaddr 3 (.tmp 88) (.tmp 89)),
 og 91 86 false (.faddr 1 (.tmp 90)),
 og 92 86 false (.load1 (.tmp 91)),
 og 93 86 false (.mv (.tmp 11)),
 og 94 86 false (.bin .eql (.tmp 92) (.tmp 93)),
 ob 95 (.pick (.tmp 86) (.cst (.bool true)) (.tmp 94)),
 ob 17 (.mv (.tmp 95))] false [5, 6, 9, 11, 12, 13, 14, 15, 16, 17, 18])) q10_1)
def lb10_0 : ACode :=
 (.seq (.seq (.region [
 ob 78 (.mv (.tmp 18)),
 ob 79 (.faddr 4 (.tmp 15)),
 ob 80 (.load1 (.tmp 79)),
 ob 81 (.lenV (.tmp 80)),
 ob 82 (.bin .lss (.tmp 78) (.tmp 81))] false [5, 6, 9, 11, 12, 13, 14, 15, 16, 17, 18, 82]) (.cond (.tmp 82) (.skip) (.exit 4))) q10_2)
def q10_3 : ACode :=
 (.block 4 (.loop [5, 6, 9, 11, 12, 13, 14, 15, 16, 17, 18] lb10_0))
def q10_4 : ACode :=
 (.seq (.region [
 ob 4 (.mv (.cst (.bool false)))] false [4]) (.ret))
def q10_5 : ACode :=
 (.region [
 ob 106 (.faddr 5 (.tmp 13)),
 ob 107 (.load1 (.tmp 106)),
 ob 11 (.mv (.tmp 107))] false [5, 6, 9, 11, 12])
def q10_6 : ACode :=
 (.seq (.seq (.region [
 ob 96 (.mv (.tmp 14)),
 ob 97 (.not (.tmp 96)),
 ob 98 (.mv (.tmp 97)),
 og 99 98 false (.mv (.tmp 16)),
 og 100 98 false (.not (.tmp 99)),
 ob 101 (.pick (.tmp 98) (.cst (.bool true)) (.tmp 100)),
 ob 102 (.mv (.tmp 101)),
 og 103 102 false (.mv (.tmp 17)),
 og 104 102 false (.not (.tmp 103)),
 ob 105 (.pick (.tmp 102) (.cst (.bool true)) (.tmp 104))] false [5, 6, 9, 12, 13, 105]) (.cond (.tmp 105) q10_4 (.skip))) q10_5)
def q10_7 : ACode :=
 (.seq (.seq (.region [
 ob 18 (.mv (.cst (.int .i64 0)))] false [5, 6, 9, 11, 12, 13, 14, 15, 16, 17, 18]) q10_3) q10_6)
def q10_8 : ACode :=
 (.seq (.region [
 ob 17 (.mv (.cst (.bool false)))] false [5, 6, 9, 11, 12, 13, 14, 15, 16, 17]) q10_7)
def q10_9 : ACode :=
 (.seq (.region [
 ob 72 (.loadA 3 (.tmp 6)),
 ob 73 (.faddr 5 (.tmp 13)),
 ob 74 (.load1 (.tmp 73)),
 ob 75 (.call 19 [(.tmp 72), (.tmp 74)]),
 ob 71 (.mv (.tmp 75)),
 ob 76 (.extract (.tmp 71) 0),
 ob 77 (.extract (.tmp 71) 1),
 ob 15 (.box0 [(.int .i64 0), (.int .i64 0), (.int .i64 0), (.slice .c0 []), (.slice .c0 []), (.int .i64 0)]),
 ox (.store 6 (.tmp 15) (.tmp 76)),
 ob 16 (.mv (.tmp 77))] false [5, 6, 9, 11, 12, 13, 14, 15, 16]) q10_8)
def q10_10 : ACode :=
 (.region [
 ob 63 (.mv (.tmp 12)),
 ob 64 (.bin .add (.tmp 63) (.cst (.int .i64 1))),
 ob 12 (.mv (.tmp 64))] false [5, 6, 9, 11, 12])
def q10_11 : ACode :=
 (.seq (.block 3 (.seq (.region [
 ob 66 (.loadA 3 (.tmp 6)),
 ob 67 (.mv (.tmp 11)),
 ob 68 (.call 19 [(.tmp 66), (.tmp 67)]),
 ob 65 (.mv (.tmp 68)),
 ob 69 (.extract (.tmp 65) 0),
 ob 70 (.extract (.tmp 65) 1),
 ob 13 (.box0 [(.int .i64 0), (.int .i64 0), (.int .i64 0), (.slice .c0 []), (.slice .c0 []), (.int .i64 0)]),
 ox (.store 6 (.tmp 13) (.tmp 69)),
 ob 14 (.mv (.tmp 70))] false [5, 6, 9, 11, 12, 13, 14]) q10_9)) q10_10)
def lb10_1 : ACode :=
 (.seq (.seq (.region [
 ob 54 (.mv (.tmp 12)),
 ob 55 (.faddr 0 (.tmp 6)),
 ob 56 (.load1 (.tmp 55)),
 ob 57 (.lenV (.tmp 56)),
 ob 58 (.bin .lss (.tmp 54) (.tmp 57)),
 ob 59 (.mv (.tmp 58)),
 og 60 59 true (.mv (.tmp 11)),
 og 61 59 true (.bin .neq (.tmp 60) (.cst (.int .i64 1))),
 ob 62 (.pick (.tmp 59) (.tmp 61) (.cst (.bool false)))] false [5, 6, 9, 11, 12, 62]) (.cond (.tmp 62) (.skip) (.exit 2))) q10_11)
def q10_12 : ACode :=
 (.block 2 (.loop [5, 6, 9, 11, 12] lb10_1))
def q10_13 : ACode :=
 (.seq (.region [
 ob 4 (.mv (.cst (.bool false)))] false [4]) (.ret))
def q10_14 : ACode :=
 (.seq (.region [
 ob 108 (.mv (.tmp 11)),
 ob 109 (.bin .neq (.tmp 108) (.cst (.int .i64 1)))] false [5, 6, 9, 109]) (.cond (.tmp 109) q10_13 (.skip)))
def q10_15 : ACode :=
 (.seq (.seq (.region [
 ob 12 (.mv (.cst (.int .i64 0)))] false [5, 6, 9, 11, 12]) q10_12) q10_14)
def q10_16 : ACode :=
 (.seq (.region [
 ob 52 (.faddr 0 (.tmp 10)),
 ob 53 (.load1 (.tmp 52)),
 ob 11 (.mv (.tmp 53))] false [5, 6, 9, 11]) q10_15)
def q10_17 : ACode :=
 (.seq (.seq (.region [
 ob 49 (.faddr 1 (.tmp 10)),
 ob 50 (.load1 (.tmp 49)),
 ob 51 (.bin .neq (.tmp 50) (.cst (.int .i64 2)))] false [5, 6, 9, 10, 51]) (.cond (.tmp 51) (.exit 1) (.skip))) q10_16)
def q10_18 : ACode :=
 (.region [
 ob 42 (.mv (.tmp 9)),
 ob 43 (.bin .add (.tmp 42) (.cst (.int .i64 1))),
 ob 9 (.mv (.tmp 43))] false [5, 6, 9])
def q10_19 : ACode :=
 (.seq (.block 1 (.seq (.region [
 ob 44 (.faddr 0 (.tmp 6)),
 ob 45 (.load1 (.tmp 44)),
 ob 46 (.mv (.tmp 9)),
 ob 47 (.iaddr 6 (.tmp 45) (.tmp 46)),
 ob 48 (.loadA 6 (.tmp 47)),
 ob 10 (.box0 [(.int .i64 0), (.int .i64 0), (.int .i64 0), (.slice .c0 []), (.slice .c0 []), (.int .i64 0)]),
 ox (.store 6 (.tmp 10) (.tmp 48))] false [5, 6, 9, 10]) q10_17)) q10_18)
def lb10_2 : ACode :=
 (.seq (.seq (.region [
 ob 37 (.mv (.tmp 9)),
 ob 38 (.faddr 0 (.tmp 6)),
 ob 39 (.load1 (.tmp 38)),
 ob 40 (.lenV (.tmp 39)),
 ob 41 (.bin .lss (.tmp 37) (.tmp 40))] false [5, 6, 9, 41]) (.cond (.tmp 41) (.skip) (.exit 0))) q10_19)
def q10_20 : ACode :=
 (.seq (.region [
 ob 110 (.mv (.tmp 5)),
 ob 111 (.mv (.tmp 110)),
 og 112 111 true (.faddr 0 (.tmp 6)),
 og 113 111 true (.load1 (.tmp 112)),
 og 114 111 true (.lenV (.tmp 113)),
 og 115 111 true (.bin .gtr (.tmp 114) (.cst (.int .i64 0))),
 ob 116 (.pick (.tmp 111) (.tmp 115) (.cst (.bool false))),
 ob 4 (.mv (.tmp 116))] false [4]) (.ret))
def q10_21 : ACode :=
 (.seq (.seq (.region [
 ob 9 (.mv (.cst (.int .i64 0)))] false [5, 6, 9]) (.block 0 (.loop [5, 6, 9] lb10_2))) q10_20)
def q10_22 : ACode :=
 (.seq (.region [
 ob 30 (.mv (.tmp 0)),
 ⟨(some 31), .call 13 [(.tmp 30)], none, false, true, []⟩,
 ob 32 (.loadA 6 (.tmp 3)),
 ⟨(some 33), .call 31 [(.tmp 31), (.tmp 32)], none, false, true, []⟩,
 ob 29 (.mv (.tmp 33)),
 ob 34 (.extract (.tmp 29) 0),
 ob 35 (.extract (.tmp 29) 1),
 ob 36 (.extract (.tmp 29) 2),
 ⟨(some 6), .box0 [(.slice .c0 []), (.int .i64 0), (.int .i64 0)], none, true, false, []⟩,
 ox (.store 3 (.tmp 6) (.tmp 34)),
 ob 7 (.mv (.tmp 35)),
 ob 8 (.mv (.tmp 36))] true [5, 6]) q10_21)
def q10_23 : ACode :=
 (.seq (.seq (.region [
 ob 20 (.mv (.tmp 0)),
 ob 21 (.call 12 [(.tmp 20)]),
 ob 22 (.mv (.tmp 21)),
 og 23 22 false (.faddr 5 (.tmp 3)),
 og 24 22 false (.load1 (.tmp 23)),
 og 25 22 false (.lenV (.tmp 24)),
 og 26 22 false (.bin .gtr (.tmp 25) (.cst (.int .i64 5000))),
 ob 27 (.pick (.tmp 22) (.cst (.bool true)) (.tmp 26))] false [0, 3, 5, 27]) (.cond (.tmp 27) q10_0 (.skip))) q10_22)
def q10_24 : ACode :=
 (.seq (.region [
 ob 19 (.call 11 []),
 ob 5 (.mv (.tmp 19))] false [0, 3, 5]) q10_23)
def E10 := And.intro (exK_head q10_0.eq_1) (And.intro (exK_head q10_1.eq_1) (And.intro (exK_head q10_2.eq_1) (And.intro (exK_head lb10_0.eq_1) (And.intro (exK_head q10_3.eq_1) (And.intro (exK_head q10_4.eq_1) (And.intro (exK_head q10_5.eq_1) (And.intro (exK_head q10_6.eq_1) (And.intro (exK_head q10_7.eq_1) (And.intro (exK_head q10_8.eq_1) (And.intro (exK_head q10_9.eq_1) (And.intro (exK_head q10_10.eq_1) (And.intro (exK_head q10_11.eq_1) (And.intro (exK_head lb10_1.eq_1) (And.intro (exK_head q10_12.eq_1) (And.intro (exK_head q10_13.eq_1) (And.intro (exK_head q10_14.eq_1) (And.intro (exK_head q10_15.eq_1) (And.intro (exK_head q10_16.eq_1) (And.intro (exK_head q10_17.eq_1) (And.intro (exK_head q10_18.eq_1) (And.intro (exK_head q10_19.eq_1) (And.intro (exK_head lb10_2.eq_1) (And.intro (exK_head q10_20.eq_1) (And.intro (exK_head q10_21.eq_1) (And.intro (exK_head q10_22.eq_1) (And.intro (exK_head q10_23.eq_1) (exK_head q10_24.eq_1)))))))))))))))))))))))))))
def ann10 : Ann := { n := 117, own := [], lv := [(0, [0, 3]), (1, [0, 3, 5]), (2, [0, 3, 5, 27]), (3, [4]), (4, [5, 6]), (5, [5, 6, 9]), (6, [5, 6, 9, 41]), (7, [5, 6, 9]), (8, [5, 6, 9, 10]), (9, [5, 6, 9, 10, 51]), (10, [5, 6, 9, 11]), (11, [5, 6, 9, 11, 12]), (12, [5, 6, 9, 11, 12, 62]), (13, [5, 6, 9, 11, 12]), (14, [5, 6, 9, 11, 12, 13, 14]), (15, [5, 6, 9, 11, 12, 13, 14, 15, 16]), (16, [5, 6, 9, 11, 12, 13, 14, 15, 16, 17]), (17, [5, 6, 9, 11, 12, 13, 14, 15, 16, 17, 18]), (18, [5, 6, 9, 11, 12, 13, 14, 15, 16, 17, 18, 82]), (19, [5, 6, 9, 11, 12, 13, 14, 15, 16, 17, 18]), (20, [5, 6, 9, 11, 12, 13, 14, 15, 16, 17, 18]), (21, [5, 6, 9, 12, 13, 105]), (22, [4]), (23, [5, 6, 9, 11, 12]), (24, [5, 6, 9, 109]), (25, [4]), (26, [4])], lp := [(6, [5, 6, 9]), (12, [5, 6, 9, 11, 12]), (18, [5, 6, 9, 11, 12, 13, 14, 15, 16, 17, 18])] }
def fn10 : AFn := AFn.mk 2 [.tmp 4]
  (.seq (.region [
  ob 3 (.box (.tmp 1)),
  ob 4 (.mv (.cst (.bool false)))] false [0, 3]) q10_24)
theorem ok10 : compFn Tryz.prog ann10 Tryz.f10 = some fn10 := by kernel_rfl

end Go.Proofs.YtnapockikkbkcaaGreat
/-
  A law of the evaluator as the row's claim: TreeNoLoops. Printed by a program of ours, after the guide's worked proofs. Own work.
-/
namespace Go.Proofs.YtnapockikkbkcaaGreat
open Go Go.Abs Go.ChangeShapes Go.WideShapes Go.RowKit Go.Deep

set_option maxRecDepth 100000 in
theorem treeNoLoops_lifted {T : Tab} (hT : SoundC Tryz.prog (acall T)) (K : ∀ (x0 : List Step) (x1 : Step), (∀ s, s ∈ x0 → stepOk s) → stepOk x1 → acall T 10 [eSteps x0, eStep x1] [] = some (.bool true, []))
    (os : Os) (started : os.Started) (H : Type) (enc : TypeId × Value → H) :
    ReturnsInHanded {} Tryz.checked os 10 .any (Rows.treeNoLoopsSpec.pre6 enc Tryz.prog Tryz.f10 Rows.treeNoLoopsRow.domain false) (Rows.treeNoLoopsSpec.post enc Tryz.prog Tryz.f10 false Rows.treeNoLoopsRow.fresh Rows.treeNoLoopsRow.handsOn Rows.treeNoLoopsRow.again) := by
  refine returnsInHanded_of_change (C := Tryz.checked) ownK started (by kernel_rfl) Tryz.func10
    (ChangeSpec.witness6 (enc := enc) (C := Tryz.checked) false ⟨#[], #[.slice none 0 0, .agg #[.int .u8 0, .int .u8 0, .int .u8 0, .int .u8 0, .int .u8 0, .slice none 0 0]], []⟩ 8 (by kernel_rfl) (by kernel_rfl) (by kernel_rfl) (by kernel_rfl)) ?_
  intro W base args ds gs before hval0 hW _ _
  have hval : ∀ (j : Nat) t v, Tryz.f10.params[j]? = some t → args[j]? = some v → Value.okWide Tryz.prog W .any base t v := hval0
  have hW' := hW
  obtain ⟨p, q, hA0, hV, rfl, _, _⟩ := hW
  have hA : DataW.TrodAll enc Tryz.prog W 0 (fun _ => true) true Tryz.f10.params.toList args.toList ds p := hA0
  have hA1 := hA
  rw [Tryz.params10] at hA hval
  obtain ⟨v0, vs1, d0, ds1, p0, q0, hvs0, rfl, rfl, h0, hA⟩ := trodAll_cons hA
  obtain ⟨v1, vs2, d1, ds2, p1, q1, rfl, rfl, rfl, h1, hA⟩ := trodAll_cons hA
  obtain ⟨rfl, rfl, rfl⟩ := trodAll_nil hA
  obtain rfl := two_of hvs0
  obtain ⟨rfl, rfl⟩ := trodVars_none hV
  obtain ⟨m0, l0, r0⟩ := steps_rep h0 (steps_cells Tryz.underlying22 (hval 0 22 _ rfl rfl))
  obtain ⟨m1, l1, r1⟩ := step_val h1 (hval 1 52 _ rfl rfl)
  have hlt : ∀ x ∈ (p0 ++ (p1 ++ [])), x.block < W.heap.size := fun x hx => hW'.lt x (by simpa using hx)
  refine (plain_callS hT (K m0 m1 l0 l1) W _ rfl ?_).mono ?_
  · intro i c v hc hv
    match i with
    | 0 => cases hc; cases hv; exact .plain r0
    | 1 => cases hc; cases hv; exact r1
    | i + 2 => cases hc
  · rintro e W' ⟨v, j', rfl, hb, hrep⟩
    obtain rfl := hrep.bool_inv
    exact ⟨_, rfl, ⟨_, _, _, [], _, [], hW', trodAll_mk1 (shut_bool Tryz.underlying4 true), trodAll_stays hb hA1 (by rw [Tryz.params10]; intro t ht; simp at ht; rcases ht with rfl | rfl <;> exact ⟨by kernel_rfl, of_decide_eq_true (by kernel_rfl)⟩) hlt, rfl, hb.frame _, fun h => by cases h⟩⟩

theorem treeNoLoops_of {T : Tab} (hT : SoundC Tryz.prog (acall T)) (K : ∀ (x0 : List Step) (x1 : Step), (∀ s, s ∈ x0 → stepOk s) → stepOk x1 → acall T 10 [eSteps x0, eStep x1] [] = some (.bool true, [])) : Rows.TreeNoLoopsSaid :=
  OpenClaim.holds_of_wide 10 Tryz.f10 rfl rfl rfl rfl rfl rfl rfl ⟨rfl, rfl, rfl, rfl, rfl⟩ rfl rfl rfl rfl rfl (by kernel_rfl) Tryz.func10 (by kernel_rfl)
    (of_decide_eq_true (by kernel_rfl)) (by unfold Func.isWrapper; rw [if_neg (by decide +kernel)]; exact ⟨rfl, rfl⟩)
    (fun os started H enc _ => treeNoLoops_lifted hT K os started H enc)

end Go.Proofs.YtnapockikkbkcaaGreat
/-
  The law TreeNoLoops. Own work.
-/
namespace Go.Proofs.YtnapockikkbkcaaGreat
open Go Go.Abs
attribute [local irreducible] exK opsK opK gK forkK kr acall callOp owhen obind

def cLj : Nat → Option AFn
  | 10 => some fn10
  | 31 => some fn31
  | _ => none
theorem xLj : ExtOk cLj := by
  refine ⟨fun f fn h => ?_, fun f fn h => ?_⟩
  · unfold cLj at h
    split at h
    · injection h with h; subst h; exact ⟨_, _, Tryz.func10, ok10⟩
    · injection h with h; subst h; exact ⟨_, _, Tryz.func31, ok31⟩
    · cases h
  · unfold cLj at h
    split at h
    · exact ⟨rfl, rfl⟩
    · exact ⟨rfl, rfl⟩
    · cases h
theorem loop10a {nodes : List Node} {next cookie i at' kk : Int} {st : Step} {n m p : Node} {b14 b16 z' : Bool} (he : p.ents.length ≤ 100000) {k : List K} {r : Option (AVal × AMem)}
    (hx : ∀ v q, kr (acall (tabX cLj)) [.tmp 4] 0 k ⟨.exit 4, [(5, .bool true), (6, .ptr 1 0), (9, .int .i64 i), (11, .int .i64 at'), (12, .int .i64 kk), (13, .ptr 3 0), (14, .bool b14), (15, .ptr 4 0), (16, .bool b16), (17, .bool z'), (18, v), (82, q)], [.cells (eStepC st), .cells [eNodes nodes, .int .i64 next, .int .i64 cookie], .cells (eNodeC n), .cells (eNodeC m), .cells (eNodeC p)]⟩ = r) :
    ∀ (l pre : List Ent) (z : Bool), p.ents = pre ++ l → (z || l.any fun e => e.ino == at') = z' → exK (acall (tabX cLj)) [.tmp 4] 0 k (.loop [5, 6, 9, 11, 12, 13, 14, 15, 16, 17, 18] lb10_0) [(5, .bool true), (6, .ptr 1 0), (9, .int .i64 i), (11, .int .i64 at'), (12, .int .i64 kk), (13, .ptr 3 0), (14, .bool b14), (15, .ptr 4 0), (16, .bool b16), (17, .bool z), (18, .int .i64 pre.length)] [.cells (eStepC st), .cells [eNodes nodes, .int .i64 next, .int .i64 cookie], .cells (eNodeC n), .cells (eNodeC m), .cells (eNodeC p)] = r := by
  intro l
  induction l with
  | nil =>
    intro pre z h hz
    simp only [List.any_nil, Bool.or_false] at hz
    subst hz
    rw [exK_loop]
    simp only [eStepC, eNodeC] at hx
    simp only [E10, eStepC, eNodeC, lt_end h, EVT, finish, resAll, resOf, one, astep, aop, parsFrom, Opd.ev, getS, putS, keepS, nth, setN, abin, ↓reduceIte, Nat.reduceEqDiff, reduceCtorEq, Nat.reduceAdd, writeAt, Nat.reduceLeDiff, ne_eq, backE, backM, ABox.back, Nat.reduceLT, Int.reduceLT, Int.reduceLE, Int.reduceNeg, litsOf, sepAll, fillParts, AOp.argIds, ob, og, ox]
    exact hx _ _
  | cons x rest ih =>
    intro pre z h hz
    rw [List.any_cons] at hz
    rw [exK_loop]
    have hlen : pre.length + 1 ≤ 100000 := by rw [h] at he; simp at he; omega
    have hw : IntKind.i64.wrap ((pre.length : Int) + 1) = ((pre ++ [x]).length : Int) := by rw [wrap_small (by omega) (by omega)]; exact step_len
    cases z with
    | true =>
      have hh := ih (pre ++ [x]) true (by rw [h]; simp) (by simpa using hz)
      simp only [List.length_append, List.length_cons, List.length_nil, eStepC, eNodeC] at hh
      simp only [E10, eStepC, eNodeC, lt_mid h, hw, EVT, finish, resAll, resOf, one, astep, aop, parsFrom, Opd.ev, getS, putS, keepS, nth, setN, abin, ↓reduceIte, Nat.reduceEqDiff, reduceCtorEq, Nat.reduceAdd, writeAt, Nat.reduceLeDiff, ne_eq, backE, backM, ABox.back, Nat.reduceLT, Int.reduceLT, Int.reduceLE, Int.reduceNeg, litsOf, sepAll, fillParts, AOp.argIds, ob, og, ox]
      exact hh
    | false =>
      have hh := ih (pre ++ [x]) (x.ino == at') (by rw [h]; simp) (by simpa using hz)
      simp only [List.length_append, List.length_cons, List.length_nil, eStepC, eNodeC] at hh
      simp only [E10, eStepC, eNodeC, eEntC, lt_mid h, at_mid h, hw, EVT, finish, resAll, resOf, one, astep, aop, parsFrom, Opd.ev, getS, putS, keepS, nth, setN, abin, ↓reduceIte, Nat.reduceEqDiff, reduceCtorEq, Nat.reduceAdd, writeAt, Nat.reduceLeDiff, ne_eq, backE, backM, ABox.back, Nat.reduceLT, Int.reduceLT, Int.reduceLE, Int.reduceNeg, litsOf, sepAll, fillParts, AOp.argIds, ob, og, ox]
      exact hh
set_option maxHeartbeats 1000000 in
theorem loop10b {nodes : List Node} {next cookie : Int} {dep : Int → Nat} (hi : GInv ⟨nodes, next, cookie⟩ dep 0) (ht : Small ⟨nodes, next, cookie⟩) {i : Int} {st : Step} {n : Node} {k : List K} {r : Option (AVal × AMem)}
    (hx : ∀ v q, kr (acall (tabX cLj)) [.tmp 4] 0 k ⟨.exit 2, [(5, .bool true), (6, .ptr 1 0), (9, .int .i64 i), (11, .int .i64 1), (12, v), (62, q)], [.cells (eStepC st), .cells [eNodes nodes, .int .i64 next, .int .i64 cookie], .cells (eNodeC n)]⟩ = r) :
    ∀ (d : Nat) (at' : Int) (q : Node) (kk : Nat), find nodes at' = some q → q.kind = 2 → dep at' = d → kk + d < nodes.length → exK (acall (tabX cLj)) [.tmp 4] 0 k (.loop [5, 6, 9, 11, 12] lb10_1) [(5, .bool true), (6, .ptr 1 0), (9, .int .i64 i), (11, .int .i64 at'), (12, .int .i64 kk)] [.cells (eStepC st), .cells [eNodes nodes, .int .i64 next, .int .i64 cookie], .cells (eNodeC n)] = r := by
  intro d
  induction d with
  | zero =>
    intro at' q kk hq hk hd hb
    have h1 : at' = 1 := by
      rcases Int.decEq at' 1 with h1 | h1
      · have := (hi.deps _ _ hq hk h1).1; omega
      · exact h1
    subst h1
    simp only [eStepC, eNodeC] at hx
    rw [exK_loop]
    have hlt : decide ((kk : Int) < (nodes.length : Int)) = true := by simp; omega
    simp only [E10, eStepC, eNodeC, hlt, bne_self_eq_false, EVT, finish, resAll, resOf, one, astep, aop, parsFrom, Opd.ev, getS, putS, keepS, nth, setN, abin, ↓reduceIte, Nat.reduceEqDiff, reduceCtorEq, Nat.reduceAdd, writeAt, Nat.reduceLeDiff, ne_eq, backE, backM, ABox.back, Nat.reduceLT, Int.reduceLT, Int.reduceLE, Int.reduceNeg, litsOf, sepAll, fillParts, AOp.argIds, ob, og, ox]
    exact hx _ _
  | succ d ih =>
    intro at' q kk hq hk hd hb
    have h1 : at' ≠ 1 := fun hh => by subst hh; have := hi.dep1; omega
    have h1b : (at' != 1) = true := by simpa using h1
    obtain ⟨hdd, _⟩ := hi.deps _ _ hq hk h1
    obtain ⟨p, e, p1, p2, p3, p4⟩ := hi.named hq hk h1 (by have := (hi.num _ _ hq).1; omega)
    have hlt : decide ((kk : Int) < (nodes.length : Int)) = true := by simp; omega
    have hnn : nodes.length ≤ 100000 := ht.nodes
    have hw : IntKind.i64.wrap ((kk : Int) + 1) = ((kk + 1 : Nat) : Int) := by rw [wrap_small (by omega) (by omega)]; omega
    have q19 := fun ino M => kX xLj (k19 nodes next cookie ino ht hi.srt M)
    have hn1 : nodeN nodes at' = q := by simp [nodeN, hq]
    have hn2 : nodeN nodes q.up = p := by simp only at p1; simp [nodeN, p1]
    have hs1 : (find nodes at').isSome = true := by rw [hq]; rfl
    have hs2 : (find nodes q.up).isSome = true := by simp only at p1; rw [p1]; rfl
    have hany : (p.ents.any fun e => e.ino == at') = true := List.any_eq_true.2 ⟨e, p3, by simpa using p4⟩
    rw [exK_loop]
    have hh := ih q.up p (kk + 1) p1 p2 (by omega) (by omega)
    simp only [eStepC, eNodeC] at hh
    simp only [E10, eStepC, eNodeC, hlt, h1b, q19, hn1, hn2, hs1, hs2, eNode, EVT, finish, resAll, resOf, one, astep, aop, parsFrom, Opd.ev, getS, putS, keepS, nth, setN, abin, ↓reduceIte, Nat.reduceEqDiff, reduceCtorEq, Nat.reduceAdd, writeAt, Nat.reduceLeDiff, ne_eq, backE, backM, ABox.back, Nat.reduceLT, Int.reduceLT, Int.reduceLE, Int.reduceNeg, litsOf, sepAll, fillParts, AOp.argIds, ob, og, ox]
    have hla := fun k r hx => loop10a (nodes := nodes) (next := next) (cookie := cookie) (i := i) (at' := at') (kk := kk) (st := st) (n := n) (m := q) (p := p) (b14 := true) (b16 := true) (ht.ents p (find_mem p1).1) (k := k) (r := r) hx p.ents [] false rfl hany
    simp only [eStepC, eNodeC] at hla
    refine hla _ _ (fun v q' => ?_)
    simp only [E10, hw, EVT, finish, resAll, resOf, one, astep, aop, parsFrom, Opd.ev, getS, putS, keepS, nth, setN, abin, ↓reduceIte, Nat.reduceEqDiff, reduceCtorEq, Nat.reduceAdd, writeAt, Nat.reduceLeDiff, ne_eq, backE, backM, ABox.back, Nat.reduceLT, Int.reduceLT, Int.reduceLE, Int.reduceNeg, litsOf, sepAll, fillParts, AOp.argIds, ob, og, ox]
    exact hh
set_option maxHeartbeats 1000000 in
theorem loop10c {nodes : List Node} {next cookie : Int} {dep : Int → Nat} (hi : GInv ⟨nodes, next, cookie⟩ dep 0) (ht : Small ⟨nodes, next, cookie⟩) {st : Step} {k : List K} {r : Option (AVal × AMem)}
    (hx : ∀ v q, kr (acall (tabX cLj)) [.tmp 4] 0 k ⟨.exit 0, [(5, .bool true), (6, .ptr 1 0), (9, v), (41, q)], [.cells (eStepC st), .cells [eNodes nodes, .int .i64 next, .int .i64 cookie]]⟩ = r) :
    ∀ (l pre : List Node), nodes = pre ++ l → exK (acall (tabX cLj)) [.tmp 4] 0 k (.loop [5, 6, 9] lb10_2) [(5, .bool true), (6, .ptr 1 0), (9, .int .i64 pre.length)] [.cells (eStepC st), .cells [eNodes nodes, .int .i64 next, .int .i64 cookie]] = r := by
  have hn : nodes.length ≤ 100000 := ht.nodes
  intro l
  induction l with
  | nil =>
    intro pre h
    rw [exK_loop]
    simp only [eStepC] at hx
    simp only [E10, eStepC, lt_end h, EVT, finish, resAll, resOf, one, astep, aop, parsFrom, Opd.ev, getS, putS, keepS, nth, setN, abin, ↓reduceIte, Nat.reduceEqDiff, reduceCtorEq, Nat.reduceAdd, writeAt, Nat.reduceLeDiff, ne_eq, backE, backM, ABox.back, Nat.reduceLT, Int.reduceLT, Int.reduceLE, Int.reduceNeg, litsOf, sepAll, fillParts, AOp.argIds, ob, og, ox]
    exact hx _ _
  | cons n rest ih =>
    intro pre h
    have hlen : pre.length + 1 ≤ 100000 := by rw [h] at hn; simp at hn; omega
    have hw : IntKind.i64.wrap ((pre.length : Int) + 1) = ((pre ++ [n]).length : Int) := by rw [wrap_small (by omega) (by omega)]; exact step_len
    have hh := ih (pre ++ [n]) (by rw [h]; simp)
    simp only [List.length_append, List.length_cons, List.length_nil, eStepC] at hh
    have hf : find nodes n.ino = some n := (find_iff hi.srt.asc).2 ⟨by rw [h]; simp, rfl⟩
    rw [exK_loop]
    simp only [E10, eStepC, lt_mid h, at_mid h, eNodeC, EVT, finish, resAll, resOf, one, astep, aop, parsFrom, Opd.ev, getS, putS, keepS, nth, setN, abin, ↓reduceIte, Nat.reduceEqDiff, reduceCtorEq, Nat.reduceAdd, writeAt, Nat.reduceLeDiff, ne_eq, backE, backM, ABox.back, Nat.reduceLT, Int.reduceLT, Int.reduceLE, Int.reduceNeg, litsOf, sepAll, fillParts, AOp.argIds, ob, og, ox]
    refine fork_split (fun hk => ?_) (fun hk => ?_)
    · simp only [E10, hw, EVT, finish, resAll, resOf, one, astep, aop, parsFrom, Opd.ev, getS, putS, keepS, nth, setN, abin, ↓reduceIte, Nat.reduceEqDiff, reduceCtorEq, Nat.reduceAdd, writeAt, Nat.reduceLeDiff, ne_eq, backE, backM, ABox.back, Nat.reduceLT, Int.reduceLT, Int.reduceLE, Int.reduceNeg, litsOf, sepAll, fillParts, AOp.argIds, ob, og, ox]
      exact hh
    · have hk2 : n.kind = 2 := by simpa using hk
      have hlb := fun k r hx => loop10b hi ht (i := (pre.length : Int)) (st := st) (n := n) (k := k) (r := r) hx (dep n.ino) n.ino n 0 hf hk2 rfl (by have := hi.dep_lt hf hk2; simp only at this; omega)
      simp only [eStepC, eNodeC] at hlb
      simp only [E10, EVT, finish, resAll, resOf, one, astep, aop, parsFrom, Opd.ev, getS, putS, keepS, nth, setN, abin, ↓reduceIte, Nat.reduceEqDiff, reduceCtorEq, Nat.reduceAdd, writeAt, Nat.reduceLeDiff, ne_eq, backE, backM, ABox.back, Nat.reduceLT, Int.reduceLT, Int.reduceLE, Int.reduceNeg, litsOf, sepAll, fillParts, AOp.argIds, ob, og, ox]
      refine hlb _ _ (fun v q => ?_)
      simp only [E10, hw, bne_self_eq_false, EVT, finish, resAll, resOf, one, astep, aop, parsFrom, Opd.ev, getS, putS, keepS, nth, setN, abin, ↓reduceIte, Nat.reduceEqDiff, reduceCtorEq, Nat.reduceAdd, writeAt, Nat.reduceLeDiff, ne_eq, backE, backM, ABox.back, Nat.reduceLT, Int.reduceLT, Int.reduceLE, Int.reduceNeg, litsOf, sepAll, fillParts, AOp.argIds, ob, og, ox]
      exact hh
set_option maxHeartbeats 4000000 in
theorem c10 (l : List Step) (s : Step) (hl : ∀ s, s ∈ l → stepOk s) (hs : stepOk s) : acall (tabX cLj) 10 [eSteps l, eStep s] [] = some (.bool true, []) := by
  refine acall_ex rfl rfl rfl ?_
  simp only [fn10, E10, kHead xLj, kGreat xLj, eStep, eStepC, EVT, finish, resAll, resOf, one, astep, aop, parsFrom, Opd.ev, getS, putS, keepS, nth, setN, abin, ↓reduceIte, Nat.reduceEqDiff, reduceCtorEq, Nat.reduceAdd, writeAt, Nat.reduceLeDiff, ne_eq, backE, backM, ABox.back, Nat.reduceLT, Int.reduceLT, Int.reduceLE, Int.reduceNeg, litsOf, sepAll, fillParts, AOp.argIds, ob, og, ox]
  refine guard_split (fun hg => ?_) (fun hg => ?_)
  rotate_left
  · simp only [E10, hg, EVT, finish, resAll, resOf, one, astep, aop, parsFrom, Opd.ev, getS, putS, keepS, nth, setN, abin, ↓reduceIte, Nat.reduceEqDiff, reduceCtorEq, Nat.reduceAdd, writeAt, Nat.reduceLeDiff, ne_eq, backE, backM, ABox.back, Nat.reduceLT, Int.reduceLT, Int.reduceLE, Int.reduceNeg, litsOf, sepAll, fillParts, AOp.argIds, ob, og, ox]
  simp only [E10, hg, EVT, finish, resAll, resOf, one, astep, aop, parsFrom, Opd.ev, getS, putS, keepS, nth, setN, abin, ↓reduceIte, Nat.reduceEqDiff, reduceCtorEq, Nat.reduceAdd, writeAt, Nat.reduceLeDiff, ne_eq, backE, backM, ABox.back, Nat.reduceLT, Int.reduceLT, Int.reduceLE, Int.reduceNeg, litsOf, sepAll, fillParts, AOp.argIds, ob, og, ox]
  refine fork_split (fun hd => ?_) (fun hd => ?_)
  · simp only [E10, EVT, finish, resAll, resOf, one, astep, aop, parsFrom, Opd.ev, getS, putS, keepS, nth, setN, abin, ↓reduceIte, Nat.reduceEqDiff, reduceCtorEq, Nat.reduceAdd, writeAt, Nat.reduceLeDiff, ne_eq, backE, backM, ABox.back, Nat.reduceLT, Int.reduceLT, Int.reduceLE, Int.reduceNeg, litsOf, sepAll, fillParts, AOp.argIds, ob, og, ox]
  obtain ⟨hlen, hok⟩ := great_ok hg hl
  have hso : s.Ok := by
    obtain ⟨h1, h2, h3, h4, h5⟩ := hs
    exact ⟨h1, h2, h3, h4, h5, by simp at hd; omega⟩
  have hmade := fun M => kX xLj (k13 l (by omega) hok M)
  obtain ⟨dep, hinv⟩ := madeN_inv l
  have hz : Sz 1000 (madeN l) := (madeN_sz l hok).up (by omega)
  obtain ⟨dep', hinv'⟩ := doneN_inv hinv s
  have hz' : Sz 1000 (doneN (madeN l) s).1 := ((madeN_sz l hok).done s hso).up (by omega)
  generalize madeN l = T at *
  obtain ⟨nodes, next, cookie⟩ := T
  have q31 := fun M => k31 xLj rfl hinv s hz hso M
  generalize hU : doneN ⟨nodes, next, cookie⟩ s = U at *
  obtain ⟨⟨un, ux, uc⟩, uy, ue⟩ := U
  have hsu : Small ⟨un, ux, uc⟩ := hz'.small (by omega)
  have hpos : decide ((0 : Int) < un.length) = true := by
    obtain ⟨r, r1, _⟩ := hinv'.root
    have := List.length_pos_of_mem (find_mem r1).1
    simp only at this
    simp; omega
  have hlp := fun k r hx => loop10c (next := ux) (cookie := uc) (st := s) hinv' hsu (k := k) (r := r) hx un [] rfl
  simp only [eStepC] at hlp q31
  simp only [E10, hmade, eTree, eTreeC, q31, EVT, finish, resAll, resOf, one, astep, aop, parsFrom, Opd.ev, getS, putS, keepS, nth, setN, abin, ↓reduceIte, Nat.reduceEqDiff, reduceCtorEq, Nat.reduceAdd, writeAt, Nat.reduceLeDiff, ne_eq, backE, backM, ABox.back, Nat.reduceLT, Int.reduceLT, Int.reduceLE, Int.reduceNeg, litsOf, sepAll, fillParts, AOp.argIds, ob, og, ox]
  refine hlp _ _ (fun v q => ?_)
  simp only [E10, hpos, EVT, finish, resAll, resOf, one, astep, aop, parsFrom, Opd.ev, getS, putS, keepS, nth, setN, abin, ↓reduceIte, Nat.reduceEqDiff, reduceCtorEq, Nat.reduceAdd, writeAt, Nat.reduceLeDiff, ne_eq, backE, backM, ABox.back, Nat.reduceLT, Int.reduceLT, Int.reduceLE, Int.reduceNeg, litsOf, sepAll, fillParts, AOp.argIds, ob, og, ox]

theorem treeNoLoops_holds : Rows.TreeNoLoopsSaid := treeNoLoops_of (soundX xLj) c10
end Go.Proofs.YtnapockikkbkcaaGreat
