/-
  TreeLinks: proved of the given program, for every input that the row allows: see the last text of this claim. Conditions: none beside the row's own.
-/
import Derived.Test.YtnapockikkbkcaaGreatProg
import Derived.KernelRfl
import Derived.Test.YtnapockikkbkcaaGreatBaF
set_option linter.unusedSimpArgs false
set_option linter.unusedVariables false
/-
  What the program's Mv answers of a right tree: loops. Own work.
-/
namespace Go.Proofs.YtnapockikkbkcaaGreat
open Go Go.Abs

theorem look_of {nodes : List Node} {dir : Int} {s : Bytes} {d : Node} (hd : find nodes dir = some d) (hk : d.kind = 2) (hs : nameOk s = true) : lookN nodes dir s = match findE d.ents s with
    | none => (0, 70)
    | some e => (e.ino, 0) := by
  have : dirN nodes dir = (d, 0) := by simp [dirN, hd, hk]
  simp only [lookN, this, hs]
  cases findE d.ents s <;> simp
theorem ontoN_codes (x y : Node) : ontoN x y = 73 ∨ ontoN x y = 72 ∨ ontoN x y = 74 ∨ ontoN x y = 0 := by
  unfold ontoN
  split
  · simp
  split
  · simp
  split
  · simp
  · simp
theorem GInv.under {t : Tree} {dep : Int → Nat} (h : GInv t dep 0) {to : Int} {nm : Bytes} {dT : Node} (hT : find t.nodes to = some dT) : (nodeUnder t.nodes dT.ents nm).ino = underN dT.ents nm := by
  unfold nodeUnder underN
  cases he : findE dT.ents nm with
  | none => rfl
  | some e =>
    obtain ⟨_, _, _, _, m, hm, _⟩ := h.ent _ _ e hT (findE_mem he).1
    simp [nodeN, hm, (find_mem hm).2]
theorem loop_same {t : Tree} {dep : Int → Nat} (h : GInv t dep 0) {f to : Int} {s nm : Bytes} {dT : Node} (hl : (lookN t.nodes f s).2 = 0) (hT : find t.nodes to = some dT) (hTk : dT.kind = 2) (hn : nameOk nm = true)
    (h1 : (lookN t.nodes to nm).2 = 0) (h2 : (lookN t.nodes to nm).1 = (lookN t.nodes f s).1) : (mvW t f s to nm).2.2 = 0 := by
  have hd : dirN t.nodes to = (dT, 0) := by simp [dirN, hT, hTk]
  rw [look_of hT hTk hn] at h1 h2
  unfold mvW
  simp only [hl, hd, bne_self_eq_false, Bool.false_eq_true, ↓reduceIte, hn, Bool.not_true]
  cases he : findE dT.ents nm with
  | none => rw [he] at h1; cases h1
  | some e =>
    rw [he] at h2
    have hu : underN dT.ents nm = e.ino := by simp [underN, he]
    rw [h.under hT, hu]
    simp only at h2
    rw [h2]
    simp
theorem loop_else {t : Tree} {dep : Int → Nat} (h : GInv t dep 0) {f to : Int} {s nm : Bytes} {dT : Node} (hl : (lookN t.nodes f s).2 = 0) (hx : (find t.nodes (lookN t.nodes f s).1).isSome = true) (hk : (nodeN t.nodes (lookN t.nodes f s).1).kind = 2) (hT : find t.nodes to = some dT) (hTk : dT.kind = 2) (hn : nameOk nm = true)
    (h1 : (lookN t.nodes to nm).2 = 0 → (lookN t.nodes to nm).1 ≠ (lookN t.nodes f s).1) : ((mvW t f s to nm).2.2 == 75) = lbelowN t.nodes to (lookN t.nodes f s).1 := by
  have hd : dirN t.nodes to = (dT, 0) := by simp [dirN, hT, hTk]
  rw [look_of hT hTk hn] at h1
  generalize hxx : (lookN t.nodes f s).1 = x at *
  have hx1 : 1 ≤ x := by
    cases hf : find t.nodes x with
    | none => rw [hf] at hx; cases hx
    | some n => exact (h.num _ _ hf).1
  have hu : underN dT.ents nm ≠ x := by
    unfold underN
    cases he : findE dT.ents nm with
    | none => simp only; omega
    | some e => rw [he] at h1; exact h1 rfl
  rw [h.lbelowN_eq x hT hTk, ← h.upsN_contains x hT hTk]
  unfold mvW
  simp only [hl, hd, bne_self_eq_false, Bool.false_eq_true, ↓reduceIte, hn, Bool.not_true, h.under hT, hxx, hk, beq_self_eq_true, Bool.true_and]
  rw [if_neg (by simpa using hu)]
  split
  · rename_i hc; rw [hc]; rfl
  · rename_i hc
    have hc' : (upsN t.nodes to).contains x = false := by simpa using hc
    rw [hc']
    split
    · rcases ontoN_codes (nodeN t.nodes x) (nodeUnder t.nodes dT.ents nm) with h | h | h | h <;> simp [h]
    · split
      · rfl
      · rfl
end Go.Proofs.YtnapockikkbkcaaGreat
/-
  The program's own changes of a right tree are the document's. Own work.
-/
namespace Go.Proofs.YtnapockikkbkcaaGreat
open Go Go.Abs

theorem may_eq {t : Tree} {dep : Int → Nat} (h : GInv t dep 0) (dir : Int) (s : Bytes) : mayErr t dir s = enterErr t dir s := by
  unfold mayErr enterErr
  by_cases h0 : (dirN t.nodes dir).2 = 0
  · obtain ⟨d, d1, d2, d3⟩ := dir_ok h0
    have hf : fullN t d = (decide ((64 : Int) ≤ d.ents.length) || (decide ((12 : Int) ≤ upDepth t.nodes dir) || decide ((1099511627776 : Int) ≤ t.cookie))) := by
      unfold fullN
      rw [(find_mem d1).2, h.depthN_eq d1 d2, h.upDepth_eq d1 d2]
    simp only [d3, hf, bne_self_eq_false, Bool.false_eq_true, ↓reduceIte, ne_eq, not_true_eq_false]
    cases nameOk s <;> simp
  · rw [if_pos (by simpa using h0), if_pos h0]
theorem addW_eq {t : Tree} {dep : Int → Nat} (h : GInv t dep 0) (dir : Int) (s : Bytes) (kind : Int) : addW t dir s kind = addN t dir s kind := by
  unfold addW addN
  rw [may_eq h]
theorem lnW_eq {t : Tree} {dep : Int → Nat} (h : GInv t dep 0) (ino dir : Int) (s : Bytes) : lnW t ino dir s = lnN t ino dir s := by
  unfold lnW lnN
  rw [may_eq h]
theorem unnamedW_eq {nodes : List Node} {x : Int} {m : Node} (hx : find nodes x = some m) : unnamedW nodes m = unnamedN nodes x := by
  unfold unnamedW unnamedN
  simp only [nodeN, hx, Option.getD_some, (find_mem hx).2]
theorem unW_eq {t : Tree} {dep : Int → Nat} (h : GInv t dep 0) (dir : Int) (s : Bytes) : unW t dir s = unN t dir s := by
  unfold unW unN
  split
  · rfl
  · rename_i hl
    obtain ⟨d, e, d1, d2, d3, d4, d5⟩ := look_ok (by simpa using hl)
    simp only [d5]
    obtain ⟨_, _, _, _, m, hm, _⟩ := h.ent _ _ e d1 (findE_mem d4).1
    have hm' : find (leftN t.nodes dir s) e.ino = some m := by
      rw [find_leftN h.srt.asc d1, if_neg (h.ent_ne d1 (findE_mem d4).1)]; exact hm
    have hn : nodeN t.nodes e.ino = m := by simp [nodeN, hm]
    rw [hn, unnamedW_eq hm']
theorem highGo_ex (nodes : List Node) (ino at' d : Int) (b : Int) : ∀ (l : List Node) (most : Int), b < highGo nodes ino at' d l most → b < most ∨ ∃ n, n ∈ l ∧ (n.kind == 2 && belowN nodes n.ino ino) = true ∧ b < highAt nodes at' d n
  | [], most, h => .inl h
  | m :: l, most, h => by
    rw [highGo] at h
    rcases highGo_ex nodes ino at' d b l _ h with h1 | ⟨n, h1, h2, h3⟩
    · have e : highStep nodes ino at' d m most = if (m.kind == 2 && belowN nodes m.ino ino) = true then (if highAt nodes at' d m > most then highAt nodes at' d m else most) else most := rfl
      rw [e] at h1
      split at h1
      · rename_i hb
        split at h1
        · exact .inr ⟨m, List.mem_cons_self, hb, h1⟩
        · exact .inl h1
      · exact .inl h1
    · exact .inr ⟨n, List.mem_cons_of_mem _ h1, h2, h3⟩
theorem GInv.deep_eq {t : Tree} {dep : Int → Nat} (h : GInv t dep 0) {x to : Int} {m : Node} (hx : find t.nodes x = some m) (hk : m.kind = 2) (hd : dep to < 12) :
    deepN t.nodes x (((dep to + 1 : Nat) : Int)) = decide ((12 : Int) < highN t.nodes x (((dep to + 1 : Nat) : Int))) := by
  have key : ∀ n, n ∈ t.nodes → deepAt t.nodes (((dep to + 1 : Nat) : Int)) ((dep x : Nat) : Int) x n = ((n.kind == 2 && belowN t.nodes n.ino x) && decide ((12 : Int) < highAt t.nodes (((dep to + 1 : Nat) : Int)) ((dep x : Nat) : Int) n)) := by
    intro n hn
    have hi : find t.nodes n.ino = some n := (find_iff h.srt.asc).2 ⟨hn, rfl⟩
    unfold deepAt
    by_cases hk2 : n.kind = 2
    · rw [h.upsN_contains x hi hk2, h.upsN_len hi hk2]
      by_cases hb : belowN t.nodes n.ino x = true
      · rw [h.highAt_eq hx hk hd hi hk2 hb]
        have d1 := (h.deep _ _ hi hk2).1
        have d2 := (h.deep _ _ hx hk).1
        have d3 := h.below_dep _ _ n hi hk2 rfl hb
        have w1 : w64 ((((dep to + 1 : Nat) : Int)) + ((dep n.ino + 1 : Nat) : Int)) = (((dep to + 1 : Nat) : Int)) + ((dep n.ino + 1 : Nat) : Int) := wrap_small (by omega) (by omega)
        have w2 : w64 ((((dep to + 1 : Nat) : Int)) + ((dep n.ino + 1 : Nat) : Int) - 1) = (((dep to + 1 : Nat) : Int)) + ((dep n.ino + 1 : Nat) : Int) - 1 := wrap_small (by omega) (by omega)
        have w3 : w64 ((((dep to + 1 : Nat) : Int)) + ((dep n.ino + 1 : Nat) : Int) - 1 - (dep x : Nat)) = (((dep to + 1 : Nat) : Int)) + ((dep n.ino + 1 : Nat) : Int) - 1 - (dep x : Nat) := wrap_small (by omega) (by omega)
        rw [w1, w2, w3]
        unfold redep
        rw [if_pos hb, hb]
        simp only [hk2, beq_self_eq_true, Bool.true_and]
        rw [Bool.eq_iff_iff]
        simp only [Bool.or_eq_true, Bool.and_eq_true, decide_eq_true_eq, beq_iff_eq]
        split <;> omega
      · have : belowN t.nodes n.ino x = false := by simpa using hb
        simp [this]
    · have : (n.kind == 2) = false := by simpa using hk2
      simp [this]
  have hdx : (upDepth t.nodes x : Int) = ((dep x : Nat) : Int) := by rw [h.upDepth_eq hx hk]
  unfold deepN highN
  rw [h.depthN_eq hx hk, hdx]
  rw [Bool.eq_iff_iff]
  simp only [List.any_eq_true, decide_eq_true_eq]
  constructor
  · rintro ⟨n, hn, hp⟩
    rw [key n hn] at hp
    simp only [Bool.and_eq_true, decide_eq_true_eq] at hp
    have := (highGo_ge t.nodes x (((dep to + 1 : Nat) : Int)) ((dep x : Nat) : Int) t.nodes 0).2 n hn (by simp [hp.1.1, hp.1.2])
    omega
  · intro hh
    rcases highGo_ex t.nodes x _ _ 12 t.nodes 0 hh with h1 | ⟨n, h1, h2, h3⟩
    · omega
    · exact ⟨n, h1, by rw [key n h1, h2]; simpa using h3⟩
theorem mvW_eq {t : Tree} {dep : Int → Nat} (h : GInv t dep 0) (f : Int) (s : Bytes) (to : Int) (nm : Bytes) : mvW t f s to nm = mvN t f s to nm := by
  unfold mvW mvN
  split
  · rfl
  rename_i c1
  split
  · rfl
  rename_i c2
  split
  · rfl
  obtain ⟨dF, e, e1, e2, e3, e4, e5⟩ := look_ok (by simpa using c1)
  obtain ⟨dT, g1, g2, g3⟩ := dir_ok (show (dirN t.nodes to).2 = 0 by simpa using c2)
  have hem := (findE_mem e4).1
  obtain ⟨_, _, x1, _, m, hm, hup⟩ := h.ent _ _ e e1 hem
  have hnode : nodeN t.nodes e.ino = m := by simp [nodeN, hm]
  simp only [e5, g3, hnode, h.under g1, h.upsN_contains e.ino g1 g2]
  split
  · rfl
  rename_i c4
  split
  · rfl
  rename_i c5
  have hup' : underN dT.ents nm ≠ e.ino := by simpa using c4
  have hnf := h.ent_ne e1 hem
  have hne : e.ino ≠ to := fun hh => by
    rw [hh, g1] at hm; injection hm with hm; subst hm
    simp only [g2, beq_self_eq_true, Bool.true_and] at c5
    rw [hh, GInv.below_self] at c5
    exact c5 rfl
  have hmany : ∀ there : Bool, (underN dT.ents nm == 0) = !there → manyW t f to dT.ents there m.kind e.ino = manyN t f to dT.ents m.kind (underN dT.ents nm) e.ino := by
    intro there hth
    unfold manyW manyN
    rw [hth, h.upsN_len g1 g2, h.depthN_eq g1 g2]
    by_cases hd : dep to < 12
    · have hw : w64 (((dep to : Nat) : Int) + 1) = ((dep to + 1 : Nat) : Int) := by
        rw [show (((dep to : Nat) : Int) + 1) = ((dep to + 1 : Nat) : Int) by omega]
        exact wrap_small (by omega) (by omega)
      rw [hw]
      have hdd : decide ((12 : Int) < ((dep to + 1 : Nat) : Int)) = decide ((12 : Int) ≤ ((dep to : Nat) : Int)) := by
        rw [decide_eq_decide]; omega
      rw [hdd]
      rcases h.kind _ _ hm with hk | hk
      · simp [hk]
      · rw [h.deep_eq hm hk hd]
    · have h1 : decide ((12 : Int) < ((dep to + 1 : Nat) : Int)) = true := by rw [decide_eq_true_eq]; omega
      have h2 : decide ((12 : Int) ≤ ((dep to : Nat) : Int)) = true := by rw [decide_eq_true_eq]; omega
      rw [h1, h2]; simp
  cases hfr : findE dT.ents nm with
  | none =>
    have hu : underN dT.ents nm = 0 := by simp [underN, hfr]
    have hm1 := hmany false (by rw [hu]; rfl)
    rw [hu] at hm1 ⊢
    have hcl : clashN t.nodes m.kind 0 = 0 := by simp [clashN, h.zero]
    simp only [Option.isSome_none, Bool.false_and, Bool.false_eq_true, ↓reduceIte, hcl, bne_self_eq_false, hm1]
    split
    · rfl
    · unfold moveW moveN
      simp only [hnode, Bool.false_eq_true, ↓reduceIte, bne_self_eq_false]
  | some e2 =>
    have hu : underN dT.ents nm = e2.ino := by simp [underN, hfr]
    obtain ⟨_, _, _, _, y, hy, _⟩ := h.ent _ _ e2 g1 (findE_mem hfr).1
    have hny : nodeN t.nodes e2.ino = y := by simp [nodeN, hy]
    have hto := h.ent_ne g1 (findE_mem hfr).1
    have hy0 := (h.num _ _ hy).1
    have hm1 := hmany true (by rw [hu]; simp; omega)
    have hnu : nodeUnder t.nodes dT.ents nm = y := by simp [nodeUnder, hfr, hny]
    rw [hu] at hm1 ⊢
    have hcl : clashN t.nodes m.kind e2.ino = ontoN m y := by
      unfold clashN ontoN
      simp only [hy, Option.isSome_some, Bool.not_true, Bool.false_eq_true, ↓reduceIte, hny]
    rw [hnu, hcl]
    simp only [Option.isSome_some, Bool.true_and, hm1]
    split
    · rfl
    rename_i c6
    split
    · rfl
    have hy00 : y.ents = [] := by
      have : ontoN m y = 0 := by simpa using c6
      unfold ontoN at this
      split at this
      · cases this
      split at this
      · cases this
      split at this
      · cases this
      · rename_i k3; exact List.length_eq_zero_iff.1 (by simpa using k3)
    have hnf2 : e2.ino ≠ f := fun hh => by
      rw [hh, e1] at hy; injection hy with hy; subst hy
      rw [hy00] at hem; cases hem
    have hyl : find (leftN (leftN t.nodes f s) to nm) e2.ino = some y := by
      have f1 := find_leftN h.srt.asc e1 (s := s)
      obtain ⟨dT', hT'⟩ : ∃ dT', find (leftN t.nodes f s) to = some dT' := by rw [f1]; split <;> simp_all
      rw [find_leftN (leftN_asc h.srt.asc f s) hT', if_neg hto, f1, if_neg hnf2]
      exact hy
    have hb : (e2.ino != 0) = true := by simp; omega
    unfold moveW moveN
    simp only [hnode, ↓reduceIte, hb, unnamedW_eq hyl]
end Go.Proofs.YtnapockikkbkcaaGreat
/-
  The code of the functions that the laws reach, as the evaluator takes it: printed by a program of ours, checked by the kernel.
-/
set_option linter.defProp false
namespace Go.Proofs.YtnapockikkbkcaaGreat
open Go Go.Abs

/-- catacomb/catacomblaw07.own -/
def q31_0 : ACode :=
 (.region [
 ob 45 (.bin .eql (.tmp 42) (.cst (.int .u8 1))),
 ob 43 (.mv (.tmp 45))] false [2, 3, 4, 7, 8, 9, 10, 42, 43])
def q31_1 : ACode :=
 (.seq (.region [
 ob 59 (.loadA 3 (.tmp 11)),
 ob 60 (.mv (.tmp 12)),
 ob 61 (.mv (.tmp 13)),
 ox (.store 3 (.tmp 4) (.tmp 59)),
 ob 5 (.mv (.tmp 60)),
 ob 6 (.mv (.tmp 61))] false [4, 5, 6]) (.ret))
def q31_2 : ACode :=
 (.seq (.region [
 ob 47 (.loadA 3 (.tmp 2)),
 ob 48 (.mv (.tmp 7)),
 ob 49 (.mv (.tmp 9)),
 ob 50 (.faddr 4 (.tmp 3)),
 ob 51 (.load1 (.tmp 50)),
 ob 52 (.conv .i64 (.tmp 51)),
 ob 53 (.bin .rem (.tmp 52) (.cst (.int .i64 2))),
 ob 54 (.bin .add (.tmp 53) (.cst (.int .i64 1))),
 ob 55 (.call 28 [(.tmp 47), (.tmp 48), (.tmp 49), (.tmp 54)]),
 ob 46 (.mv (.tmp 55)),
 ob 56 (.extract (.tmp 46) 0),
 ob 57 (.extract (.tmp 46) 1),
 ob 58 (.extract (.tmp 46) 2),
 ob 11 (.box0 [(.slice .c0 []), (.int .i64 0), (.int .i64 0)]),
 ox (.store 3 (.tmp 11) (.tmp 56)),
 ob 12 (.mv (.tmp 57)),
 ob 13 (.mv (.tmp 58))] false [4, 11, 12, 13]) q31_1)
def q31_3 : ACode :=
 (.seq (.region [
 ob 72 (.loadA 3 (.tmp 14)),
 ob 73 (.mv (.tmp 15)),
 ox (.store 3 (.tmp 4) (.tmp 72)),
 ob 5 (.mv (.cst (.int .i64 0))),
 ob 6 (.mv (.tmp 73))] false [4, 5, 6]) (.ret))
def q31_4 : ACode :=
 (.seq (.region [
 ob 65 (.loadA 3 (.tmp 2)),
 ob 66 (.mv (.tmp 8)),
 ob 67 (.mv (.tmp 7)),
 ob 68 (.mv (.tmp 9)),
 ob 69 (.call 37 [(.tmp 65), (.tmp 66), (.tmp 67), (.tmp 68)]),
 ob 64 (.mv (.tmp 69)),
 ob 70 (.extract (.tmp 64) 0),
 ob 71 (.extract (.tmp 64) 1),
 ob 14 (.box0 [(.slice .c0 []), (.int .i64 0), (.int .i64 0)]),
 ox (.store 3 (.tmp 14) (.tmp 70)),
 ob 15 (.mv (.tmp 71))] false [4, 14, 15]) q31_3)
def q31_5 : ACode :=
 (.seq (.region [
 ob 84 (.loadA 3 (.tmp 16)),
 ob 85 (.mv (.tmp 17)),
 ob 86 (.mv (.tmp 18)),
 ox (.store 3 (.tmp 4) (.tmp 84)),
 ob 5 (.mv (.tmp 85)),
 ob 6 (.mv (.tmp 86))] false [4, 5, 6]) (.ret))
def q31_6 : ACode :=
 (.seq (.region [
 ob 77 (.loadA 3 (.tmp 2)),
 ob 78 (.mv (.tmp 7)),
 ob 79 (.mv (.tmp 9)),
 ob 80 (.call 38 [(.tmp 77), (.tmp 78), (.tmp 79)]),
 ob 76 (.mv (.tmp 80)),
 ob 81 (.extract (.tmp 76) 0),
 ob 82 (.extract (.tmp 76) 1),
 ob 83 (.extract (.tmp 76) 2),
 ob 16 (.box0 [(.slice .c0 []), (.int .i64 0), (.int .i64 0)]),
 ox (.store 3 (.tmp 16) (.tmp 81)),
 ob 17 (.mv (.tmp 82)),
 ob 18 (.mv (.tmp 83))] false [4, 16, 17, 18]) q31_5)
def q31_7 : ACode :=
 (.region [
 ob 89 (.bin .eql (.tmp 42) (.cst (.int .u8 5))),
 ob 87 (.mv (.tmp 89))] false [2, 3, 4, 7, 8, 9, 10, 42, 87])
def q31_8 : ACode :=
 (.seq (.region [
 ob 100 (.loadA 3 (.tmp 19)),
 ob 101 (.mv (.tmp 20)),
 ob 102 (.mv (.tmp 21)),
 ox (.store 3 (.tmp 4) (.tmp 100)),
 ob 5 (.mv (.tmp 101)),
 ob 6 (.mv (.tmp 102))] false [4, 5, 6]) (.ret))
def q31_9 : ACode :=
 (.seq (.region [
 ob 91 (.loadA 3 (.tmp 2)),
 ob 92 (.mv (.tmp 7)),
 ob 93 (.mv (.tmp 9)),
 ob 94 (.mv (.tmp 8)),
 ob 95 (.mv (.tmp 10)),
 ob 96 (.call 17 [(.tmp 91), (.tmp 92), (.tmp 93), (.tmp 94), (.tmp 95)]),
 ob 90 (.mv (.tmp 96)),
 ob 97 (.extract (.tmp 90) 0),
 ob 98 (.extract (.tmp 90) 1),
 ob 99 (.extract (.tmp 90) 2),
 ob 19 (.box0 [(.slice .c0 []), (.int .i64 0), (.int .i64 0)]),
 ox (.store 3 (.tmp 19) (.tmp 97)),
 ob 20 (.mv (.tmp 98)),
 ob 21 (.mv (.tmp 99))] false [4, 19, 20, 21]) q31_8)
def q31_10 : ACode :=
 (.seq (.region [
 ob 113 (.loadA 3 (.tmp 22)),
 ob 114 (.mv (.tmp 23)),
 ox (.store 3 (.tmp 4) (.tmp 113)),
 ob 5 (.mv (.cst (.int .i64 0))),
 ob 6 (.mv (.tmp 114))] false [4, 5, 6]) (.ret))
def q31_11 : ACode :=
 (.seq (.region [
 ob 106 (.loadA 3 (.tmp 2)),
 ob 107 (.mv (.tmp 7)),
 ob 108 (.faddr 5 (.tmp 3)),
 ob 109 (.load1 (.tmp 108)),
 ob 110 (.call 71 [(.tmp 106), (.tmp 107), (.tmp 109)]),
 ob 105 (.mv (.tmp 110)),
 ob 111 (.extract (.tmp 105) 0),
 ob 112 (.extract (.tmp 105) 1),
 ob 22 (.box0 [(.slice .c0 []), (.int .i64 0), (.int .i64 0)]),
 ox (.store 3 (.tmp 22) (.tmp 111)),
 ob 23 (.mv (.tmp 112))] false [4, 22, 23]) q31_10)
def q31_12 : ACode :=
 (.seq (.region [
 ob 104 (.bin .eql (.tmp 42) (.cst (.int .u8 6))),
 ob 103 (.mv (.tmp 104))] false [2, 3, 4, 7, 103]) (.cond (.tmp 103) q31_11 (.skip)))
def q31_13 : ACode :=
 (.seq (.seq (.region [
 ob 88 (.bin .eql (.tmp 42) (.cst (.int .u8 4))),
 ob 87 (.mv (.tmp 88))] false [2, 3, 4, 7, 8, 9, 10, 42, 87]) (.cond (.tmp 87) (.skip) q31_7)) (.cond (.tmp 87) q31_9 q31_12))
def q31_14 : ACode :=
 (.seq (.region [
 ob 75 (.bin .eql (.tmp 42) (.cst (.int .u8 3))),
 ob 74 (.mv (.tmp 75))] false [2, 3, 4, 7, 8, 9, 10, 42, 74]) (.cond (.tmp 74) q31_6 q31_13))
def q31_15 : ACode :=
 (.seq (.region [
 ob 63 (.bin .eql (.tmp 42) (.cst (.int .u8 2))),
 ob 62 (.mv (.tmp 63))] false [2, 3, 4, 7, 8, 9, 10, 42, 62]) (.cond (.tmp 62) q31_4 q31_14))
def q31_16 : ACode :=
 (.block 0 (.seq (.seq (.region [
 ob 44 (.bin .eql (.tmp 42) (.cst (.int .u8 0))),
 ob 43 (.mv (.tmp 44))] false [2, 3, 4, 7, 8, 9, 10, 42, 43]) (.cond (.tmp 43) (.skip) q31_0)) (.cond (.tmp 43) q31_2 q31_15)))
def q31_17 : ACode :=
 (.seq (.region [
 ob 121 (.loadA 3 (.tmp 24)),
 ob 122 (.mv (.tmp 25)),
 ox (.store 3 (.tmp 4) (.tmp 121)),
 ob 5 (.mv (.cst (.int .i64 0))),
 ob 6 (.mv (.tmp 122))] false [4, 5, 6]) (.ret))
def q31_18 : ACode :=
 (.seq (.region [
 ob 116 (.loadA 3 (.tmp 2)),
 ob 117 (.mv (.tmp 7)),
 ob 118 (.call 35 [(.tmp 116), (.tmp 117)]),
 ob 115 (.mv (.tmp 118)),
 ob 119 (.extract (.tmp 115) 0),
 ob 120 (.extract (.tmp 115) 1),
 ob 24 (.box0 [(.slice .c0 []), (.int .i64 0), (.int .i64 0)]),
 ox (.store 3 (.tmp 24) (.tmp 119)),
 ob 25 (.mv (.tmp 120))] false [4, 24, 25]) q31_17)
def q31_19 : ACode :=
 (.seq (.seq (.region [
 ob 40 (.faddr 0 (.tmp 3)),
 ob 41 (.load1 (.tmp 40)),
 ob 42 (.bin .rem (.tmp 41) (.cst (.int .u8 8)))] false [2, 3, 4, 7, 8, 9, 10, 42]) q31_16) q31_18)
def q31_20 : ACode :=
 (.seq (.region [
 ob 37 (.faddr 4 (.tmp 3)),
 ob 38 (.load1 (.tmp 37)),
 ob 39 (.call 16 [(.tmp 38)]),
 ob 10 (.mv (.tmp 39))] false [2, 3, 4, 7, 8, 9, 10]) q31_19)
def q31_21 : ACode :=
 (.seq (.region [
 ob 34 (.faddr 3 (.tmp 3)),
 ob 35 (.load1 (.tmp 34)),
 ob 36 (.call 16 [(.tmp 35)]),
 ob 9 (.mv (.tmp 36))] false [2, 3, 4, 7, 8, 9]) q31_20)
def q31_22 : ACode :=
 (.seq (.region [
 ob 30 (.loadA 3 (.tmp 2)),
 ob 31 (.faddr 2 (.tmp 3)),
 ob 32 (.load1 (.tmp 31)),
 ob 33 (.call 14 [(.tmp 30), (.tmp 32)]),
 ob 8 (.mv (.tmp 33))] false [2, 3, 4, 7, 8]) q31_21)
def q31_23 : ACode :=
 (.seq (.region [
 ob 26 (.loadA 3 (.tmp 2)),
 ob 27 (.faddr 1 (.tmp 3)),
 ob 28 (.load1 (.tmp 27)),
 ob 29 (.call 14 [(.tmp 26), (.tmp 28)]),
 ob 7 (.mv (.tmp 29))] false [2, 3, 4, 7]) q31_22)
def E31 := And.intro (exK_head q31_0.eq_1) (And.intro (exK_head q31_1.eq_1) (And.intro (exK_head q31_2.eq_1) (And.intro (exK_head q31_3.eq_1) (And.intro (exK_head q31_4.eq_1) (And.intro (exK_head q31_5.eq_1) (And.intro (exK_head q31_6.eq_1) (And.intro (exK_head q31_7.eq_1) (And.intro (exK_head q31_8.eq_1) (And.intro (exK_head q31_9.eq_1) (And.intro (exK_head q31_10.eq_1) (And.intro (exK_head q31_11.eq_1) (And.intro (exK_head q31_12.eq_1) (And.intro (exK_head q31_13.eq_1) (And.intro (exK_head q31_14.eq_1) (And.intro (exK_head q31_15.eq_1) (And.intro (exK_head q31_16.eq_1) (And.intro (exK_head q31_17.eq_1) (And.intro (exK_head q31_18.eq_1) (And.intro (exK_head q31_19.eq_1) (And.intro (exK_head q31_20.eq_1) (And.intro (exK_head q31_21.eq_1) (And.intro (exK_head q31_22.eq_1) (exK_head q31_23.eq_1)))))))))))))))))))))))
def ann31 : Ann := { n := 123, own := [], lv := [(0, [2, 3, 4]), (1, [2, 3, 4, 7]), (2, [2, 3, 4, 7, 8]), (3, [2, 3, 4, 7, 8, 9]), (4, [2, 3, 4, 7, 8, 9, 10]), (5, [2, 3, 4, 7, 8, 9, 10, 42]), (6, [2, 3, 4, 7, 8, 9, 10, 42, 43]), (7, [2, 3, 4, 7, 8, 9, 10, 42, 43]), (8, [4, 11, 12, 13]), (9, [4, 5, 6]), (10, [2, 3, 4, 7, 8, 9, 10, 42, 62]), (11, [4, 14, 15]), (12, [4, 5, 6]), (13, [2, 3, 4, 7, 8, 9, 10, 42, 74]), (14, [4, 16, 17, 18]), (15, [4, 5, 6]), (16, [2, 3, 4, 7, 8, 9, 10, 42, 87]), (17, [2, 3, 4, 7, 8, 9, 10, 42, 87]), (18, [4, 19, 20, 21]), (19, [4, 5, 6]), (20, [2, 3, 4, 7, 103]), (21, [4, 22, 23]), (22, [4, 5, 6]), (23, [4, 24, 25]), (24, [4, 5, 6])], lp := [] }
def fn31 : AFn := AFn.mk 2 [.cellA 4 3, .tmp 5, .tmp 6]
  (.seq (.region [
  ob 2 (.box (.tmp 0)),
  ob 3 (.box (.tmp 1)),
  ob 4 (.box0 [(.slice .c0 []), (.int .i64 0), (.int .i64 0)]),
  ob 5 (.mv (.cst (.int .i64 0))),
  ob 6 (.mv (.cst (.int .i64 0)))] false [2, 3, 4]) q31_23)
theorem ok31 : compFn Tryz.prog ann31 Tryz.f31 = some fn31 := by kernel_rfl

end Go.Proofs.YtnapockikkbkcaaGreat
/-
  What the law's own 'own' does with a right tree: what the document's answer does. Own work.
-/
namespace Go.Proofs.YtnapockikkbkcaaGreat
open Go Go.Abs
attribute [local irreducible] exK opsK opK gK forkK kr acall callOp owhen obind

theorem GInv.hnew {t : Tree} {dep : Int → Nat} {x : Int} (h : GInv t dep x) : ∀ m, m ∈ t.nodes → m.ino < t.next := fun m hm => (h.num _ _ ((find_iff h.srt.asc).2 ⟨hm, rfl⟩)).2
theorem k37 (nodes : List Node) (next cookie ino dir : Int) (s : Bytes) (hz : Sz 1000 ⟨nodes, next, cookie⟩) (hr : Srt ⟨nodes, next, cookie⟩) (hs : s.length ≤ 100000) (ha : Ascii s) (M : AMem) : callOp (acall tab) 37 [.agg [eNodes nodes, .int .i64 next, .int .i64 cookie], .int .i64 ino, .int .i64 dir, .str s] M =
    some (.tuple [eTree (lnW ⟨nodes, next, cookie⟩ ino dir s).1, .int .i64 (lnW ⟨nodes, next, cookie⟩ ino dir s).2], M) := callOp0 (c37 ⟨nodes, next, cookie⟩ ino dir s hz hr hs ha) rfl rfl rfl rfl rfl M
theorem k35 (nodes : List Node) (next cookie ino : Int) (ht : Small ⟨nodes, next, cookie⟩) (hr : Srt ⟨nodes, next, cookie⟩) (M : AMem) : callOp (acall tab) 35 [.agg [eNodes nodes, .int .i64 next, .int .i64 cookie], .int .i64 ino] M =
    some (.tuple [eTree (freeN ⟨nodes, next, cookie⟩ ino).1, .int .i64 (freeN ⟨nodes, next, cookie⟩ ino).2], M) := callOp0 (c35 ⟨nodes, next, cookie⟩ ino ht hr) rfl rfl rfl rfl rfl M
theorem k71 (nodes : List Node) (next cookie ino : Int) (data : Bytes) (ht : Small ⟨nodes, next, cookie⟩) (hr : Srt ⟨nodes, next, cookie⟩) (hd : data.length ≤ 100000) (M : AMem) : callOp (acall tab) 71 [.agg [eNodes nodes, .int .i64 next, .int .i64 cookie], .int .i64 ino, eData data] M =
    some (.tuple [eTree (putN ⟨nodes, next, cookie⟩ ino data).1, .int .i64 (putN ⟨nodes, next, cookie⟩ ino data).2], M) := callOp0 (c71 ⟨nodes, next, cookie⟩ ino data ht hr hd) rfl rfl rfl rfl rfl M
set_option maxHeartbeats 4000000 in
theorem c31 {c : Nat → Option AFn} (hc : ExtOk c) (h31 : c 31 = some fn31) {t : Tree} {dep : Int → Nat} (h : GInv t dep 0) (s : Step) (hz : Sz 1000 t) (hs : s.Ok) : acall (tabX c) 31 [eTree t, eStep s] [] = some (.tuple [eTree (doneN t s).1, .int .i64 (doneN t s).2.1, .int .i64 (doneN t s).2.2], []) := by
  obtain ⟨nodes, next, cookie⟩ := t
  obtain ⟨kind, a, b, n, m, data⟩ := s
  obtain ⟨h1, h2, h3, h4, h5, h6⟩ := hs
  simp only at h1 h2 h3 h4 h5 h6
  have ht : Small ⟨nodes, next, cookie⟩ := hz.small (by omega)
  have hr := h.srt
  have hn : nodes.length ≤ 100000 := ht.nodes
  have hm8 : (kind : Int).tmod 8 = ((kind % 8 : Nat) : Int) := by rw [Int.tmod_eq_emod_of_nonneg (by omega)]; rfl
  have hm2 : (m : Int).tmod 2 = ((m % 2 : Nat) : Int) := by rw [Int.tmod_eq_emod_of_nonneg (by omega)]; rfl
  have hw : IntKind.i64.wrap (m : Int) = m := wrap_small (by omega) (by omega)
  have hw2 : IntKind.i64.wrap (((m % 2 : Nat) : Int) + 1) = ((m % 2 : Nat) : Int) + 1 := wrap_small (by omega) (by omega)
  have e8 : ((8 : Int) = 0) = False := by simp
  have e2 : ((2 : Int) = 0) = False := by simp
  have q14 := fun i hi M => kX hc (k14 nodes next cookie i hi hn M)
  have q16 := fun i hi M => kX hc (k16 i hi M)
  have q28 := fun dir i k M => kX hc (k28 nodes next cookie dir (nameOf i) k hz hr (nameOf_len i) (nameOf_ascii i) h.hnew M)
  have q37 := fun ino dir i M => kX hc (k37 nodes next cookie ino dir (nameOf i) hz hr (nameOf_len i) (nameOf_ascii i) M)
  have q38 := fun dir i M => kX hc (k38 nodes next cookie dir (nameOf i) hz hr (nameOf_len i) (nameOf_ascii i) M)
  have q17 := fun dir i to j M => k17 hc nodes next cookie dir (nameOf i) to (nameOf j) hz hr (nameOf_len i) (nameOf_ascii i) (nameOf_len j) (nameOf_ascii j) (h.hun to (nameOf j)) M
  have q35 := fun ino M => kX hc (k35 nodes next cookie ino ht hr M)
  have q71 := fun ino M => kX hc (k71 nodes next cookie ino data ht hr h6 M)
  simp only [addW_eq h, lnW_eq h, unW_eq h, mvW_eq h] at q28 q37 q38 q17
  refine acall_ex rfl (codeX h31) rfl ?_
  simp only [fn31, E31, eTree, eTreeC, eStep, eStepC, q14, q16, h2, h3, h4, h5, hm8, e8, EVT, finish, resAll, resOf, one, astep, aop, parsFrom, Opd.ev, getS, putS, keepS, nth, setN, abin, ↓reduceIte, Nat.reduceEqDiff, reduceCtorEq, Nat.reduceAdd, writeAt, Nat.reduceLeDiff, ne_eq, backE, backM, ABox.back, Nat.reduceLT, Int.reduceLT, Int.reduceLE, Int.reduceNeg, litsOf, sepAll, fillParts, AOp.argIds, ob, og, ox]
  repeat' (first | (refine fork_split (fun hb => ?_) (fun hb => ?_) <;> simp only [hb, E31, q14, q16, h2, h3, h4, h5, hm8, hm2, e8, e2, hw, hw2, q28, q37, q38, q17, q35, q71, eTree, eTreeC, EVT, finish, resAll, resOf, one, astep, aop, parsFrom, Opd.ev, getS, putS, keepS, nth, setN, abin, ↓reduceIte, Nat.reduceEqDiff, reduceCtorEq, Nat.reduceAdd, writeAt, Nat.reduceLeDiff, ne_eq, backE, backM, ABox.back, Nat.reduceLT, Int.reduceLT, Int.reduceLE, Int.reduceNeg, litsOf, sepAll, fillParts, AOp.argIds, ob, og, ox]) | (refine guard_split (fun hb => ?_) (fun hb => ?_) <;> simp only [hb, E31, q14, q16, h2, h3, h4, h5, hm8, hm2, e8, e2, hw, hw2, q28, q37, q38, q17, q35, q71, eTree, eTreeC, EVT, finish, resAll, resOf, one, astep, aop, parsFrom, Opd.ev, getS, putS, keepS, nth, setN, abin, ↓reduceIte, Nat.reduceEqDiff, reduceCtorEq, Nat.reduceAdd, writeAt, Nat.reduceLeDiff, ne_eq, backE, backM, ABox.back, Nat.reduceLT, Int.reduceLT, Int.reduceLE, Int.reduceNeg, litsOf, sepAll, fillParts, AOp.argIds, ob, og, ox]) | (refine opK_pick (fun hb => ?_) (fun hb => ?_) <;> simp only [hb, E31, q14, q16, h2, h3, h4, h5, hm8, hm2, e8, e2, hw, hw2, q28, q37, q38, q17, q35, q71, eTree, eTreeC, EVT, finish, resAll, resOf, one, astep, aop, parsFrom, Opd.ev, getS, putS, keepS, nth, setN, abin, ↓reduceIte, Nat.reduceEqDiff, reduceCtorEq, Nat.reduceAdd, writeAt, Nat.reduceLeDiff, ne_eq, backE, backM, ABox.back, Nat.reduceLT, Int.reduceLT, Int.reduceLE, Int.reduceNeg, litsOf, sepAll, fillParts, AOp.argIds, ob, og, ox]))
  all_goals clear q14 q16 q28 q37 q38 q17 q35 q71
  all_goals (simp_all only [doneN, eTree, eTreeC, Bool.and_true, Bool.true_and, Bool.and_false, Bool.false_and, Bool.or_true, Bool.true_or, Bool.or_false, Bool.false_or, Bool.not_true, Bool.not_false, Bool.and_self, Bool.or_self, ↓reduceIte, Bool.false_eq_true, reduceCtorEq, beq_self_eq_true, bne_self_eq_false]; done)
theorem k31 {c : Nat → Option AFn} (hc : ExtOk c) (h31 : c 31 = some fn31) {nodes : List Node} {next cookie : Int} {dep : Int → Nat} (h : GInv ⟨nodes, next, cookie⟩ dep 0) (s : Step) (hz : Sz 1000 ⟨nodes, next, cookie⟩) (hs : s.Ok) (M : AMem) : callOp (acall (tabX c)) 31 [.agg [eNodes nodes, .int .i64 next, .int .i64 cookie], .agg (eStepC s)] M =
    some (.tuple [eTree (doneN ⟨nodes, next, cookie⟩ s).1, .int .i64 (doneN ⟨nodes, next, cookie⟩ s).2.1, .int .i64 (doneN ⟨nodes, next, cookie⟩ s).2.2], M) := callOp0 (c31 hc h31 h s hz hs) rfl rfl rfl rfl rfl M
end Go.Proofs.YtnapockikkbkcaaGreat
/-
  The code of the functions that the laws reach, as the evaluator takes it: printed by a program of ours, checked by the kernel.
-/
set_option linter.defProp false
namespace Go.Proofs.YtnapockikkbkcaaGreat
open Go Go.Abs

/-- catacomb/catacomblaw07.TreeLinks -/
def q9_0 : ACode :=
 (.seq (.region [
 ob 23 (.mv (.tmp 5)),
 ob 4 (.mv (.tmp 23))] false [4]) (.ret))
def q9_1 : ACode :=
 (.seq (.region [
 ob 4 (.mv (.cst (.bool false)))] false [4]) (.ret))
def q9_2 : ACode :=
 (.seq (.region [
 ob 55 (.faddr 2 (.tmp 10)),
 ob 56 (.load1 (.tmp 55)),
 ob 57 (.mv (.tmp 11)),
 ob 58 (.bin .neq (.tmp 56) (.tmp 57)),
 ob 59 (.mv (.tmp 58)),
 og 60 59 false (.faddr 1 (.tmp 10)),
 og 61 59 false (.load1 (.tmp 60)),
 og 62 59 false (.bin .eql (.tmp 61) (.cst (.int .i64 2))),
 og 63 59 false (.mv (.tmp 62)),
 og 64 63 true (.faddr 0 (.tmp 10)),
 og 65 63 true (.load1 (.tmp 64)),
 og 66 63 true (.bin .neq (.tmp 65) (.cst (.int .i64 1))),
 og 67 59 false (.pick (.tmp 63) (.tmp 66) (.cst (.bool false))),
 og 68 59 false (.mv (.tmp 67)),
 og 69 68 true (.mv (.tmp 11)),
 og 70 68 true (.bin .neq (.tmp 69) (.cst (.int .i64 1))),
 og 71 59 false (.pick (.tmp 68) (.tmp 70) (.cst (.bool false))),
 ob 72 (.pick (.tmp 59) (.cst (.bool true)) (.tmp 71)),
 ob 73 (.mv (.tmp 72)),
 og 74 73 false (.faddr 1 (.tmp 10)),
 og 75 73 false (.load1 (.tmp 74)),
 og 76 73 false (.bin .eql (.tmp 75) (.cst (.int .i64 2))),
 og 77 73 false (.mv (.tmp 76)),
 og 78 77 true (.mv (.tmp 13)),
 og 79 77 true (.bin .neq (.tmp 78) (.cst (.int .i64 72))),
 og 80 73 false (.pick (.tmp 77) (.tmp 79) (.cst (.bool false))),
 ob 81 (.pick (.tmp 73) (.cst (.bool true)) (.tmp 80)),
 ob 82 (.mv (.tmp 81)),
 og 83 82 false (.faddr 1 (.tmp 10)),
 og 84 82 false (.load1 (.tmp 83)),
 og 85 82 false (.bin .eql (.tmp 84) (.cst (.int .i64 1))),
 og 86 82 false (.mv (.tmp 85)),
 og 87 86 true (.mv (.tmp 13)),
 og 88 86 true (.bin .eql (.tmp 87) (.cst (.int .i64 0))),
 og 89 86 true (.mv (.tmp 11)),
 og 90 86 true (.bin .eql (.tmp 89) (.cst (.int .i64 0))),
 og 91 86 true (.eqB true (.tmp 88) (.tmp 90)),
 og 92 82 false (.pick (.tmp 86) (.tmp 91) (.cst (.bool false))),
 ob 93 (.pick (.tmp 82) (.cst (.bool true)) (.tmp 92))] false [5, 6, 9, 93]) (.cond (.tmp 93) q9_1 (.skip)))
def q9_3 : ACode :=
 (.seq (.region [
 ob 49 (.loadA 3 (.tmp 6)),
 ob 50 (.faddr 0 (.tmp 10)),
 ob 51 (.load1 (.tmp 50)),
 ob 52 (.call 35 [(.tmp 49), (.tmp 51)]),
 ob 48 (.mv (.tmp 52)),
 ob 53 (.extract (.tmp 48) 0),
 ob 54 (.extract (.tmp 48) 1),
 ob 12 (.box0 [(.slice .c0 []), (.int .i64 0), (.int .i64 0)]),
 ox (.store 3 (.tmp 12) (.tmp 53)),
 ob 13 (.mv (.tmp 54))] false [5, 6, 9, 10, 11, 13]) q9_2)
def q9_4 : ACode :=
 (.seq (.region [
 ob 44 (.loadA 3 (.tmp 6)),
 ob 45 (.faddr 0 (.tmp 10)),
 ob 46 (.load1 (.tmp 45)),
 ob 47 (.call 34 [(.tmp 44), (.tmp 46)]),
 ob 11 (.mv (.tmp 47))] false [5, 6, 9, 10, 11]) q9_3)
def q9_5 : ACode :=
 (.region [
 ob 37 (.mv (.tmp 9)),
 ob 38 (.bin .add (.tmp 37) (.cst (.int .i64 1))),
 ob 9 (.mv (.tmp 38))] false [5, 6, 9])
def q9_6 : ACode :=
 (.seq (.block 1 (.seq (.region [
 ob 39 (.faddr 0 (.tmp 6)),
 ob 40 (.load1 (.tmp 39)),
 ob 41 (.mv (.tmp 9)),
 ob 42 (.iaddr 6 (.tmp 40) (.tmp 41)),
 ob 43 (.loadA 6 (.tmp 42)),
 ob 10 (.box0 [(.int .i64 0), (.int .i64 0), (.int .i64 0), (.slice .c0 []), (.slice .c0 []), (.int .i64 0)]),
 ox (.store 6 (.tmp 10) (.tmp 43))] false [5, 6, 9, 10]) q9_4)) q9_5)
def lb9_0 : ACode :=
 (.seq (.seq (.region [
 ob 32 (.mv (.tmp 9)),
 ob 33 (.faddr 0 (.tmp 6)),
 ob 34 (.load1 (.tmp 33)),
 ob 35 (.lenV (.tmp 34)),
 ob 36 (.bin .lss (.tmp 32) (.tmp 35))] false [5, 6, 9, 36]) (.cond (.tmp 36) (.skip) (.exit 0))) q9_6)
def q9_7 : ACode :=
 (.seq (.region [
 ob 94 (.mv (.tmp 5)),
 ob 95 (.mv (.tmp 94)),
 og 96 95 true (.faddr 0 (.tmp 6)),
 og 97 95 true (.load1 (.tmp 96)),
 og 98 95 true (.lenV (.tmp 97)),
 og 99 95 true (.bin .gtr (.tmp 98) (.cst (.int .i64 0))),
 ob 100 (.pick (.tmp 95) (.tmp 99) (.cst (.bool false))),
 ob 4 (.mv (.tmp 100))] false [4]) (.ret))
def q9_8 : ACode :=
 (.seq (.seq (.region [
 ob 9 (.mv (.cst (.int .i64 0)))] false [5, 6, 9]) (.block 0 (.loop [5, 6, 9] lb9_0))) q9_7)
def q9_9 : ACode :=
 (.seq (.region [
 ob 25 (.mv (.tmp 0)),
 ⟨(some 26), .call 13 [(.tmp 25)], none, false, true, []⟩,
 ob 27 (.loadA 6 (.tmp 3)),
 ⟨(some 28), .call 31 [(.tmp 26), (.tmp 27)], none, false, true, []⟩,
 ob 24 (.mv (.tmp 28)),
 ob 29 (.extract (.tmp 24) 0),
 ob 30 (.extract (.tmp 24) 1),
 ob 31 (.extract (.tmp 24) 2),
 ⟨(some 6), .box0 [(.slice .c0 []), (.int .i64 0), (.int .i64 0)], none, true, false, []⟩,
 ox (.store 3 (.tmp 6) (.tmp 29)),
 ob 7 (.mv (.tmp 30)),
 ob 8 (.mv (.tmp 31))] true [5, 6]) q9_8)
def q9_10 : ACode :=
 (.seq (.seq (.region [
 ob 15 (.mv (.tmp 0)),
 ob 16 (.call 12 [(.tmp 15)]),
 ob 17 (.mv (.tmp 16)),
 og 18 17 false (.faddr 5 (.tmp 3)),
 og 19 17 false (.load1 (.tmp 18)),
 og 20 17 false (.lenV (.tmp 19)),
 og 21 17 false (.bin .gtr (.tmp 20) (.cst (.int .i64 5000))),
 ob 22 (.pick (.tmp 17) (.cst (.bool true)) (.tmp 21))] false [0, 3, 5, 22]) (.cond (.tmp 22) q9_0 (.skip))) q9_9)
def q9_11 : ACode :=
 (.seq (.region [
 ob 14 (.call 11 []),
 ob 5 (.mv (.tmp 14))] false [0, 3, 5]) q9_10)
def E9 := And.intro (exK_head q9_0.eq_1) (And.intro (exK_head q9_1.eq_1) (And.intro (exK_head q9_2.eq_1) (And.intro (exK_head q9_3.eq_1) (And.intro (exK_head q9_4.eq_1) (And.intro (exK_head q9_5.eq_1) (And.intro (exK_head q9_6.eq_1) (And.intro (exK_head lb9_0.eq_1) (And.intro (exK_head q9_7.eq_1) (And.intro (exK_head q9_8.eq_1) (And.intro (exK_head q9_9.eq_1) (And.intro (exK_head q9_10.eq_1) (exK_head q9_11.eq_1))))))))))))
def ann9 : Ann := { n := 101, own := [], lv := [(0, [0, 3]), (1, [0, 3, 5]), (2, [0, 3, 5, 22]), (3, [4]), (4, [5, 6]), (5, [5, 6, 9]), (6, [5, 6, 9, 36]), (7, [5, 6, 9]), (8, [5, 6, 9, 10]), (9, [5, 6, 9, 10, 11]), (10, [5, 6, 9, 10, 11, 13]), (11, [5, 6, 9, 93]), (12, [4]), (13, [4])], lp := [(6, [5, 6, 9])] }
def fn9 : AFn := AFn.mk 2 [.tmp 4]
  (.seq (.region [
  ob 3 (.box (.tmp 1)),
  ob 4 (.mv (.cst (.bool false)))] false [0, 3]) q9_11)
theorem ok9 : compFn Tryz.prog ann9 Tryz.f9 = some fn9 := by kernel_rfl

/-- catacomb/catacomblaw07.linked -/
def q34_0 : ACode :=
 (.region [
 ob 38 (.mv (.tmp 5)),
 ob 39 (.bin .add (.tmp 38) (.cst (.int .i64 1))),
 ob 5 (.mv (.tmp 39))] false [1, 2, 5, 6, 7])
def q34_1 : ACode :=
 (.region [
 ob 24 (.mv (.tmp 7)),
 ob 25 (.bin .add (.tmp 24) (.cst (.int .i64 1))),
 ob 7 (.mv (.tmp 25))] false [1, 2, 5, 6, 7])
def q34_2 : ACode :=
 (.seq (.block 3 (.seq (.region [
 ob 26 (.faddr 0 (.tmp 2)),
 ob 27 (.load1 (.tmp 26)),
 ob 28 (.mv (.tmp 6)),
 ob 29 (.iaddr 6 (.tmp 27) (.tmp 28)),
 ob 30 (.faddr 4 (.tmp 29)),
 ob 31 (.load1 (.tmp 30)),
 ob 32 (.mv (.tmp 7)),
 ob 33 (.iaddr 3 (.tmp 31) (.tmp 32)),
 ob 34 (.faddr 1 (.tmp 33)),
 ob 35 (.load1 (.tmp 34)),
 ob 36 (.mv (.tmp 1)),
 ob 37 (.bin .eql (.tmp 35) (.tmp 36))] false [1, 2, 5, 6, 7, 37]) (.cond (.tmp 37) q34_0 (.skip)))) q34_1)
def lb34_0 : ACode :=
 (.seq (.seq (.region [
 ob 15 (.mv (.tmp 7)),
 ob 16 (.faddr 0 (.tmp 2)),
 ob 17 (.load1 (.tmp 16)),
 ob 18 (.mv (.tmp 6)),
 ob 19 (.iaddr 6 (.tmp 17) (.tmp 18)),
 ob 20 (.faddr 4 (.tmp 19)),
 ob 21 (.load1 (.tmp 20)),
 ob 22 (.lenV (.tmp 21)),
 ob 23 (.bin .lss (.tmp 15) (.tmp 22))] false [1, 2, 5, 6, 7, 23]) (.cond (.tmp 23) (.skip) (.exit 2))) q34_2)
def q34_3 : ACode :=
 (.region [
 ob 13 (.mv (.tmp 6)),
 ob 14 (.bin .add (.tmp 13) (.cst (.int .i64 1))),
 ob 6 (.mv (.tmp 14))] false [1, 2, 5, 6])
def q34_4 : ACode :=
 (.seq (.block 1 (.seq (.region [
 ob 7 (.mv (.cst (.int .i64 0)))] false [1, 2, 5, 6, 7]) (.block 2 (.loop [1, 2, 5, 6, 7] lb34_0)))) q34_3)
def lb34_1 : ACode :=
 (.seq (.seq (.region [
 ob 8 (.mv (.tmp 6)),
 ob 9 (.faddr 0 (.tmp 2)),
 ob 10 (.load1 (.tmp 9)),
 ob 11 (.lenV (.tmp 10)),
 ob 12 (.bin .lss (.tmp 8) (.tmp 11))] false [1, 2, 5, 6, 12]) (.cond (.tmp 12) (.skip) (.exit 0))) q34_4)
def q34_5 : ACode :=
 (.seq (.region [
 ob 40 (.mv (.tmp 5)),
 ob 4 (.mv (.tmp 40))] false [4]) (.ret))
def q34_6 : ACode :=
 (.seq (.seq (.region [
 ob 6 (.mv (.cst (.int .i64 0)))] false [1, 2, 5, 6]) (.block 0 (.loop [1, 2, 5, 6] lb34_1))) q34_5)
def q34_7 : ACode :=
 (.seq (.region [
 ob 5 (.mv (.cst (.int .i64 0)))] false [1, 2, 5]) q34_6)
def E34 := And.intro (exK_head q34_0.eq_1) (And.intro (exK_head q34_1.eq_1) (And.intro (exK_head q34_2.eq_1) (And.intro (exK_head lb34_0.eq_1) (And.intro (exK_head q34_3.eq_1) (And.intro (exK_head q34_4.eq_1) (And.intro (exK_head lb34_1.eq_1) (And.intro (exK_head q34_5.eq_1) (And.intro (exK_head q34_6.eq_1) (exK_head q34_7.eq_1)))))))))
def ann34 : Ann := { n := 41, own := [], lv := [(0, [1, 2]), (1, [1, 2, 5]), (2, [1, 2, 5, 6]), (3, [1, 2, 5, 6, 12]), (4, [1, 2, 5, 6]), (5, [1, 2, 5, 6, 7]), (6, [1, 2, 5, 6, 7, 23]), (7, [1, 2, 5, 6, 7]), (8, [1, 2, 5, 6, 7, 37]), (9, [1, 2, 5, 6, 7]), (10, [4])], lp := [(3, [1, 2, 5, 6]), (6, [1, 2, 5, 6, 7])] }
def fn34 : AFn := AFn.mk 2 [.tmp 4]
  (.seq (.region [
  ob 2 (.box (.tmp 0)),
  ob 4 (.mv (.cst (.int .i64 0)))] false [1, 2]) q34_7)
theorem ok34 : compFn Tryz.prog ann34 Tryz.f34 = some fn34 := by kernel_rfl

end Go.Proofs.YtnapockikkbkcaaGreat
/-
  A law of the evaluator as the row's claim: TreeLinks. Printed by a program of ours, after the guide's worked proofs. Own work.
-/
namespace Go.Proofs.YtnapockikkbkcaaGreat
open Go Go.Abs Go.ChangeShapes Go.WideShapes Go.RowKit Go.Deep

set_option maxRecDepth 100000 in
theorem treeLinks_lifted {T : Tab} (hT : SoundC Tryz.prog (acall T)) (K : ∀ (x0 : List Step) (x1 : Step), (∀ s, s ∈ x0 → stepOk s) → stepOk x1 → acall T 9 [eSteps x0, eStep x1] [] = some (.bool true, []))
    (os : Os) (started : os.Started) (H : Type) (enc : TypeId × Value → H) :
    ReturnsInHanded {} Tryz.checked os 9 .any (Rows.treeLinksSpec.pre6 enc Tryz.prog Tryz.f9 Rows.treeLinksRow.domain false) (Rows.treeLinksSpec.post enc Tryz.prog Tryz.f9 false Rows.treeLinksRow.fresh Rows.treeLinksRow.handsOn Rows.treeLinksRow.again) := by
  refine returnsInHanded_of_change (C := Tryz.checked) ownK started (by kernel_rfl) Tryz.func9
    (ChangeSpec.witness6 (enc := enc) (C := Tryz.checked) false ⟨#[], #[.slice none 0 0, .agg #[.int .u8 0, .int .u8 0, .int .u8 0, .int .u8 0, .int .u8 0, .slice none 0 0]], []⟩ 8 (by kernel_rfl) (by kernel_rfl) (by kernel_rfl) (by kernel_rfl)) ?_
  intro W base args ds gs before hval0 hW _ _
  have hval : ∀ (j : Nat) t v, Tryz.f9.params[j]? = some t → args[j]? = some v → Value.okWide Tryz.prog W .any base t v := hval0
  have hW' := hW
  obtain ⟨p, q, hA0, hV, rfl, _, _⟩ := hW
  have hA : DataW.TrodAll enc Tryz.prog W 0 (fun _ => true) true Tryz.f9.params.toList args.toList ds p := hA0
  have hA1 := hA
  rw [Tryz.params9] at hA hval
  obtain ⟨v0, vs1, d0, ds1, p0, q0, hvs0, rfl, rfl, h0, hA⟩ := trodAll_cons hA
  obtain ⟨v1, vs2, d1, ds2, p1, q1, rfl, rfl, rfl, h1, hA⟩ := trodAll_cons hA
  obtain ⟨rfl, rfl, rfl⟩ := trodAll_nil hA
  obtain rfl := two_of hvs0
  obtain ⟨rfl, rfl⟩ := trodVars_none hV
  obtain ⟨m0, l0, r0⟩ := steps_rep h0 (steps_cells Tryz.underlying22 (hval 0 22 _ rfl rfl))
  obtain ⟨m1, l1, r1⟩ := step_val h1 (hval 1 52 _ rfl rfl)
  have hlt : ∀ x ∈ (p0 ++ (p1 ++ [])), x.block < W.heap.size := fun x hx => hW'.lt x (by simpa using hx)
  refine (plain_callS hT (K m0 m1 l0 l1) W _ rfl ?_).mono ?_
  · intro i c v hc hv
    match i with
    | 0 => cases hc; cases hv; exact .plain r0
    | 1 => cases hc; cases hv; exact r1
    | i + 2 => cases hc
  · rintro e W' ⟨v, j', rfl, hb, hrep⟩
    obtain rfl := hrep.bool_inv
    exact ⟨_, rfl, ⟨_, _, _, [], _, [], hW', trodAll_mk1 (shut_bool Tryz.underlying4 true), trodAll_stays hb hA1 (by rw [Tryz.params9]; intro t ht; simp at ht; rcases ht with rfl | rfl <;> exact ⟨by kernel_rfl, of_decide_eq_true (by kernel_rfl)⟩) hlt, rfl, hb.frame _, fun h => by cases h⟩⟩

theorem treeLinks_of {T : Tab} (hT : SoundC Tryz.prog (acall T)) (K : ∀ (x0 : List Step) (x1 : Step), (∀ s, s ∈ x0 → stepOk s) → stepOk x1 → acall T 9 [eSteps x0, eStep x1] [] = some (.bool true, [])) : Rows.TreeLinksSaid :=
  OpenClaim.holds_of_wide 9 Tryz.f9 rfl rfl rfl rfl rfl rfl rfl ⟨rfl, rfl, rfl, rfl, rfl⟩ rfl rfl rfl rfl rfl (by kernel_rfl) Tryz.func9 (by kernel_rfl)
    (of_decide_eq_true (by kernel_rfl)) (by unfold Func.isWrapper; rw [if_neg (by decide +kernel)]; exact ⟨rfl, rfl⟩)
    (fun os started H enc _ => treeLinks_lifted hT K os started H enc)

end Go.Proofs.YtnapockikkbkcaaGreat
/-
  The law TreeLinks. Own work.
-/
namespace Go.Proofs.YtnapockikkbkcaaGreat
open Go Go.Abs
attribute [local irreducible] exK opsK opK gK forkK kr acall callOp owhen obind

def cLi : Nat → Option AFn
  | 9 => some fn9
  | 31 => some fn31
  | 34 => some fn34
  | _ => none
theorem xLi : ExtOk cLi := by
  refine ⟨fun f fn h => ?_, fun f fn h => ?_⟩
  · unfold cLi at h
    split at h
    · injection h with h; subst h; exact ⟨_, _, Tryz.func9, ok9⟩
    · injection h with h; subst h; exact ⟨_, _, Tryz.func31, ok31⟩
    · injection h with h; subst h; exact ⟨_, _, Tryz.func34, ok34⟩
    · cases h
  · unfold cLi at h
    split at h
    · exact ⟨rfl, rfl⟩
    · exact ⟨rfl, rfl⟩
    · exact ⟨rfl, rfl⟩
    · cases h
theorem loop34a {nodes : List Node} {next cookie ino : Int} {i : Nat} {n : Node} (hn : nodes.length ≤ 100000) (hi : nodes[i]? = some n) (he : n.ents.length ≤ 100000) {B : Nat} (hB : B ≤ 1000000) {k : List K} {R : Nat → Option (AVal × AMem)}
    (hx : ∀ (z : Nat) v q, z ≤ B → kr (acall (tabX cLi)) [.tmp 4] 0 k ⟨.exit 2, [(1, .int .i64 ino), (2, .ptr 0 0), (5, .int .i64 z), (6, .int .i64 i), (7, v), (23, q)], [.cells [eNodes nodes, .int .i64 next, .int .i64 cookie]]⟩ = R z) :
    ∀ (l pre : List Ent) (c : Nat), n.ents = pre ++ l → c + cntE l ino ≤ B → exK (acall (tabX cLi)) [.tmp 4] 0 k (.loop [1, 2, 5, 6, 7] lb34_0) [(1, .int .i64 ino), (2, .ptr 0 0), (5, .int .i64 c), (6, .int .i64 i), (7, .int .i64 pre.length)] [.cells [eNodes nodes, .int .i64 next, .int .i64 cookie]] = R (c + cntE l ino) := by
  have hil : i < nodes.length := (List.getElem?_eq_some_iff.1 hi).1
  intro l
  induction l with
  | nil =>
    intro pre c h hb
    rw [exK_loop]
    simp only [E34, hi, eNodeC, lt_end h, EVT, finish, resAll, resOf, one, astep, aop, parsFrom, Opd.ev, getS, putS, keepS, nth, setN, abin, ↓reduceIte, Nat.reduceEqDiff, reduceCtorEq, Nat.reduceAdd, writeAt, Nat.reduceLeDiff, ne_eq, backE, backM, ABox.back, Nat.reduceLT, Int.reduceLT, Int.reduceLE, Int.reduceNeg, litsOf, sepAll, fillParts, AOp.argIds, ob, og, ox]
    exact hx _ _ _ hb
  | cons x r ih =>
    intro pre c h hb
    rw [exK_loop]
    have hlen : pre.length + 1 ≤ 100000 := by rw [h] at he; simp at he; omega
    have hw : IntKind.i64.wrap ((pre.length : Int) + 1) = ((pre ++ [x]).length : Int) := by rw [wrap_small (by omega) (by omega)]; exact step_len
    rw [cntE_cons] at hb ⊢
    simp only [E34, hi, eNodeC, lt_mid h, at_mid h, eEntC, EVT, finish, resAll, resOf, one, astep, aop, parsFrom, Opd.ev, getS, putS, keepS, nth, setN, abin, ↓reduceIte, Nat.reduceEqDiff, reduceCtorEq, Nat.reduceAdd, writeAt, Nat.reduceLeDiff, ne_eq, backE, backM, ABox.back, Nat.reduceLT, Int.reduceLT, Int.reduceLE, Int.reduceNeg, litsOf, sepAll, fillParts, AOp.argIds, ob, og, ox]
    refine fork_split (fun hq => ?_) (fun hq => ?_)
    · have hq' : x.ino = ino := by simpa using hq
      rw [if_pos hq'] at hb ⊢
      have hwc : IntKind.i64.wrap ((c : Int) + 1) = ((c + 1 : Nat) : Int) := by rw [wrap_small (by omega) (by omega)]; omega
      have hh := ih (pre ++ [x]) (c + 1) (by rw [h]; simp) (by omega)
      simp only [List.length_append, List.length_cons, List.length_nil] at hh
      simp only [E34, hw, hwc, EVT, finish, resAll, resOf, one, astep, aop, parsFrom, Opd.ev, getS, putS, keepS, nth, setN, abin, ↓reduceIte, Nat.reduceEqDiff, reduceCtorEq, Nat.reduceAdd, writeAt, Nat.reduceLeDiff, ne_eq, backE, backM, ABox.back, Nat.reduceLT, Int.reduceLT, Int.reduceLE, Int.reduceNeg, litsOf, sepAll, fillParts, AOp.argIds, ob, og, ox]
      rw [show c + (cntE r ino + 1) = c + 1 + cntE r ino by omega]
      exact hh
    · have hq' : ¬ x.ino = ino := by simpa using hq
      rw [if_neg hq'] at hb ⊢
      have hh := ih (pre ++ [x]) c (by rw [h]; simp) (by omega)
      simp only [List.length_append, List.length_cons, List.length_nil] at hh
      simp only [E34, hw, EVT, finish, resAll, resOf, one, astep, aop, parsFrom, Opd.ev, getS, putS, keepS, nth, setN, abin, ↓reduceIte, Nat.reduceEqDiff, reduceCtorEq, Nat.reduceAdd, writeAt, Nat.reduceLeDiff, ne_eq, backE, backM, ABox.back, Nat.reduceLT, Int.reduceLT, Int.reduceLE, Int.reduceNeg, litsOf, sepAll, fillParts, AOp.argIds, ob, og, ox]
      exact hh
theorem loop34b {nodes : List Node} {next cookie ino : Int} (hn : nodes.length ≤ 100000) (he : ∀ n, n ∈ nodes → n.ents.length ≤ 100000) {k : List K} {R : Nat → Option (AVal × AMem)}
    (hx : ∀ (z : Nat) v q, kr (acall (tabX cLi)) [.tmp 4] 0 k ⟨.exit 0, [(1, .int .i64 ino), (2, .ptr 0 0), (5, .int .i64 z), (6, v), (12, q)], [.cells [eNodes nodes, .int .i64 next, .int .i64 cookie]]⟩ = R z) :
    ∀ (l pre : List Node) (c : Nat), nodes = pre ++ l → c + cnt l ino ≤ 1000000 → exK (acall (tabX cLi)) [.tmp 4] 0 k (.loop [1, 2, 5, 6] lb34_1) [(1, .int .i64 ino), (2, .ptr 0 0), (5, .int .i64 c), (6, .int .i64 pre.length)] [.cells [eNodes nodes, .int .i64 next, .int .i64 cookie]] = R (c + cnt l ino) := by
  intro l
  induction l with
  | nil =>
    intro pre c h hb
    rw [exK_loop]
    simp only [E34, lt_end h, EVT, finish, resAll, resOf, one, astep, aop, parsFrom, Opd.ev, getS, putS, keepS, nth, setN, abin, ↓reduceIte, Nat.reduceEqDiff, reduceCtorEq, Nat.reduceAdd, writeAt, Nat.reduceLeDiff, ne_eq, backE, backM, ABox.back, Nat.reduceLT, Int.reduceLT, Int.reduceLE, Int.reduceNeg, litsOf, sepAll, fillParts, AOp.argIds, ob, og, ox]
    exact hx _ _ _
  | cons x r ih =>
    intro pre c h hb
    rw [exK_loop]
    have hlen : pre.length + 1 ≤ 100000 := by rw [h] at hn; simp at hn; omega
    have hw : IntKind.i64.wrap ((pre.length : Int) + 1) = ((pre ++ [x]).length : Int) := by rw [wrap_small (by omega) (by omega)]; exact step_len
    rw [cnt_cons] at hb ⊢
    simp only [E34, lt_mid h, EVT, finish, resAll, resOf, one, astep, aop, parsFrom, Opd.ev, getS, putS, keepS, nth, setN, abin, ↓reduceIte, Nat.reduceEqDiff, reduceCtorEq, Nat.reduceAdd, writeAt, Nat.reduceLeDiff, ne_eq, backE, backM, ABox.back, Nat.reduceLT, Int.reduceLT, Int.reduceLE, Int.reduceNeg, litsOf, sepAll, fillParts, AOp.argIds, ob, og, ox]
    refine (loop34a (B := c + cntE x.ents ino) (R := fun z => R (z + cnt r ino)) hn (at_mid h) (he x (by rw [h]; simp)) (by omega) (fun z v q hz => ?_) x.ents [] c rfl (Nat.le_refl _)).trans (by rw [Nat.add_assoc])
    have hh := ih (pre ++ [x]) z (by rw [h]; simp) (by omega)
    simp only [List.length_append, List.length_cons, List.length_nil] at hh
    simp only [E34, hw, EVT, finish, resAll, resOf, one, astep, aop, parsFrom, Opd.ev, getS, putS, keepS, nth, setN, abin, ↓reduceIte, Nat.reduceEqDiff, reduceCtorEq, Nat.reduceAdd, writeAt, Nat.reduceLeDiff, ne_eq, backE, backM, ABox.back, Nat.reduceLT, Int.reduceLT, Int.reduceLE, Int.reduceNeg, litsOf, sepAll, fillParts, AOp.argIds, ob, og, ox]
    exact hh
theorem c34 (t : Tree) (ino : Int) (ht : Small t) (hb : cnt t.nodes ino ≤ 1000000) : acall (tabX cLi) 34 [eTree t, .int .i64 ino] [] = some (.int .i64 (cnt t.nodes ino), []) := by
  obtain ⟨nodes, next, cookie⟩ := t
  refine acall_ex rfl rfl rfl ?_
  simp only [fn34, E34, eTree, eTreeC, EVT, finish, resAll, resOf, one, astep, aop, parsFrom, Opd.ev, getS, putS, keepS, nth, setN, abin, ↓reduceIte, Nat.reduceEqDiff, reduceCtorEq, Nat.reduceAdd, writeAt, Nat.reduceLeDiff, ne_eq, backE, backM, ABox.back, Nat.reduceLT, Int.reduceLT, Int.reduceLE, Int.reduceNeg, litsOf, sepAll, fillParts, AOp.argIds, ob, og, ox]
  refine (loop34b (R := fun z => some (.int .i64 z, [])) ht.nodes ht.ents (fun z v q => by simp only [E34, EVT, finish, resAll, resOf, one, astep, aop, parsFrom, Opd.ev, getS, putS, keepS, nth, setN, abin, ↓reduceIte, Nat.reduceEqDiff, reduceCtorEq, Nat.reduceAdd, writeAt, Nat.reduceLeDiff, ne_eq, backE, backM, ABox.back, Nat.reduceLT, Int.reduceLT, Int.reduceLE, Int.reduceNeg, litsOf, sepAll, fillParts, AOp.argIds, ob, og, ox]) nodes [] 0 rfl (by simpa using hb)).trans (by rw [Nat.zero_add])
theorem k34 (nodes : List Node) (next cookie ino : Int) (ht : Small ⟨nodes, next, cookie⟩) (hb : cnt nodes ino ≤ 1000000) (M : AMem) : callOp (acall (tabX cLi)) 34 [.agg [eNodes nodes, .int .i64 next, .int .i64 cookie], .int .i64 ino] M = some (.int .i64 (cnt nodes ino), M) := callOp0 (c34 ⟨nodes, next, cookie⟩ ino ht hb) rfl rfl rfl rfl rfl M
/-- What the law asks of each node. -/
structure GoodL (t : Tree) (p : Node) : Prop where
  links : p.links = cnt t.nodes p.ino
  one : p.kind = 2 → p.ino ≠ 1 → cnt t.nodes p.ino = 1
  dir : p.kind = 2 → (freeN t p.ino).2 = 72
  file : p.kind = 1 → ((freeN t p.ino).2 = 0 ↔ cnt t.nodes p.ino = 0)
theorem GInv.goodL {t : Tree} {dep : Int → Nat} (h : GInv t dep 0) {p : Node} (hp : p ∈ t.nodes) : GoodL t p := by
  have hf : find t.nodes p.ino = some p := (find_iff h.srt.asc).2 ⟨hp, rfl⟩
  have hl := h.links _ _ hf
  rw [if_neg (by have := (h.num _ _ hf).1; omega)] at hl
  have hn : nodeN t.nodes p.ino = p := by simp [nodeN, hf]
  refine ⟨by omega, fun hk h1 => ?_, fun hk => ?_, fun hk => ?_⟩
  · have := h.one _ _ hf hk h1; omega
  · unfold freeN
    rw [hf]
    simp only [hn, Option.isSome_some, Bool.not_true, Bool.false_eq_true, ↓reduceIte, hk, beq_self_eq_true]
  · unfold freeN
    rw [hf]
    simp only [hn, Option.isSome_some, Bool.not_true, Bool.false_eq_true, ↓reduceIte, hk, beq_iff_eq, decide_eq_true_eq]
    rw [if_neg (by omega)]
    split
    · simp only; constructor
      · intro h7; cases h7
      · intro h0; omega
    · simp only [true_iff]; omega
set_option maxHeartbeats 4000000 in
theorem loop9 {nodes : List Node} {next cookie : Int} (hn : nodes.length ≤ 1000) (ht : Small ⟨nodes, next, cookie⟩) (hr : Srt ⟨nodes, next, cookie⟩) (hc : ∀ i, cnt nodes i ≤ 1000000) (hg : ∀ p, p ∈ nodes → GoodL ⟨nodes, next, cookie⟩ p) {st : Step} {k : List K} {r : Option (AVal × AMem)}
    (hx : ∀ v q, kr (acall (tabX cLi)) [.tmp 4] 0 k ⟨.exit 0, [(5, .bool true), (6, .ptr 1 0), (9, v), (36, q)], [.cells (eStepC st), .cells [eNodes nodes, .int .i64 next, .int .i64 cookie]]⟩ = r) :
    ∀ (l pre : List Node), nodes = pre ++ l → exK (acall (tabX cLi)) [.tmp 4] 0 k (.loop [5, 6, 9] lb9_0) [(5, .bool true), (6, .ptr 1 0), (9, .int .i64 pre.length)] [.cells (eStepC st), .cells [eNodes nodes, .int .i64 next, .int .i64 cookie]] = r := by
  intro l
  induction l with
  | nil =>
    intro pre h
    rw [exK_loop]
    simp only [E9, lt_end h, EVT, finish, resAll, resOf, one, astep, aop, parsFrom, Opd.ev, getS, putS, keepS, nth, setN, abin, ↓reduceIte, Nat.reduceEqDiff, reduceCtorEq, Nat.reduceAdd, writeAt, Nat.reduceLeDiff, ne_eq, backE, backM, ABox.back, Nat.reduceLT, Int.reduceLT, Int.reduceLE, Int.reduceNeg, litsOf, sepAll, fillParts, AOp.argIds, ob, og, ox]
    exact hx _ _
  | cons n rest ih =>
    intro pre h
    rw [exK_loop]
    have hlen : pre.length + 1 ≤ 1000 := by rw [h] at hn; simp at hn; omega
    have hw : IntKind.i64.wrap ((pre.length : Int) + 1) = ((pre ++ [n]).length : Int) := by rw [wrap_small (by omega) (by omega)]; exact step_len
    have hi := ih (pre ++ [n]) (by rw [h]; simp)
    simp only [List.length_append, List.length_cons, List.length_nil] at hi
    have q34 := fun ino M => k34 nodes next cookie ino ht (hc ino) M
    have q35 := fun ino M => kX xLi (k35 nodes next cookie ino ht hr M)
    obtain ⟨g1, g2, g3, g4⟩ := hg n (by rw [h]; simp)
    have b4 : (n.kind == 1) = true → ((freeN ⟨nodes, next, cookie⟩ n.ino).2 == 0) = ((cnt nodes n.ino : Int) == 0) := by
      intro hk
      have := g4 (by simpa using hk)
      simp only at this
      rw [Bool.eq_iff_iff]
      simp only [beq_iff_eq, this]
      omega
    have hl0 : (n.links != (cnt nodes n.ino : Int)) = false := by simpa using g1
    simp only [eStepC] at hi
    simp only [E9, lt_mid h, at_mid h, q34, q35, eNode, eNodeC, eTree, eTreeC, eStepC, hl0, EVT, finish, resAll, resOf, one, astep, aop, parsFrom, Opd.ev, getS, putS, keepS, nth, setN, abin, ↓reduceIte, Nat.reduceEqDiff, reduceCtorEq, Nat.reduceAdd, writeAt, Nat.reduceLeDiff, ne_eq, backE, backM, ABox.back, Nat.reduceLT, Int.reduceLT, Int.reduceLE, Int.reduceNeg, litsOf, sepAll, fillParts, AOp.argIds, ob, og, ox]
    repeat' (first | (refine fork_split (fun hb => ?_) (fun hb => ?_) <;> simp only [hb, E9, hw, hl0, EVT, finish, resAll, resOf, one, astep, aop, parsFrom, Opd.ev, getS, putS, keepS, nth, setN, abin, ↓reduceIte, Nat.reduceEqDiff, reduceCtorEq, Nat.reduceAdd, writeAt, Nat.reduceLeDiff, ne_eq, backE, backM, ABox.back, Nat.reduceLT, Int.reduceLT, Int.reduceLE, Int.reduceNeg, litsOf, sepAll, fillParts, AOp.argIds, ob, og, ox]) | (refine guard_split (fun hb => ?_) (fun hb => ?_) <;> simp only [hb, E9, hw, hl0, EVT, finish, resAll, resOf, one, astep, aop, parsFrom, Opd.ev, getS, putS, keepS, nth, setN, abin, ↓reduceIte, Nat.reduceEqDiff, reduceCtorEq, Nat.reduceAdd, writeAt, Nat.reduceLeDiff, ne_eq, backE, backM, ABox.back, Nat.reduceLT, Int.reduceLT, Int.reduceLE, Int.reduceNeg, litsOf, sepAll, fillParts, AOp.argIds, ob, og, ox]) | (refine opK_pick (fun hb => ?_) (fun hb => ?_) <;> simp only [hb, E9, hw, hl0, EVT, finish, resAll, resOf, one, astep, aop, parsFrom, Opd.ev, getS, putS, keepS, nth, setN, abin, ↓reduceIte, Nat.reduceEqDiff, reduceCtorEq, Nat.reduceAdd, writeAt, Nat.reduceLeDiff, ne_eq, backE, backM, ABox.back, Nat.reduceLT, Int.reduceLT, Int.reduceLE, Int.reduceNeg, litsOf, sepAll, fillParts, AOp.argIds, ob, og, ox]))
    all_goals first
      | exact hi
      | (exfalso; clear q34 q35 hi ih hx hg hr ht hc hw; simp_all; done)
      | (exfalso; rename_i hk1 hne; rw [b4 hk1] at hne; simp at hne; done)
      | (exfalso; rename_i hk1; rename_i hne; rw [b4 hne] at hb; simp at hb; done)
set_option maxHeartbeats 4000000 in
theorem c9 (l : List Step) (s : Step) (hl : ∀ s, s ∈ l → stepOk s) (hs : stepOk s) : acall (tabX cLi) 9 [eSteps l, eStep s] [] = some (.bool true, []) := by
  refine acall_ex rfl rfl rfl ?_
  simp only [fn9, E9, kHead xLi, kGreat xLi, eStep, eStepC, EVT, finish, resAll, resOf, one, astep, aop, parsFrom, Opd.ev, getS, putS, keepS, nth, setN, abin, ↓reduceIte, Nat.reduceEqDiff, reduceCtorEq, Nat.reduceAdd, writeAt, Nat.reduceLeDiff, ne_eq, backE, backM, ABox.back, Nat.reduceLT, Int.reduceLT, Int.reduceLE, Int.reduceNeg, litsOf, sepAll, fillParts, AOp.argIds, ob, og, ox]
  refine guard_split (fun hg => ?_) (fun hg => ?_)
  rotate_left
  · simp only [E9, hg, EVT, finish, resAll, resOf, one, astep, aop, parsFrom, Opd.ev, getS, putS, keepS, nth, setN, abin, ↓reduceIte, Nat.reduceEqDiff, reduceCtorEq, Nat.reduceAdd, writeAt, Nat.reduceLeDiff, ne_eq, backE, backM, ABox.back, Nat.reduceLT, Int.reduceLT, Int.reduceLE, Int.reduceNeg, litsOf, sepAll, fillParts, AOp.argIds, ob, og, ox]
  simp only [E9, hg, EVT, finish, resAll, resOf, one, astep, aop, parsFrom, Opd.ev, getS, putS, keepS, nth, setN, abin, ↓reduceIte, Nat.reduceEqDiff, reduceCtorEq, Nat.reduceAdd, writeAt, Nat.reduceLeDiff, ne_eq, backE, backM, ABox.back, Nat.reduceLT, Int.reduceLT, Int.reduceLE, Int.reduceNeg, litsOf, sepAll, fillParts, AOp.argIds, ob, og, ox]
  refine fork_split (fun hd => ?_) (fun hd => ?_)
  · simp only [E9, EVT, finish, resAll, resOf, one, astep, aop, parsFrom, Opd.ev, getS, putS, keepS, nth, setN, abin, ↓reduceIte, Nat.reduceEqDiff, reduceCtorEq, Nat.reduceAdd, writeAt, Nat.reduceLeDiff, ne_eq, backE, backM, ABox.back, Nat.reduceLT, Int.reduceLT, Int.reduceLE, Int.reduceNeg, litsOf, sepAll, fillParts, AOp.argIds, ob, og, ox]
  obtain ⟨hlen, hok⟩ := great_ok hg hl
  have hso : s.Ok := by
    obtain ⟨h1, h2, h3, h4, h5⟩ := hs
    exact ⟨h1, h2, h3, h4, h5, by simp at hd; omega⟩
  have hmade := fun M => kX xLi (k13 l (by omega) hok M)
  obtain ⟨dep, hinv⟩ := madeN_inv l
  have hz : Sz 1000 (madeN l) := (madeN_sz l hok).up (by omega)
  obtain ⟨dep', hinv'⟩ := doneN_inv hinv s
  have hz' : Sz 1000 (doneN (madeN l) s).1 := ((madeN_sz l hok).done s hso).up (by omega)
  generalize madeN l = T at *
  obtain ⟨nodes, next, cookie⟩ := T
  have q31 := fun M => k31 xLi rfl hinv s hz hso M
  generalize hU : doneN ⟨nodes, next, cookie⟩ s = U at *
  obtain ⟨⟨un, ux, uc⟩, uy, ue⟩ := U
  have hsu : Small ⟨un, ux, uc⟩ := hz'.small (by omega)
  have hn1 : un.length ≤ 1000 := hz'.nodes
  have hcu : ∀ i, cnt un i ≤ 1000000 := fun i => Nat.le_trans (hinv'.cnt_lt i) (by omega)
  have hpos : decide ((0 : Int) < un.length) = true := by
    obtain ⟨r, r1, _⟩ := hinv'.root
    have := List.length_pos_of_mem (find_mem r1).1
    simp only at this
    simp; omega
  have hlp := fun k r hx => loop9 (next := ux) (cookie := uc) (st := s) hn1 hsu hinv'.srt hcu (fun p hp => hinv'.goodL hp) (k := k) (r := r) hx un [] rfl
  simp only [eStepC] at hlp q31
  simp only [E9, hmade, eTree, eTreeC, q31, EVT, finish, resAll, resOf, one, astep, aop, parsFrom, Opd.ev, getS, putS, keepS, nth, setN, abin, ↓reduceIte, Nat.reduceEqDiff, reduceCtorEq, Nat.reduceAdd, writeAt, Nat.reduceLeDiff, ne_eq, backE, backM, ABox.back, Nat.reduceLT, Int.reduceLT, Int.reduceLE, Int.reduceNeg, litsOf, sepAll, fillParts, AOp.argIds, ob, og, ox]
  refine hlp _ _ (fun v q => ?_)
  simp only [E9, hpos, EVT, finish, resAll, resOf, one, astep, aop, parsFrom, Opd.ev, getS, putS, keepS, nth, setN, abin, ↓reduceIte, Nat.reduceEqDiff, reduceCtorEq, Nat.reduceAdd, writeAt, Nat.reduceLeDiff, ne_eq, backE, backM, ABox.back, Nat.reduceLT, Int.reduceLT, Int.reduceLE, Int.reduceNeg, litsOf, sepAll, fillParts, AOp.argIds, ob, og, ox]

theorem treeLinks_holds : Rows.TreeLinksSaid := treeLinks_of (soundX xLi) c9
end Go.Proofs.YtnapockikkbkcaaGreat
