/-
  TreePaths: proved of the given program, for every input that the row allows: see the last text of this claim. Conditions: none beside the row's own.
-/
import Derived.Test.YtnapockikkbkcaaGreatProg
import Derived.KernelRfl
import Derived.Test.YtnapockikkbkcaaGreatBaF
set_option linter.unusedSimpArgs false
set_option linter.unusedVariables false
namespace Go.Proofs.YtnapockikkbkcaaGreat
open Go Go.Abs
theorem look_of {nodes : List Node} {dir : Int} {s : Bytes} {d : Node} (hd : find nodes dir = some d) (hk : d.kind = 2) (hs : nameOk s = true) : lookN nodes dir s = match findE d.ents s with
    | none => (0, 70)
    | some e => (e.ino, 0) := by
  have : dirN nodes dir = (d, 0) := by simp [dirN, hd, hk]
  simp only [lookN, this, hs]
  cases findE d.ents s <;> simp
theorem ontoN_codes (x y : Node) : ontoN x y = 73 ∨ ontoN x y = 72 ∨ ontoN x y = 74 ∨ ontoN x y = 0 := by
  unfold ontoN
  split
  · simp
  split
  · simp
  split
  · simp
  · simp
theorem GInv.under {t : Tree} {dep : Int → Nat} (h : GInv t dep 0) {to : Int} {nm : Bytes} {dT : Node} (hT : find t.nodes to = some dT) : (nodeUnder t.nodes dT.ents nm).ino = underN dT.ents nm := by
  unfold nodeUnder underN
  cases he : findE dT.ents nm with
  | none => rfl
  | some e =>
    obtain ⟨_, _, _, _, m, hm, _⟩ := h.ent _ _ e hT (findE_mem he).1
    simp [nodeN, hm, (find_mem hm).2]
theorem loop_same {t : Tree} {dep : Int → Nat} (h : GInv t dep 0) {f to : Int} {s nm : Bytes} {dT : Node} (hl : (lookN t.nodes f s).2 = 0) (hT : find t.nodes to = some dT) (hTk : dT.kind = 2) (hn : nameOk nm = true)
    (h1 : (lookN t.nodes to nm).2 = 0) (h2 : (lookN t.nodes to nm).1 = (lookN t.nodes f s).1) : (mvW t f s to nm).2.2 = 0 := by
  have hd : dirN t.nodes to = (dT, 0) := by simp [dirN, hT, hTk]
  rw [look_of hT hTk hn] at h1 h2
  unfold mvW
  simp only [hl, hd, bne_self_eq_false, Bool.false_eq_true, ↓reduceIte, hn, Bool.not_true]
  cases he : findE dT.ents nm with
  | none => rw [he] at h1; cases h1
  | some e =>
    rw [he] at h2
    have hu : underN dT.ents nm = e.ino := by simp [underN, he]
    rw [h.under hT, hu]
    simp only at h2
    rw [h2]
    simp
theorem loop_else {t : Tree} {dep : Int → Nat} (h : GInv t dep 0) {f to : Int} {s nm : Bytes} {dT : Node} (hl : (lookN t.nodes f s).2 = 0) (hx : (find t.nodes (lookN t.nodes f s).1).isSome = true) (hk : (nodeN t.nodes (lookN t.nodes f s).1).kind = 2) (hT : find t.nodes to = some dT) (hTk : dT.kind = 2) (hn : nameOk nm = true)
    (h1 : (lookN t.nodes to nm).2 = 0 → (lookN t.nodes to nm).1 ≠ (lookN t.nodes f s).1) : ((mvW t f s to nm).2.2 == 75) = lbelowN t.nodes to (lookN t.nodes f s).1 := by
  have hd : dirN t.nodes to = (dT, 0) := by simp [dirN, hT, hTk]
  rw [look_of hT hTk hn] at h1
  generalize hxx : (lookN t.nodes f s).1 = x at *
  have hx1 : 1 ≤ x := by
    cases hf : find t.nodes x with
    | none => rw [hf] at hx; cases hx
    | some n => exact (h.num _ _ hf).1
  have hu : underN dT.ents nm ≠ x := by
    unfold underN
    cases he : findE dT.ents nm with
    | none => simp only; omega
    | some e => rw [he] at h1; exact h1 rfl
  rw [h.lbelowN_eq x hT hTk, ← h.upsN_contains x hT hTk]
  unfold mvW
  simp only [hl, hd, bne_self_eq_false, Bool.false_eq_true, ↓reduceIte, hn, Bool.not_true, h.under hT, hxx, hk, beq_self_eq_true, Bool.true_and]
  rw [if_neg (by simpa using hu)]
  split
  · rename_i hc; rw [hc]; rfl
  · rename_i hc
    have hc' : (upsN t.nodes to).contains x = false := by simpa using hc
    rw [hc']
    split
    · rcases ontoN_codes (nodeN t.nodes x) (nodeUnder t.nodes dT.ents nm) with h | h | h | h <;> simp [h]
    · split
      · rfl
      · rfl
end Go.Proofs.YtnapockikkbkcaaGreat
namespace Go.Proofs.YtnapockikkbkcaaGreat
open Go Go.Abs
theorem may_eq {t : Tree} {dep : Int → Nat} (h : GInv t dep 0) (dir : Int) (s : Bytes) : mayErr t dir s = enterErr t dir s := by
  unfold mayErr enterErr
  by_cases h0 : (dirN t.nodes dir).2 = 0
  · obtain ⟨d, d1, d2, d3⟩ := dir_ok h0
    have hf : fullN t d = (decide ((64 : Int) ≤ d.ents.length) || (decide ((12 : Int) ≤ upDepth t.nodes dir) || decide ((1099511627776 : Int) ≤ t.cookie))) := by
      unfold fullN
      rw [(find_mem d1).2, h.depthN_eq d1 d2, h.upDepth_eq d1 d2]
    simp only [d3, hf, bne_self_eq_false, Bool.false_eq_true, ↓reduceIte, ne_eq, not_true_eq_false]
    cases nameOk s <;> simp
  · rw [if_pos (by simpa using h0), if_pos h0]
theorem addW_eq {t : Tree} {dep : Int → Nat} (h : GInv t dep 0) (dir : Int) (s : Bytes) (kind : Int) : addW t dir s kind = addN t dir s kind := by
  unfold addW addN
  rw [may_eq h]
theorem lnW_eq {t : Tree} {dep : Int → Nat} (h : GInv t dep 0) (ino dir : Int) (s : Bytes) : lnW t ino dir s = lnN t ino dir s := by
  unfold lnW lnN
  rw [may_eq h]
theorem unnamedW_eq {nodes : List Node} {x : Int} {m : Node} (hx : find nodes x = some m) : unnamedW nodes m = unnamedN nodes x := by
  unfold unnamedW unnamedN
  simp only [nodeN, hx, Option.getD_some, (find_mem hx).2]
theorem unW_eq {t : Tree} {dep : Int → Nat} (h : GInv t dep 0) (dir : Int) (s : Bytes) : unW t dir s = unN t dir s := by
  unfold unW unN
  split
  · rfl
  · rename_i hl
    obtain ⟨d, e, d1, d2, d3, d4, d5⟩ := look_ok (by simpa using hl)
    simp only [d5]
    obtain ⟨_, _, _, _, m, hm, _⟩ := h.ent _ _ e d1 (findE_mem d4).1
    have hm' : find (leftN t.nodes dir s) e.ino = some m := by
      rw [find_leftN h.srt.asc d1, if_neg (h.ent_ne d1 (findE_mem d4).1)]; exact hm
    have hn : nodeN t.nodes e.ino = m := by simp [nodeN, hm]
    rw [hn, unnamedW_eq hm']
theorem highGo_ex (nodes : List Node) (ino at' d : Int) (b : Int) : ∀ (l : List Node) (most : Int), b < highGo nodes ino at' d l most → b < most ∨ ∃ n, n ∈ l ∧ (n.kind == 2 && belowN nodes n.ino ino) = true ∧ b < highAt nodes at' d n
  | [], most, h => .inl h
  | m :: l, most, h => by
    rw [highGo] at h
    rcases highGo_ex nodes ino at' d b l _ h with h1 | ⟨n, h1, h2, h3⟩
    · have e : highStep nodes ino at' d m most = if (m.kind == 2 && belowN nodes m.ino ino) = true then (if highAt nodes at' d m > most then highAt nodes at' d m else most) else most := rfl
      rw [e] at h1
      split at h1
      · rename_i hb
        split at h1
        · exact .inr ⟨m, List.mem_cons_self, hb, h1⟩
        · exact .inl h1
      · exact .inl h1
    · exact .inr ⟨n, List.mem_cons_of_mem _ h1, h2, h3⟩
theorem GInv.deep_eq {t : Tree} {dep : Int → Nat} (h : GInv t dep 0) {x to : Int} {m : Node} (hx : find t.nodes x = some m) (hk : m.kind = 2) (hd : dep to < 12) :
    deepN t.nodes x (((dep to + 1 : Nat) : Int)) = decide ((12 : Int) < highN t.nodes x (((dep to + 1 : Nat) : Int))) := by
  have key : ∀ n, n ∈ t.nodes → deepAt t.nodes (((dep to + 1 : Nat) : Int)) ((dep x : Nat) : Int) x n = ((n.kind == 2 && belowN t.nodes n.ino x) && decide ((12 : Int) < highAt t.nodes (((dep to + 1 : Nat) : Int)) ((dep x : Nat) : Int) n)) := by
    intro n hn
    have hi : find t.nodes n.ino = some n := (find_iff h.srt.asc).2 ⟨hn, rfl⟩
    unfold deepAt
    by_cases hk2 : n.kind = 2
    · rw [h.upsN_contains x hi hk2, h.upsN_len hi hk2]
      by_cases hb : belowN t.nodes n.ino x = true
      · rw [h.highAt_eq hx hk hd hi hk2 hb]
        have d1 := (h.deep _ _ hi hk2).1
        have d2 := (h.deep _ _ hx hk).1
        have d3 := h.below_dep _ _ n hi hk2 rfl hb
        have w1 : w64 ((((dep to + 1 : Nat) : Int)) + ((dep n.ino + 1 : Nat) : Int)) = (((dep to + 1 : Nat) : Int)) + ((dep n.ino + 1 : Nat) : Int) := wrap_small (by omega) (by omega)
        have w2 : w64 ((((dep to + 1 : Nat) : Int)) + ((dep n.ino + 1 : Nat) : Int) - 1) = (((dep to + 1 : Nat) : Int)) + ((dep n.ino + 1 : Nat) : Int) - 1 := wrap_small (by omega) (by omega)
        have w3 : w64 ((((dep to + 1 : Nat) : Int)) + ((dep n.ino + 1 : Nat) : Int) - 1 - (dep x : Nat)) = (((dep to + 1 : Nat) : Int)) + ((dep n.ino + 1 : Nat) : Int) - 1 - (dep x : Nat) := wrap_small (by omega) (by omega)
        rw [w1, w2, w3]
        unfold redep
        rw [if_pos hb, hb]
        simp only [hk2, beq_self_eq_true, Bool.true_and]
        rw [Bool.eq_iff_iff]
        simp only [Bool.or_eq_true, Bool.and_eq_true, decide_eq_true_eq, beq_iff_eq]
        split <;> omega
      · have : belowN t.nodes n.ino x = false := by simpa using hb
        simp [this]
    · have : (n.kind == 2) = false := by simpa using hk2
      simp [this]
  have hdx : (upDepth t.nodes x : Int) = ((dep x : Nat) : Int) := by rw [h.upDepth_eq hx hk]
  unfold deepN highN
  rw [h.depthN_eq hx hk, hdx]
  rw [Bool.eq_iff_iff]
  simp only [List.any_eq_true, decide_eq_true_eq]
  constructor
  · rintro ⟨n, hn, hp⟩
    rw [key n hn] at hp
    simp only [Bool.and_eq_true, decide_eq_true_eq] at hp
    have := (highGo_ge t.nodes x (((dep to + 1 : Nat) : Int)) ((dep x : Nat) : Int) t.nodes 0).2 n hn (by simp [hp.1.1, hp.1.2])
    omega
  · intro hh
    rcases highGo_ex t.nodes x _ _ 12 t.nodes 0 hh with h1 | ⟨n, h1, h2, h3⟩
    · omega
    · exact ⟨n, h1, by rw [key n h1, h2]; simpa using h3⟩
theorem mvW_eq {t : Tree} {dep : Int → Nat} (h : GInv t dep 0) (f : Int) (s : Bytes) (to : Int) (nm : Bytes) : mvW t f s to nm = mvN t f s to nm := by
  unfold mvW mvN
  split
  · rfl
  rename_i c1
  split
  · rfl
  rename_i c2
  split
  · rfl
  obtain ⟨dF, e, e1, e2, e3, e4, e5⟩ := look_ok (by simpa using c1)
  obtain ⟨dT, g1, g2, g3⟩ := dir_ok (show (dirN t.nodes to).2 = 0 by simpa using c2)
  have hem := (findE_mem e4).1
  obtain ⟨_, _, x1, _, m, hm, hup⟩ := h.ent _ _ e e1 hem
  have hnode : nodeN t.nodes e.ino = m := by simp [nodeN, hm]
  simp only [e5, g3, hnode, h.under g1, h.upsN_contains e.ino g1 g2]
  split
  · rfl
  rename_i c4
  split
  · rfl
  rename_i c5
  have hup' : underN dT.ents nm ≠ e.ino := by simpa using c4
  have hnf := h.ent_ne e1 hem
  have hne : e.ino ≠ to := fun hh => by
    rw [hh, g1] at hm; injection hm with hm; subst hm
    simp only [g2, beq_self_eq_true, Bool.true_and] at c5
    rw [hh, GInv.below_self] at c5
    exact c5 rfl
  have hmany : ∀ there : Bool, (underN dT.ents nm == 0) = !there → manyW t f to dT.ents there m.kind e.ino = manyN t f to dT.ents m.kind (underN dT.ents nm) e.ino := by
    intro there hth
    unfold manyW manyN
    rw [hth, h.upsN_len g1 g2, h.depthN_eq g1 g2]
    by_cases hd : dep to < 12
    · have hw : w64 (((dep to : Nat) : Int) + 1) = ((dep to + 1 : Nat) : Int) := by
        rw [show (((dep to : Nat) : Int) + 1) = ((dep to + 1 : Nat) : Int) by omega]
        exact wrap_small (by omega) (by omega)
      rw [hw]
      have hdd : decide ((12 : Int) < ((dep to + 1 : Nat) : Int)) = decide ((12 : Int) ≤ ((dep to : Nat) : Int)) := by
        rw [decide_eq_decide]; omega
      rw [hdd]
      rcases h.kind _ _ hm with hk | hk
      · simp [hk]
      · rw [h.deep_eq hm hk hd]
    · have h1 : decide ((12 : Int) < ((dep to + 1 : Nat) : Int)) = true := by rw [decide_eq_true_eq]; omega
      have h2 : decide ((12 : Int) ≤ ((dep to : Nat) : Int)) = true := by rw [decide_eq_true_eq]; omega
      rw [h1, h2]; simp
  cases hfr : findE dT.ents nm with
  | none =>
    have hu : underN dT.ents nm = 0 := by simp [underN, hfr]
    have hm1 := hmany false (by rw [hu]; rfl)
    rw [hu] at hm1 ⊢
    have hcl : clashN t.nodes m.kind 0 = 0 := by simp [clashN, h.zero]
    simp only [Option.isSome_none, Bool.false_and, Bool.false_eq_true, ↓reduceIte, hcl, bne_self_eq_false, hm1]
    split
    · rfl
    · unfold moveW moveN
      simp only [hnode, Bool.false_eq_true, ↓reduceIte, bne_self_eq_false]
  | some e2 =>
    have hu : underN dT.ents nm = e2.ino := by simp [underN, hfr]
    obtain ⟨_, _, _, _, y, hy, _⟩ := h.ent _ _ e2 g1 (findE_mem hfr).1
    have hny : nodeN t.nodes e2.ino = y := by simp [nodeN, hy]
    have hto := h.ent_ne g1 (findE_mem hfr).1
    have hy0 := (h.num _ _ hy).1
    have hm1 := hmany true (by rw [hu]; simp; omega)
    have hnu : nodeUnder t.nodes dT.ents nm = y := by simp [nodeUnder, hfr, hny]
    rw [hu] at hm1 ⊢
    have hcl : clashN t.nodes m.kind e2.ino = ontoN m y := by
      unfold clashN ontoN
      simp only [hy, Option.isSome_some, Bool.not_true, Bool.false_eq_true, ↓reduceIte, hny]
    rw [hnu, hcl]
    simp only [Option.isSome_some, Bool.true_and, hm1]
    split
    · rfl
    rename_i c6
    split
    · rfl
    have hy00 : y.ents = [] := by
      have : ontoN m y = 0 := by simpa using c6
      unfold ontoN at this
      split at this
      · cases this
      split at this
      · cases this
      split at this
      · cases this
      · rename_i k3; exact List.length_eq_zero_iff.1 (by simpa using k3)
    have hnf2 : e2.ino ≠ f := fun hh => by
      rw [hh, e1] at hy; injection hy with hy; subst hy
      rw [hy00] at hem; cases hem
    have hyl : find (leftN (leftN t.nodes f s) to nm) e2.ino = some y := by
      have f1 := find_leftN h.srt.asc e1 (s := s)
      obtain ⟨dT', hT'⟩ : ∃ dT', find (leftN t.nodes f s) to = some dT' := by rw [f1]; split <;> simp_all
      rw [find_leftN (leftN_asc h.srt.asc f s) hT', if_neg hto, f1, if_neg hnf2]
      exact hy
    have hb : (e2.ino != 0) = true := by simp; omega
    unfold moveW moveN
    simp only [hnode, ↓reduceIte, hb, unnamedW_eq hyl]
end Go.Proofs.YtnapockikkbkcaaGreat
set_option linter.defProp false
namespace Go.Proofs.YtnapockikkbkcaaGreat
open Go Go.Abs
def q31_0 : ACode :=
 (.region [
 ob 45 (.bin .eql (.tmp 42) (.cst (.int .u8 1))),
 ob 43 (.mv (.tmp 45))] false [2, 3, 4, 7, 8, 9, 10, 42, 43])
def q31_1 : ACode :=
 (.seq (.region [
 ob 59 (.loadA 3 (.tmp 11)),
 ob 60 (.mv (.tmp 12)),
 ob 61 (.mv (.tmp 13)),
 ox (.store 3 (.tmp 4) (.tmp 59)),
 ob 5 (.mv (.tmp 60)),
 ob 6 (.mv (.tmp 61))] false [4, 5, 6]) (.ret))
def q31_2 : ACode :=
 (.seq (.region [
 ob 47 (.loadA 3 (.tmp 2)),
 ob 48 (.mv (.tmp 7)),
 ob 49 (.mv (.tmp 9)),
 ob 50 (.faddr 4 (.tmp 3)),
 ob 51 (.load1 (.tmp 50)),
 ob 52 (.conv .i64 (.tmp 51)),
 ob 53 (.bin .rem (.tmp 52) (.cst (.int .i64 2))),
 ob 54 (.bin .add (.tmp 53) (.cst (.int .i64 1))),
 ob 55 (.call 28 [(.tmp 47), (.tmp 48), (.tmp 49), (.tmp 54)]),
 ob 46 (.mv (.tmp 55)),
 ob 56 (.extract (.tmp 46) 0),
 ob 57 (.extract (.tmp 46) 1),
 ob 58 (.extract (.tmp 46) 2),
 ob 11 (.box0 [(.slice .c0 []), (.int .i64 0), (.int .i64 0)]),
 ox (.store 3 (.tmp 11) (.tmp 56)),
 ob 12 (.mv (.tmp 57)),
 ob 13 (.mv (.tmp 58))] false [4, 11, 12, 13]) q31_1)
def q31_3 : ACode :=
 (.seq (.region [
 ob 72 (.loadA 3 (.tmp 14)),
 ob 73 (.mv (.tmp 15)),
 ox (.store 3 (.tmp 4) (.tmp 72)),
 ob 5 (.mv (.cst (.int .i64 0))),
 ob 6 (.mv (.tmp 73))] false [4, 5, 6]) (.ret))
def q31_4 : ACode :=
 (.seq (.region [
 ob 65 (.loadA 3 (.tmp 2)),
 ob 66 (.mv (.tmp 8)),
 ob 67 (.mv (.tmp 7)),
 ob 68 (.mv (.tmp 9)),
 ob 69 (.call 37 [(.tmp 65), (.tmp 66), (.tmp 67), (.tmp 68)]),
 ob 64 (.mv (.tmp 69)),
 ob 70 (.extract (.tmp 64) 0),
 ob 71 (.extract (.tmp 64) 1),
 ob 14 (.box0 [(.slice .c0 []), (.int .i64 0), (.int .i64 0)]),
 ox (.store 3 (.tmp 14) (.tmp 70)),
 ob 15 (.mv (.tmp 71))] false [4, 14, 15]) q31_3)
def q31_5 : ACode :=
 (.seq (.region [
 ob 84 (.loadA 3 (.tmp 16)),
 ob 85 (.mv (.tmp 17)),
 ob 86 (.mv (.tmp 18)),
 ox (.store 3 (.tmp 4) (.tmp 84)),
 ob 5 (.mv (.tmp 85)),
 ob 6 (.mv (.tmp 86))] false [4, 5, 6]) (.ret))
def q31_6 : ACode :=
 (.seq (.region [
 ob 77 (.loadA 3 (.tmp 2)),
 ob 78 (.mv (.tmp 7)),
 ob 79 (.mv (.tmp 9)),
 ob 80 (.call 38 [(.tmp 77), (.tmp 78), (.tmp 79)]),
 ob 76 (.mv (.tmp 80)),
 ob 81 (.extract (.tmp 76) 0),
 ob 82 (.extract (.tmp 76) 1),
 ob 83 (.extract (.tmp 76) 2),
 ob 16 (.box0 [(.slice .c0 []), (.int .i64 0), (.int .i64 0)]),
 ox (.store 3 (.tmp 16) (.tmp 81)),
 ob 17 (.mv (.tmp 82)),
 ob 18 (.mv (.tmp 83))] false [4, 16, 17, 18]) q31_5)
def q31_7 : ACode :=
 (.region [
 ob 89 (.bin .eql (.tmp 42) (.cst (.int .u8 5))),
 ob 87 (.mv (.tmp 89))] false [2, 3, 4, 7, 8, 9, 10, 42, 87])
def q31_8 : ACode :=
 (.seq (.region [
 ob 100 (.loadA 3 (.tmp 19)),
 ob 101 (.mv (.tmp 20)),
 ob 102 (.mv (.tmp 21)),
 ox (.store 3 (.tmp 4) (.tmp 100)),
 ob 5 (.mv (.tmp 101)),
 ob 6 (.mv (.tmp 102))] false [4, 5, 6]) (.ret))
def q31_9 : ACode :=
 (.seq (.region [
 ob 91 (.loadA 3 (.tmp 2)),
 ob 92 (.mv (.tmp 7)),
 ob 93 (.mv (.tmp 9)),
 ob 94 (.mv (.tmp 8)),
 ob 95 (.mv (.tmp 10)),
 ob 96 (.call 17 [(.tmp 91), (.tmp 92), (.tmp 93), (.tmp 94), (.tmp 95)]),
 ob 90 (.mv (.tmp 96)),
 ob 97 (.extract (.tmp 90) 0),
 ob 98 (.extract (.tmp 90) 1),
 ob 99 (.extract (.tmp 90) 2),
 ob 19 (.box0 [(.slice .c0 []), (.int .i64 0), (.int .i64 0)]),
 ox (.store 3 (.tmp 19) (.tmp 97)),
 ob 20 (.mv (.tmp 98)),
 ob 21 (.mv (.tmp 99))] false [4, 19, 20, 21]) q31_8)
def q31_10 : ACode :=
 (.seq (.region [
 ob 113 (.loadA 3 (.tmp 22)),
 ob 114 (.mv (.tmp 23)),
 ox (.store 3 (.tmp 4) (.tmp 113)),
 ob 5 (.mv (.cst (.int .i64 0))),
 ob 6 (.mv (.tmp 114))] false [4, 5, 6]) (.ret))
def q31_11 : ACode :=
 (.seq (.region [
 ob 106 (.loadA 3 (.tmp 2)),
 ob 107 (.mv (.tmp 7)),
 ob 108 (.faddr 5 (.tmp 3)),
 ob 109 (.load1 (.tmp 108)),
 ob 110 (.call 71 [(.tmp 106), (.tmp 107), (.tmp 109)]),
 ob 105 (.mv (.tmp 110)),
 ob 111 (.extract (.tmp 105) 0),
 ob 112 (.extract (.tmp 105) 1),
 ob 22 (.box0 [(.slice .c0 []), (.int .i64 0), (.int .i64 0)]),
 ox (.store 3 (.tmp 22) (.tmp 111)),
 ob 23 (.mv (.tmp 112))] false [4, 22, 23]) q31_10)
def q31_12 : ACode :=
 (.seq (.region [
 ob 104 (.bin .eql (.tmp 42) (.cst (.int .u8 6))),
 ob 103 (.mv (.tmp 104))] false [2, 3, 4, 7, 103]) (.cond (.tmp 103) q31_11 (.skip)))
def q31_13 : ACode :=
 (.seq (.seq (.region [
 ob 88 (.bin .eql (.tmp 42) (.cst (.int .u8 4))),
 ob 87 (.mv (.tmp 88))] false [2, 3, 4, 7, 8, 9, 10, 42, 87]) (.cond (.tmp 87) (.skip) q31_7)) (.cond (.tmp 87) q31_9 q31_12))
def q31_14 : ACode :=
 (.seq (.region [
 ob 75 (.bin .eql (.tmp 42) (.cst (.int .u8 3))),
 ob 74 (.mv (.tmp 75))] false [2, 3, 4, 7, 8, 9, 10, 42, 74]) (.cond (.tmp 74) q31_6 q31_13))
def q31_15 : ACode :=
 (.seq (.region [
 ob 63 (.bin .eql (.tmp 42) (.cst (.int .u8 2))),
 ob 62 (.mv (.tmp 63))] false [2, 3, 4, 7, 8, 9, 10, 42, 62]) (.cond (.tmp 62) q31_4 q31_14))
def q31_16 : ACode :=
 (.block 0 (.seq (.seq (.region [
 ob 44 (.bin .eql (.tmp 42) (.cst (.int .u8 0))),
 ob 43 (.mv (.tmp 44))] false [2, 3, 4, 7, 8, 9, 10, 42, 43]) (.cond (.tmp 43) (.skip) q31_0)) (.cond (.tmp 43) q31_2 q31_15)))
def q31_17 : ACode :=
 (.seq (.region [
 ob 121 (.loadA 3 (.tmp 24)),
 ob 122 (.mv (.tmp 25)),
 ox (.store 3 (.tmp 4) (.tmp 121)),
 ob 5 (.mv (.cst (.int .i64 0))),
 ob 6 (.mv (.tmp 122))] false [4, 5, 6]) (.ret))
def q31_18 : ACode :=
 (.seq (.region [
 ob 116 (.loadA 3 (.tmp 2)),
 ob 117 (.mv (.tmp 7)),
 ob 118 (.call 35 [(.tmp 116), (.tmp 117)]),
 ob 115 (.mv (.tmp 118)),
 ob 119 (.extract (.tmp 115) 0),
 ob 120 (.extract (.tmp 115) 1),
 ob 24 (.box0 [(.slice .c0 []), (.int .i64 0), (.int .i64 0)]),
 ox (.store 3 (.tmp 24) (.tmp 119)),
 ob 25 (.mv (.tmp 120))] false [4, 24, 25]) q31_17)
def q31_19 : ACode :=
 (.seq (.seq (.region [
 ob 40 (.faddr 0 (.tmp 3)),
 ob 41 (.load1 (.tmp 40)),
 ob 42 (.bin .rem (.tmp 41) (.cst (.int .u8 8)))] false [2, 3, 4, 7, 8, 9, 10, 42]) q31_16) q31_18)
def q31_20 : ACode :=
 (.seq (.region [
 ob 37 (.faddr 4 (.tmp 3)),
 ob 38 (.load1 (.tmp 37)),
 ob 39 (.call 16 [(.tmp 38)]),
 ob 10 (.mv (.tmp 39))] false [2, 3, 4, 7, 8, 9, 10]) q31_19)
def q31_21 : ACode :=
 (.seq (.region [
 ob 34 (.faddr 3 (.tmp 3)),
 ob 35 (.load1 (.tmp 34)),
 ob 36 (.call 16 [(.tmp 35)]),
 ob 9 (.mv (.tmp 36))] false [2, 3, 4, 7, 8, 9]) q31_20)
def q31_22 : ACode :=
 (.seq (.region [
 ob 30 (.loadA 3 (.tmp 2)),
 ob 31 (.faddr 2 (.tmp 3)),
 ob 32 (.load1 (.tmp 31)),
 ob 33 (.call 14 [(.tmp 30), (.tmp 32)]),
 ob 8 (.mv (.tmp 33))] false [2, 3, 4, 7, 8]) q31_21)
def q31_23 : ACode :=
 (.seq (.region [
 ob 26 (.loadA 3 (.tmp 2)),
 ob 27 (.faddr 1 (.tmp 3)),
 ob 28 (.load1 (.tmp 27)),
 ob 29 (.call 14 [(.tmp 26), (.tmp 28)]),
 ob 7 (.mv (.tmp 29))] false [2, 3, 4, 7]) q31_22)
def E31 := And.intro (exK_head q31_0.eq_1) (And.intro (exK_head q31_1.eq_1) (And.intro (exK_head q31_2.eq_1) (And.intro (exK_head q31_3.eq_1) (And.intro (exK_head q31_4.eq_1) (And.intro (exK_head q31_5.eq_1) (And.intro (exK_head q31_6.eq_1) (And.intro (exK_head q31_7.eq_1) (And.intro (exK_head q31_8.eq_1) (And.intro (exK_head q31_9.eq_1) (And.intro (exK_head q31_10.eq_1) (And.intro (exK_head q31_11.eq_1) (And.intro (exK_head q31_12.eq_1) (And.intro (exK_head q31_13.eq_1) (And.intro (exK_head q31_14.eq_1) (And.intro (exK_head q31_15.eq_1) (And.intro (exK_head q31_16.eq_1) (And.intro (exK_head q31_17.eq_1) (And.intro (exK_head q31_18.eq_1) (And.intro (exK_head q31_19.eq_1) (And.intro (exK_head q31_20.eq_1) (And.intro (exK_head q31_21.eq_1) (And.intro (exK_head q31_22.eq_1) (exK_head q31_23.eq_1)))))))))))))))))))))))
def ann31 : Ann := { n := 123, own := [], lv := [(0, [2, 3, 4]), (1, [2, 3, 4, 7]), (2, [2, 3, 4, 7, 8]), (3, [2, 3, 4, 7, 8, 9]), (4, [2, 3, 4, 7, 8, 9, 10]), (5, [2, 3, 4, 7, 8, 9, 10, 42]), (6, [2, 3, 4, 7, 8, 9, 10, 42, 43]), (7, [2, 3, 4, 7, 8, 9, 10, 42, 43]), (8, [4, 11, 12, 13]), (9, [4, 5, 6]), (10, [2, 3, 4, 7, 8, 9, 10, 42, 62]), (11, [4, 14, 15]), (12, [4, 5, 6]), (13, [2, 3, 4, 7, 8, 9, 10, 42, 74]), (14, [4, 16, 17, 18]), (15, [4, 5, 6]), (16, [2, 3, 4, 7, 8, 9, 10, 42, 87]), (17, [2, 3, 4, 7, 8, 9, 10, 42, 87]), (18, [4, 19, 20, 21]), (19, [4, 5, 6]), (20, [2, 3, 4, 7, 103]), (21, [4, 22, 23]), (22, [4, 5, 6]), (23, [4, 24, 25]), (24, [4, 5, 6])], lp := [] }
def fn31 : AFn := AFn.mk 2 [.cellA 4 3, .tmp 5, .tmp 6]
  (.seq (.region [
  ob 2 (.box (.tmp 0)),
  ob 3 (.box (.tmp 1)),
  ob 4 (.box0 [(.slice .c0 []), (.int .i64 0), (.int .i64 0)]),
  ob 5 (.mv (.cst (.int .i64 0))),
  ob 6 (.mv (.cst (.int .i64 0)))] false [2, 3, 4]) q31_23)
theorem ok31 : compFn Tryz.prog ann31 Tryz.f31 = some fn31 := by kernel_rfl
end Go.Proofs.YtnapockikkbkcaaGreat
namespace Go.Proofs.YtnapockikkbkcaaGreat
open Go Go.Abs
attribute [local irreducible] exK opsK opK gK forkK kr acall callOp owhen obind
theorem GInv.hnew {t : Tree} {dep : Int → Nat} {x : Int} (h : GInv t dep x) : ∀ m, m ∈ t.nodes → m.ino < t.next := fun m hm => (h.num _ _ ((find_iff h.srt.asc).2 ⟨hm, rfl⟩)).2
theorem k37 (nodes : List Node) (next cookie ino dir : Int) (s : Bytes) (hz : Sz 1000 ⟨nodes, next, cookie⟩) (hr : Srt ⟨nodes, next, cookie⟩) (hs : s.length ≤ 100000) (ha : Ascii s) (M : AMem) : callOp (acall tab) 37 [.agg [eNodes nodes, .int .i64 next, .int .i64 cookie], .int .i64 ino, .int .i64 dir, .str s] M =
    some (.tuple [eTree (lnW ⟨nodes, next, cookie⟩ ino dir s).1, .int .i64 (lnW ⟨nodes, next, cookie⟩ ino dir s).2], M) := callOp0 (c37 ⟨nodes, next, cookie⟩ ino dir s hz hr hs ha) rfl rfl rfl rfl rfl M
theorem k35 (nodes : List Node) (next cookie ino : Int) (ht : Small ⟨nodes, next, cookie⟩) (hr : Srt ⟨nodes, next, cookie⟩) (M : AMem) : callOp (acall tab) 35 [.agg [eNodes nodes, .int .i64 next, .int .i64 cookie], .int .i64 ino] M =
    some (.tuple [eTree (freeN ⟨nodes, next, cookie⟩ ino).1, .int .i64 (freeN ⟨nodes, next, cookie⟩ ino).2], M) := callOp0 (c35 ⟨nodes, next, cookie⟩ ino ht hr) rfl rfl rfl rfl rfl M
theorem k71 (nodes : List Node) (next cookie ino : Int) (data : Bytes) (ht : Small ⟨nodes, next, cookie⟩) (hr : Srt ⟨nodes, next, cookie⟩) (hd : data.length ≤ 100000) (M : AMem) : callOp (acall tab) 71 [.agg [eNodes nodes, .int .i64 next, .int .i64 cookie], .int .i64 ino, eData data] M =
    some (.tuple [eTree (putN ⟨nodes, next, cookie⟩ ino data).1, .int .i64 (putN ⟨nodes, next, cookie⟩ ino data).2], M) := callOp0 (c71 ⟨nodes, next, cookie⟩ ino data ht hr hd) rfl rfl rfl rfl rfl M
set_option maxHeartbeats 4000000 in
theorem c31 {c : Nat → Option AFn} (hc : ExtOk c) (h31 : c 31 = some fn31) {t : Tree} {dep : Int → Nat} (h : GInv t dep 0) (s : Step) (hz : Sz 1000 t) (hs : s.Ok) : acall (tabX c) 31 [eTree t, eStep s] [] = some (.tuple [eTree (doneN t s).1, .int .i64 (doneN t s).2.1, .int .i64 (doneN t s).2.2], []) := by
  obtain ⟨nodes, next, cookie⟩ := t
  obtain ⟨kind, a, b, n, m, data⟩ := s
  obtain ⟨h1, h2, h3, h4, h5, h6⟩ := hs
  simp only at h1 h2 h3 h4 h5 h6
  have ht : Small ⟨nodes, next, cookie⟩ := hz.small (by omega)
  have hr := h.srt
  have hn : nodes.length ≤ 100000 := ht.nodes
  have hm8 : (kind : Int).tmod 8 = ((kind % 8 : Nat) : Int) := by rw [Int.tmod_eq_emod_of_nonneg (by omega)]; rfl
  have hm2 : (m : Int).tmod 2 = ((m % 2 : Nat) : Int) := by rw [Int.tmod_eq_emod_of_nonneg (by omega)]; rfl
  have hw : IntKind.i64.wrap (m : Int) = m := wrap_small (by omega) (by omega)
  have hw2 : IntKind.i64.wrap (((m % 2 : Nat) : Int) + 1) = ((m % 2 : Nat) : Int) + 1 := wrap_small (by omega) (by omega)
  have e8 : ((8 : Int) = 0) = False := by simp
  have e2 : ((2 : Int) = 0) = False := by simp
  have q14 := fun i hi M => kX hc (k14 nodes next cookie i hi hn M)
  have q16 := fun i hi M => kX hc (k16 i hi M)
  have q28 := fun dir i k M => kX hc (k28 nodes next cookie dir (nameOf i) k hz hr (nameOf_len i) (nameOf_ascii i) h.hnew M)
  have q37 := fun ino dir i M => kX hc (k37 nodes next cookie ino dir (nameOf i) hz hr (nameOf_len i) (nameOf_ascii i) M)
  have q38 := fun dir i M => kX hc (k38 nodes next cookie dir (nameOf i) hz hr (nameOf_len i) (nameOf_ascii i) M)
  have q17 := fun dir i to j M => k17 hc nodes next cookie dir (nameOf i) to (nameOf j) hz hr (nameOf_len i) (nameOf_ascii i) (nameOf_len j) (nameOf_ascii j) (h.hun to (nameOf j)) M
  have q35 := fun ino M => kX hc (k35 nodes next cookie ino ht hr M)
  have q71 := fun ino M => kX hc (k71 nodes next cookie ino data ht hr h6 M)
  simp only [addW_eq h, lnW_eq h, unW_eq h, mvW_eq h] at q28 q37 q38 q17
  refine acall_ex rfl (codeX h31) rfl ?_
  simp only [fn31, E31, eTree, eTreeC, eStep, eStepC, q14, q16, h2, h3, h4, h5, hm8, e8, EVT, EVD, ↓reduceIte, Nat.reduceEqDiff, reduceCtorEq, Nat.reduceAdd, Nat.reduceLeDiff, ne_eq, Nat.reduceLT, Int.reduceLT, Int.reduceLE, Int.reduceNeg]
  repeat' (first | (refine fork_split (fun hb => ?_) (fun hb => ?_) <;> simp only [hb, E31, q14, q16, h2, h3, h4, h5, hm8, hm2, e8, e2, hw, hw2, q28, q37, q38, q17, q35, q71, eTree, eTreeC, EVT, EVD, ↓reduceIte, Nat.reduceEqDiff, reduceCtorEq, Nat.reduceAdd, Nat.reduceLeDiff, ne_eq, Nat.reduceLT, Int.reduceLT, Int.reduceLE, Int.reduceNeg]) | (refine guard_split (fun hb => ?_) (fun hb => ?_) <;> simp only [hb, E31, q14, q16, h2, h3, h4, h5, hm8, hm2, e8, e2, hw, hw2, q28, q37, q38, q17, q35, q71, eTree, eTreeC, EVT, EVD, ↓reduceIte, Nat.reduceEqDiff, reduceCtorEq, Nat.reduceAdd, Nat.reduceLeDiff, ne_eq, Nat.reduceLT, Int.reduceLT, Int.reduceLE, Int.reduceNeg]) | (refine opK_pick (fun hb => ?_) (fun hb => ?_) <;> simp only [hb, E31, q14, q16, h2, h3, h4, h5, hm8, hm2, e8, e2, hw, hw2, q28, q37, q38, q17, q35, q71, eTree, eTreeC, EVT, EVD, ↓reduceIte, Nat.reduceEqDiff, reduceCtorEq, Nat.reduceAdd, Nat.reduceLeDiff, ne_eq, Nat.reduceLT, Int.reduceLT, Int.reduceLE, Int.reduceNeg]))
  all_goals clear q14 q16 q28 q37 q38 q17 q35 q71
  all_goals (simp_all only [doneN, eTree, eTreeC, BBT, ↓reduceIte, reduceCtorEq, bne_self_eq_false]; done)
theorem k31 {c : Nat → Option AFn} (hc : ExtOk c) (h31 : c 31 = some fn31) {nodes : List Node} {next cookie : Int} {dep : Int → Nat} (h : GInv ⟨nodes, next, cookie⟩ dep 0) (s : Step) (hz : Sz 1000 ⟨nodes, next, cookie⟩) (hs : s.Ok) (M : AMem) : callOp (acall (tabX c)) 31 [.agg [eNodes nodes, .int .i64 next, .int .i64 cookie], .agg (eStepC s)] M =
    some (.tuple [eTree (doneN ⟨nodes, next, cookie⟩ s).1, .int .i64 (doneN ⟨nodes, next, cookie⟩ s).2.1, .int .i64 (doneN ⟨nodes, next, cookie⟩ s).2.2], M) := callOp0 (c31 hc h31 h s hz hs) rfl rfl rfl rfl rfl M
end Go.Proofs.YtnapockikkbkcaaGreat
namespace Go.Proofs.YtnapockikkbkcaaGreat
open Go Go.Abs
def mvA (t : Tree) (f : Int) (s : Bytes) (to : Int) (nm : Bytes) (y : Int) : List Node := if (y != 0) = true then unnamedN (leftN (leftN t.nodes f s) to nm) y else leftN t.nodes f s
def goneN (o : Option Node) : Option Node := match o with
  | some y => lessN y
  | none => none
theorem mvA_asc {t : Tree} {dep : Int → Nat} (h : GInv t dep 0) (f : Int) (s : Bytes) (to : Int) (nm : Bytes) (y : Int) : Asc (mvA t f s to nm y) := by
  unfold mvA
  split
  · exact unnamedN_asc (leftN_asc (leftN_asc h.srt.asc f s) to nm) y
  · exact leftN_asc h.srt.asc f s
theorem find_mvA {t : Tree} {dep : Int → Nat} (h : GInv t dep 0) {f : Int} {s : Bytes} {to : Int} {nm : Bytes} {dF dT m : Node} {e : Ent} (k : MvOk t dep f s to nm dF dT m e) (i : Int) :
    find (mvA t f s to nm (underN dT.ents nm)) i = if i = to then some { dT with ents := dropE (if to = f then dropE dT.ents s else dT.ents) nm }
      else if i = f then some { dF with ents := dropE dF.ents s } else if i = underN dT.ents nm then goneN (find t.nodes i) else find t.nodes i := by
  have f1 := find_leftN h.srt.asc k.hF (s := s)
  cases hfr : findE dT.ents nm with
  | none =>
    have hu : underN dT.ents nm = 0 := by simp [underN, hfr]
    have hdr : dropE (if to = f then dropE dT.ents s else dT.ents) nm = (if to = f then dropE dT.ents s else dT.ents) := by
      refine dropE_none ?_
      split
      · exact findE_dropE_none hfr
      · exact hfr
    rw [hu, hdr]
    simp only [mvA, bne_self_eq_false, Bool.false_eq_true, ↓reduceIte]
    rw [f1]
    by_cases i1 : i = to
    · rw [if_pos i1]
      subst i1
      by_cases i2 : i = f
      · subst i2
        have := k.hF; rw [k.hT] at this; injection this with this; subst this
        simp only [↓reduceIte]
      · simp only [i2, ↓reduceIte]; exact k.hT
    · rw [if_neg i1]
      by_cases i2 : i = f
      · simp only [i2, ↓reduceIte]
      · simp only [i2, ↓reduceIte]
        by_cases i3 : i = 0
        · subst i3; simp [h.zero, goneN]
        · simp only [i3, ↓reduceIte]
  | some e2 =>
    have hu : underN dT.ents nm = e2.ino := by simp [underN, hfr]
    obtain ⟨q1, y, q2, q3, q4, q5, q6⟩ := k.onto e2 hfr
    have hy0 := (h.num _ _ q2).1
    have hb : (e2.ino != 0) = true := by simp; omega
    rw [hu]
    simp only [mvA, hb, ↓reduceIte]
    have a1 := leftN_asc h.srt.asc f s
    obtain ⟨dT', hT', hd'⟩ : ∃ dT', find (leftN t.nodes f s) to = some dT' ∧ ({ dT' with ents := dropE dT'.ents nm } : Node) = { dT with ents := dropE (if to = f then dropE dT.ents s else dT.ents) nm } := by
      rw [f1]
      split
      · rename_i hh
        subst hh
        have := k.hF; rw [k.hT] at this; injection this with this; subst this
        exact ⟨_, rfl, rfl⟩
      · exact ⟨dT, k.hT, rfl⟩
    have f3 := find_leftN a1 hT' (s := nm)
    have hy3 : find (leftN (leftN t.nodes f s) to nm) e2.ino = some y := by rw [f3, if_neg q6, f1, if_neg q5]; exact q2
    rw [find_unnamedN (leftN_asc a1 to nm) hy3, f3, f1, hd']
    by_cases i1 : i = e2.ino
    · subst i1
      simp only [↓reduceIte, q5, q6, q2, goneN]
    · simp only [i1, ↓reduceIte]
theorem find_moveN {t : Tree} {dep : Int → Nat} (h : GInv t dep 0) {f : Int} {s : Bytes} {to : Int} {nm : Bytes} {dF dT m : Node} {e : Ent} (k : MvOk t dep f s to nm dF dT m e) (i : Int) :
    find (moveN t f s to nm e.ino (underN dT.ents nm)).nodes i = if i = to then some { dT with ents := insE (dropE (if to = f then dropE dT.ents s else dT.ents) nm) ⟨nm, e.ino, t.cookie⟩ }
      else if i = f then some { dF with ents := dropE dF.ents s } else if i = e.ino then some (if m.kind = 2 then { m with up := to } else m) else if i = underN dT.ents nm then goneN (find t.nodes i) else find t.nodes i := by
  have hA := find_mvA h k
  have aA := mvA_asc h f s to nm (underN dT.ents nm)
  have hmn : nodeN t.nodes e.ino = m := by simp [nodeN, k.hm]
  have hmi : m.ino = e.ino := (find_mem k.hm).2
  have hTi : dT.ino = to := (find_mem k.hT).2
  have hux : e.ino ≠ underN dT.ents nm := by
    cases hfr : findE dT.ents nm with
    | none => simp only [underN, hfr]; have := (h.num _ _ k.hm).1; omega
    | some e2 => simp only [underN, hfr]; exact fun hh => (k.onto e2 hfr).1 hh.symm
  obtain ⟨B, hB, aB, fB⟩ : ∃ B, (if (m.kind == 2) = true then withN (mvA t f s to nm (underN dT.ents nm)) { m with up := to } else mvA t f s to nm (underN dT.ents nm)) = B ∧ Asc B ∧
      ∀ i, find B i = if i = to then some { dT with ents := dropE (if to = f then dropE dT.ents s else dT.ents) nm }
        else if i = f then some { dF with ents := dropE dF.ents s } else if i = e.ino then some (if m.kind = 2 then { m with up := to } else m) else if i = underN dT.ents nm then goneN (find t.nodes i) else find t.nodes i := by
    refine ⟨_, rfl, ?_, ?_⟩
    · split
      · exact withN_asc aA _
      · exact aA
    · intro i
      split
      · rename_i hk
        have hk' : m.kind = 2 := by simpa using hk
        rw [find_withN aA, hA]
        simp only [hmi, hk', ↓reduceIte]
        by_cases i1 : i = e.ino
        · subst i1; simp only [↓reduceIte, k.ne, k.nf]
        · simp only [i1, ↓reduceIte]
      · rename_i hk
        have hk' : ¬ m.kind = 2 := by simpa using hk
        rw [hA]
        simp only [hk', ↓reduceIte]
        by_cases i1 : i = e.ino
        · subst i1; simp only [↓reduceIte, k.ne, k.nf, hux]; exact k.hm
        · simp only [i1, ↓reduceIte]
  have hmv : moveN t f s to nm e.ino (underN dT.ents nm) = enteredN ⟨B, t.next, t.cookie⟩ to nm e.ino := by
    rw [← hB]
    unfold moveN mvA
    simp only [hmn]
  rw [hmv]
  unfold enteredN
  simp only
  have hBt : find B to = some { dT with ents := dropE (if to = f then dropE dT.ents s else dT.ents) nm } := by rw [fB]; simp only [↓reduceIte]
  rw [find_withN aB, hBt]
  simp only [Option.getD_some, hTi]
  by_cases i1 : i = to
  · simp only [i1, ↓reduceIte]
  · simp only [i1, ↓reduceIte]
    rw [fB]
    simp only [i1, ↓reduceIte]
theorem moveN_next (t : Tree) (f : Int) (s : Bytes) (to : Int) (nm : Bytes) (x y : Int) : (moveN t f s to nm x y).next = t.next := rfl
theorem moveN_cookie {t : Tree} {dep : Int → Nat} (h : GInv t dep 0) (hc : t.cookie < 1099511627776) (f : Int) (s : Bytes) (to : Int) (nm : Bytes) (x y : Int) : (moveN t f s to nm x y).cookie = t.cookie + 1 := by
  show w64 (t.cookie + 1) = t.cookie + 1
  exact wrap_small (by have := h.cookie; omega) (by omega)
theorem asc_len {a b : List Node} (ha : Asc a) (h : ∀ n, n ∈ a → ∃ m, find b n.ino = some m) : a.length ≤ b.length := by
  have := nodup_le (a.map Node.ino) (b.map Node.ino) (by
    unfold List.Nodup
    rw [List.pairwise_map]
    exact List.Pairwise.imp (fun hab => by omega) ha) (by
    intro x hx
    obtain ⟨n, hn, rfl⟩ := List.mem_map.1 hx
    obtain ⟨m, hm⟩ := h n hn
    exact List.mem_map.2 ⟨m, (find_mem hm).1, (find_mem hm).2⟩)
  simpa using this
end Go.Proofs.YtnapockikkbkcaaGreat
namespace Go.Proofs.YtnapockikkbkcaaGreat
open Go Go.Abs
theorem findE_iff {l : List Ent} (h : AscE l) {s : Bytes} {e : Ent} : findE l s = some e ↔ e ∈ l ∧ e.name = s := by
  refine ⟨findE_mem, fun ⟨h1, h2⟩ => ?_⟩
  cases hf : findE l s with
  | none =>
    have := List.find?_eq_none.1 hf e h1
    simp [h2] at this
  | some x =>
    obtain ⟨x1, x2⟩ := findE_mem hf
    obtain ⟨i, hi⟩ := List.getElem?_of_mem h1
    obtain ⟨k, hk⟩ := List.getElem?_of_mem x1
    have hil := (List.getElem?_eq_some_iff.1 hi).1
    have hkl := (List.getElem?_eq_some_iff.1 hk).1
    have e1 : l[i] = e := by rw [List.getElem?_eq_getElem hil] at hi; injection hi
    have e2 : l[k] = x := by rw [List.getElem?_eq_getElem hkl] at hk; injection hk
    rcases Nat.lt_trichotomy i k with hlt | heq | hgt
    · have := List.pairwise_iff_getElem.1 h _ _ hil hkl hlt
      rw [e1, e2, h2, x2, strLt_irrefl] at this; cases this
    · subst heq; rw [← e1, ← e2]
    · have := List.pairwise_iff_getElem.1 h _ _ hkl hil hgt
      rw [e1, e2, h2, x2, strLt_irrefl] at this; cases this
theorem findE_insE {l : List Ent} (h : AscE l) {e : Ent} (hf : findE l e.name = none) (s : Bytes) : findE (insE l e) s = if s = e.name then some e else findE l s := by
  have ha := insE_asc h hf
  split
  · rename_i hs
    exact (findE_iff ha).2 ⟨(mem_insE h hf).2 (.inl rfl), hs.symm⟩
  · rename_i hs
    cases hq : findE l s with
    | none =>
      cases hr : findE (insE l e) s with
      | none => rfl
      | some x =>
        obtain ⟨x1, x2⟩ := findE_mem hr
        rcases (mem_insE h hf).1 x1 with rfl | x1
        · exact absurd x2.symm hs
        · rw [(findE_iff h).2 ⟨x1, x2⟩] at hq; cases hq
    | some x =>
      obtain ⟨x1, x2⟩ := findE_mem hq
      exact (findE_iff ha).2 ⟨(mem_insE h hf).2 (.inr x1), x2⟩
theorem nameOf_inj {n m : Nat} (h : n % 6 ≠ m % 6) : nameOf n ≠ nameOf m := by
  unfold nameOf
  have h1 : n % 6 < 6 := Nat.mod_lt _ (by omega)
  have h2 : m % 6 < 6 := Nat.mod_lt _ (by omega)
  generalize n % 6 = a at *
  generalize m % 6 = b at *
  match a, h1, b, h2 with
  | 0, _, 0, _ | 1, _, 1, _ | 2, _, 2, _ | 3, _, 3, _ | 4, _, 4, _ | 5, _, 5, _ => exact absurd rfl h
  | 0, _, 1, _ | 0, _, 2, _ | 0, _, 3, _ | 0, _, 4, _ | 0, _, 5, _ => decide
  | 1, _, 0, _ | 1, _, 2, _ | 1, _, 3, _ | 1, _, 4, _ | 1, _, 5, _ => decide
  | 2, _, 1, _ | 2, _, 0, _ | 2, _, 3, _ | 2, _, 4, _ | 2, _, 5, _ => decide
  | 3, _, 1, _ | 3, _, 2, _ | 3, _, 0, _ | 3, _, 4, _ | 3, _, 5, _ => decide
  | 4, _, 1, _ | 4, _, 2, _ | 4, _, 3, _ | 4, _, 0, _ | 4, _, 5, _ => decide
  | 5, _, 1, _ | 5, _, 2, _ | 5, _, 3, _ | 5, _, 4, _ | 5, _, 0, _ => decide
section
variable {t : Tree} {dep : Int → Nat} {f : Int} {s : Bytes} {to : Int} {nm : Bytes} {dF dT m : Node} {e : Ent}
theorem MvOk.base (h : GInv t dep 0) (k : MvOk t dep f s to nm dF dT m e) : AscE (dropE (if to = f then dropE dT.ents s else dT.ents) nm) ∧ findE (dropE (if to = f then dropE dT.ents s else dT.ents) nm) nm = none := by
  have hE : AscE dT.ents := h.srt.ents dT (find_mem k.hT).1
  refine ⟨dropE_asc ?_ nm, findE_dropE _ _⟩
  split
  · exact dropE_asc hE s
  · exact hE
theorem MvOk.look_to (h : GInv t dep 0) (k : MvOk t dep f s to nm dF dT m e) : lookN (moveN t f s to nm e.ino (underN dT.ents nm)).nodes to nm = (e.ino, 0) := by
  have hf := find_moveN h k to
  rw [if_pos rfl] at hf
  obtain ⟨b1, b2⟩ := k.base h
  rw [look_of hf k.kT k.hn]
  simp only
  rw [findE_insE b1 (e := ⟨nm, e.ino, t.cookie⟩) b2]
  simp
theorem MvOk.look_from (h : GInv t dep 0) (k : MvOk t dep f s to nm dF dT m e) (hs : nameOk s = true) (hne : ¬ (f = to ∧ s = nm)) : lookN (moveN t f s to nm e.ino (underN dT.ents nm)).nodes f s = (0, 70) := by
  have hf := find_moveN h k f
  obtain ⟨b1, b2⟩ := k.base h
  by_cases hft : f = to
  · rw [if_pos hft] at hf
    rw [look_of hf k.kT hs]
    simp only
    rw [findE_insE b1 (e := ⟨nm, e.ino, t.cookie⟩) b2]
    have hsn : s ≠ nm := fun hh => hne ⟨hft, hh⟩
    simp only [hsn, ↓reduceIte, hft.symm]
    rw [findE_dropE_none (findE_dropE _ _)]
  · rw [if_neg hft, if_pos rfl] at hf
    rw [look_of hf k.kF hs]
    simp only
    rw [findE_dropE]
theorem MvOk.under_ne (h : GInv t dep 0) (k : MvOk t dep f s to nm dF dT m e) : underN dT.ents nm ≠ e.ino := by
  cases hfr : findE dT.ents nm with
  | none => simp only [underN, hfr]; have := (h.num _ _ k.hm).1; omega
  | some e2 => simp only [underN, hfr]; exact (k.onto e2 hfr).1
theorem MvOk.other (h : GInv t dep 0) (k : MvOk t dep f s to nm dF dT m e) : t ≠ moveN t f s to nm e.ino (underN dT.ents nm) := by
  intro hh
  have := moveN_cookie h k.cookie f s to nm e.ino (underN dT.ents nm)
  rw [← hh] at this
  omega
theorem MvOk.len (h : GInv t dep 0) (k : MvOk t dep f s to nm dF dT m e) {dep' : Int → Nat} (h' : GInv (moveN t f s to nm e.ino (underN dT.ents nm)) dep' 0) : (moveN t f s to nm e.ino (underN dT.ents nm)).nodes.length ≤ t.nodes.length := by
  refine asc_len h'.srt.asc (fun n hn => ?_)
  have hf := (find_iff h'.srt.asc).2 ⟨hn, rfl⟩
  rw [find_moveN h k] at hf
  split at hf
  · rename_i hi; rw [hi]; exact ⟨dT, k.hT⟩
  split at hf
  · rename_i hi; rw [hi]; exact ⟨dF, k.hF⟩
  split at hf
  · rename_i hi; rw [hi]; exact ⟨m, k.hm⟩
  split at hf
  · cases hq : find t.nodes n.ino with
    | none => rw [hq] at hf; cases hf
    | some y => exact ⟨y, rfl⟩
  · exact ⟨n, hf⟩
end
end Go.Proofs.YtnapockikkbkcaaGreat
namespace Go.Proofs.YtnapockikkbkcaaGreat
open Go Go.Abs
def flatP (names : List Bytes) : Bytes := names.flatMap fun s => 47 :: s
def joinN (names : List Bytes) : Bytes := if names = [] then [47] else flatP names
theorem flatP_cons (s : Bytes) (r : List Bytes) : flatP (s :: r) = 47 :: (s ++ flatP r) := by simp [flatP]
theorem nm_one {s : Bytes} (h : Nm s) : ∃ b : UInt8, s = [b] ∧ b ≠ 47 ∧ b.toNat < 128 := by
  rcases h with h | h | h | h | h <;> subst h <;> exact ⟨_, rfl, by decide, by decide⟩
theorem nm_good {s : Bytes} (h : Nm s) : nameOk s = true := by rcases h with h | h | h | h | h <;> subst h <;> decide
theorem endS_one {b : UInt8} (hb : b ≠ 47) : ∀ (r : List Bytes), endS (b :: flatP r) = 1
  | [] => by
    have : Lib.indexByte ([b] : Bytes) 47 = -1 := by simp [Lib.indexByte, hb]
    simp [endS, flatP, this]
  | s :: r => by
    have : Lib.indexByte (b :: flatP (s :: r)) 47 = 1 := by
      rw [flatP_cons]
      simp [Lib.indexByte, hb]
    simp [endS, this]
theorem pieces_flat : ∀ (names : List Bytes), (∀ s, s ∈ names → Nm s) → piecesS (flatP names) = names.map fun s => (s, true)
  | [], _ => rfl
  | s :: r, h => by
    obtain ⟨b, rfl, hb, _⟩ := nm_one (h s List.mem_cons_self)
    have hne : flatP ([b] :: r) ≠ [] := by rw [flatP_cons]; simp
    rw [piecesS_cons hne]
    have hc : cutS (flatP ([b] :: r)) = (b :: flatP r, true) := by rw [flatP_cons]; simp [cutS]
    have h1 : pieceS (flatP ([b] :: r)) = ([b], true) := by simp [pieceS, hc, endS_one hb]
    have h2 : restS (flatP ([b] :: r)) = flatP r := by simp [restS, hc, endS_one hb]
    rw [h1, h2, pieces_flat r (fun s hs => h s (List.mem_cons_of_mem _ hs))]
    rfl
theorem splGo_good : ∀ (names : List Bytes) (n : Nat), (∀ s, s ∈ names → Nm s) → n + names.length ≤ 12 → splGo (names.map fun s => (s, true)) n = some names
  | [], _, _, _ => rfl
  | s :: r, n, h, hl => by
    have hb : badP (s, true) n = false := by
      simp only [List.length_cons] at hl
      simp [badP, nm_good (h s List.mem_cons_self)]; omega
    simp only [List.map_cons, splGo, hb, Bool.false_eq_true, ↓reduceIte]
    rw [splGo_good r (n + 1) (fun s hs => h s (List.mem_cons_of_mem _ hs)) (by simp only [List.length_cons] at hl; omega)]
    rfl
theorem split_join (names : List Bytes) (h : ∀ s, s ∈ names → Nm s) (hl : names.length ≤ 12) : splitN (joinN names) = (names, 0) := by
  cases names with
  | nil => rfl
  | cons s r =>
    have hj : joinN (s :: r) = flatP (s :: r) := by simp [joinN]
    have hne : flatP (s :: r) ≠ [47] := by
      obtain ⟨b, rfl, _, _⟩ := nm_one (h s List.mem_cons_self)
      rw [flatP_cons]; simp
    unfold splitN
    rw [hj, if_neg hne, pieces_flat _ h, splGo_good _ 0 h (by omega)]
theorem flatP_ascii : ∀ (names : List Bytes), (∀ s, s ∈ names → Nm s) → Ascii (flatP names) ∧ (flatP names).length = 2 * names.length
  | [], _ => ⟨fun b hb => (by cases hb), rfl⟩
  | s :: r, h => by
    obtain ⟨b, rfl, _, hb⟩ := nm_one (h s List.mem_cons_self)
    obtain ⟨h1, h2⟩ := flatP_ascii r (fun s hs => h s (List.mem_cons_of_mem _ hs))
    rw [flatP_cons]
    refine ⟨fun c hc => ?_, by simp [h2]; omega⟩
    simp at hc
    rcases hc with rfl | rfl | hc
    · decide
    · exact hb
    · exact h1 c hc
theorem joinN_ascii (names : List Bytes) (h : ∀ s, s ∈ names → Nm s) (hl : names.length ≤ 12) : Ascii (joinN names) ∧ (joinN names).length ≤ 100000 := by
  unfold joinN
  split
  · exact ⟨fun b hb => by simp at hb; subst hb; decide, by simp⟩
  · obtain ⟨h1, h2⟩ := flatP_ascii names h
    exact ⟨h1, by omega⟩
def walkTo (nodes : List Node) : Int → List Bytes → Option Int
  | i, [] => some i
  | i, s :: r => if (lookN nodes i s).2 = 0 then walkTo nodes (lookN nodes i s).1 r else none
theorem walkTo_app (nodes : List Node) : ∀ (a b : List Bytes) (i : Int), walkTo nodes i (a ++ b) = (walkTo nodes i a).bind fun j => walkTo nodes j b
  | [], _, _ => rfl
  | s :: a, b, i => by
    simp only [List.cons_append, walkTo]
    split
    · exact walkTo_app nodes a b _
    · rfl
def nameIn (l : List Ent) (i : Int) : Bytes := ((l.find? fun e => e.ino == i).getD ⟨[], 0, 0⟩).name
def pathN (nodes : List Node) : Nat → Int → List Bytes
  | 0, _ => []
  | k + 1, i => pathN nodes k (upOf nodes i) ++ [nameIn (nodeN nodes (upOf nodes i)).ents i]
theorem pathN_len (nodes : List Node) : ∀ (k : Nat) (i : Int), (pathN nodes k i).length = k
  | 0, _ => rfl
  | k + 1, i => by simp [pathN, pathN_len nodes k]
section
variable {t : Tree} {dep : Int → Nat}
theorem GInv.nameIn_ok (h : GInv t dep 0) {i : Int} {n : Node} (hi : find t.nodes i = some n) (hk : n.kind = 2) (h1 : i ≠ 1) : ∃ p e, find t.nodes n.up = some p ∧ p.kind = 2 ∧ e ∈ p.ents ∧ e.ino = i ∧ nameIn p.ents i = e.name ∧ findE p.ents e.name = some e ∧ cntE p.ents i = 1 := by
  obtain ⟨p, e0, p1, p2, p3, p4⟩ := h.named hi hk h1 (by have := (h.num _ _ hi).1; omega)
  cases hf : p.ents.find? fun e => e.ino == i with
  | none =>
    have := List.find?_eq_none.1 hf e0 p3
    simp [p4] at this
  | some e =>
    have he := List.mem_of_find?_eq_some hf
    have hei : e.ino = i := by simpa using List.find?_some hf
    refine ⟨p, e, p1, p2, he, hei, by simp [nameIn, hf], (findE_iff (h.srt.ents p (find_mem p1).1)).2 ⟨he, rfl⟩, ?_⟩
    have hl := h.links _ _ hi
    rw [if_neg (by have := (h.num _ _ hi).1; omega), h.one _ _ hi hk h1] at hl
    have hw := cnt_withoutN h.srt.asc n.up i
    simp only [nodeN, p1, Option.getD_some] at hw
    have := cntE_pos.2 ⟨e, he, hei⟩
    omega
theorem GInv.path_ok (h : GInv t dep 0) : ∀ (k : Nat) (i : Int) (n : Node), find t.nodes i = some n → n.kind = 2 → dep i = k → walkTo t.nodes 1 (pathN t.nodes k i) = some i ∧ ∀ s, s ∈ pathN t.nodes k i → Nm s := by
  intro k
  induction k with
  | zero =>
    intro i n hi hk hd
    rcases Int.decEq i 1 with h1 | h1
    · have := (h.deps _ _ hi hk h1).1; omega
    · subst h1; exact ⟨rfl, fun s hs => by cases hs⟩
  | succ k ih =>
    intro i n hi hk hd
    have h1 : i ≠ 1 := fun hh => by subst hh; have := h.dep1; omega
    obtain ⟨p, e, p1, p2, p3, p4, p5, p6, _⟩ := h.nameIn_ok hi hk h1
    obtain ⟨hdd, _⟩ := h.deps _ _ hi hk h1
    obtain ⟨i1, i2⟩ := ih n.up p p1 p2 (by omega)
    have hu : upOf t.nodes i = n.up := h.up_of hi
    have hpn : nodeN t.nodes n.up = p := by simp [nodeN, p1]
    have hnm : Nm e.name := (h.ent _ _ e p1 p3).2.2.2.1
    simp only [pathN, hu, hpn, p5]
    refine ⟨?_, fun s hs => ?_⟩
    · rw [walkTo_app, i1]
      simp only [Option.bind_some, walkTo]
      rw [look_of p1 p2 (nm_good hnm), p6]
      simp [p4]
    · rcases List.mem_append.1 hs with hs | hs
      · exact i2 s hs
      · simp at hs; subst hs; exact hnm
theorem addN_walk (h : GInv t dep 0) {d : Int} {nm : Bytes} {kind : Int} (ha : (addN t d nm kind).2.2 = 0) (names : List Bytes) (hw : walkTo t.nodes 1 names = some d) : walkTo (addN t d nm kind).1.nodes 1 (names ++ [nm]) = some (addN t d nm kind).2.1 := by
  have hadd : ∃ dN, find t.nodes d = some dN ∧ dN.kind = 2 ∧ nameOk nm = true ∧ findE dN.ents nm = none ∧ (kind = 1 ∨ kind = 2) ∧
      addN t d nm kind = (enteredN ⟨withN t.nodes ⟨t.next, kind, 1, [], [], if (kind == 2) = true then d else 0⟩, w64 (t.next + 1), t.cookie⟩ d nm t.next, t.next, 0) := by
    unfold addN at ha ⊢
    split at ha
    · cases ha
    · rename_i hk
      split at ha
      · rename_i he; simp at he; exact absurd ha he
      · rename_i he
        split at ha
        · cases ha
        · rename_i hb
          obtain ⟨dN, d1, d2, d3, d4, _⟩ := enter_ok (by simpa using he)
          refine ⟨dN, d1, d2, d3, d4, ?_, by rw [if_neg hk, if_neg he, if_neg hb]⟩
          simp only [Bool.and_eq_true, bne_iff_ne, ne_eq, not_and, Decidable.not_not] at hk
          by_cases h1 : kind = 1
          · exact .inl h1
          · exact .inr (hk h1)
  obtain ⟨dN, d1, d2, d3, d4, _, heq⟩ := hadd
  rw [heq]
  simp only
  have hE : AscE dN.ents := h.srt.ents dN (find_mem d1).1
  have hlt := (h.num _ _ d1).2
  have a1 := withN_asc h.srt.asc ⟨t.next, kind, 1, [], [], if (kind == 2) = true then d else 0⟩
  have f1 := find_withN h.srt.asc ⟨t.next, kind, 1, [], [], if (kind == 2) = true then d else 0⟩
  have fd : find (withN t.nodes ⟨t.next, kind, 1, [], [], if (kind == 2) = true then d else 0⟩) d = some dN := by rw [f1]; simp only; rw [if_neg (by omega)]; exact d1
  have fU : ∀ i, i ≠ t.next → find (enteredN ⟨withN t.nodes ⟨t.next, kind, 1, [], [], if (kind == 2) = true then d else 0⟩, w64 (t.next + 1), t.cookie⟩ d nm t.next).nodes i = if i = d then some { dN with ents := insE dN.ents ⟨nm, t.next, t.cookie⟩ } else find t.nodes i := by
    intro i hi
    unfold enteredN
    simp only [fd, Option.getD_some]
    rw [find_withN a1]
    simp only [(find_mem d1).2]
    rw [f1]
    simp only
    rw [if_neg hi]
  have keep : ∀ i s x, lookN t.nodes i s = (x, 0) → lookN (enteredN ⟨withN t.nodes ⟨t.next, kind, 1, [], [], if (kind == 2) = true then d else 0⟩, w64 (t.next + 1), t.cookie⟩ d nm t.next).nodes i s = (x, 0) := by
    intro i s x hl
    obtain ⟨p, e, e1, e2, e3, e4, e5⟩ := look_ok (nodes := t.nodes) (dir := i) (s := s) (by rw [hl]; rfl)
    have hne : i ≠ t.next := by have := (h.num _ _ e1).2; omega
    have hfi := fU i hne
    rw [hl] at e5
    injection e5 with e5 _
    by_cases hid : i = d
    · rw [if_pos hid] at hfi
      have : p = dN := by rw [hid, d1] at e1; injection e1 with e1; exact e1.symm
      subst this
      rw [look_of hfi d2 e3]
      simp only
      rw [findE_insE hE (e := ⟨nm, t.next, t.cookie⟩) d4]
      have hsn : s ≠ nm := fun hh => by rw [hh, d4] at e4; cases e4
      simp only [hsn, ↓reduceIte, e4, e5]
    · rw [if_neg hid, e1] at hfi
      rw [look_of hfi e2 e3, e4, e5]
  have hwu : ∀ (ns : List Bytes) (i j : Int), walkTo t.nodes i ns = some j → walkTo (enteredN ⟨withN t.nodes ⟨t.next, kind, 1, [], [], if (kind == 2) = true then d else 0⟩, w64 (t.next + 1), t.cookie⟩ d nm t.next).nodes i ns = some j := by
    intro ns
    induction ns with
    | nil => intro i j hj; exact hj
    | cons s ns ih =>
      intro i j hj
      simp only [walkTo] at hj ⊢
      split at hj
      · rename_i h0
        have hk := keep i s (lookN t.nodes i s).1 (by rw [← h0])
        rw [hk]
        simp only [↓reduceIte]
        exact ih _ _ hj
      · cases hj
  rw [walkTo_app, hwu names 1 d hw]
  simp only [Option.bind_some, walkTo]
  have hfd := fU d (by omega)
  rw [if_pos rfl] at hfd
  have hl : lookN (enteredN ⟨withN t.nodes ⟨t.next, kind, 1, [], [], if (kind == 2) = true then d else 0⟩, w64 (t.next + 1), t.cookie⟩ d nm t.next).nodes d nm = (t.next, 0) := by
    rw [look_of hfd d2 d3]
    simp only
    rw [findE_insE hE (e := ⟨nm, t.next, t.cookie⟩) d4]
    simp
  rw [hl]
  simp
end
end Go.Proofs.YtnapockikkbkcaaGreat
set_option linter.defProp false
namespace Go.Proofs.YtnapockikkbkcaaGreat
open Go Go.Abs
def q6_0 : ACode :=
 (.seq (.region [
 ob 26 (.mv (.tmp 9)),
 ob 8 (.mv (.tmp 26))] false [8]) (.ret))
def q6_1 : ACode :=
 (.seq (.region [
 ob 40 (.mv (.tmp 9)),
 ob 8 (.mv (.tmp 40))] false [8]) (.ret))
def q6_2 : ACode :=
 (.seq (.region [
 ob 8 (.mv (.cst (.bool false)))] false [8]) (.ret))
def q6_3 : ACode :=
 (.seq (.region [
 ob 69 (.mv (.tmp 9)),
 ob 8 (.mv (.tmp 69))] false [8]) (.ret))
def q6_4 : ACode :=
 (.seq (.region [
 ob 88 (.mv (.tmp 9)),
 ob 89 (.mv (.tmp 88)),
 og 90 89 true (.mv (.tmp 20)),
 og 91 89 true (.bin .eql (.tmp 90) (.cst (.int .i64 0))),
 ob 92 (.pick (.tmp 89) (.tmp 91) (.cst (.bool false))),
 ob 93 (.mv (.tmp 92)),
 og 94 93 true (.mv (.tmp 21)),
 og 95 93 true (.mv (.tmp 17)),
 og 96 93 true (.bin .eql (.tmp 94) (.tmp 95)),
 ob 97 (.pick (.tmp 93) (.tmp 96) (.cst (.bool false))),
 ob 98 (.mv (.tmp 97)),
 og 99 98 true (.mv (.tmp 22)),
 og 100 98 true (.bin .eql (.tmp 99) (.cst (.int .i64 0))),
 ob 101 (.pick (.tmp 98) (.tmp 100) (.cst (.bool false))),
 ob 8 (.mv (.tmp 101))] false [8]) (.ret))
def q6_5 : ACode :=
 (.seq (.region [
 ob 76 (.loadA 3 (.tmp 16)),
 ob 77 (.lits 1 []),
 ob 78 (.mv (.tmp 19)),
 ⟨(some 79), .append 1 16 (.tmp 77) (.tmp 78), none, true, false, [16]⟩,
 ob 80 (.mv (.tmp 2)),
 ⟨(some 81), .call 16 [(.tmp 80)], none, true, false, []⟩,
 ob 82 (.lits 1 [(.tmp 81)]),
 ⟨(some 83), .append 1 16 (.tmp 79) (.tmp 82), none, true, false, [16]⟩,
 ⟨(some 84), .call 30 [(.tmp 83)], none, true, false, []⟩,
 ob 85 (.call 27 [(.tmp 76), (.tmp 84)]),
 ob 75 (.mv (.tmp 85)),
 ob 86 (.extract (.tmp 75) 0),
 ob 87 (.extract (.tmp 75) 1),
 ob 21 (.mv (.tmp 86)),
 ob 22 (.mv (.tmp 87))] true [9, 17, 20, 21, 22]) q6_4)
def q6_6 : ACode :=
 (.seq (.region [
 ob 71 (.mv (.tmp 12)),
 ob 72 (.call 29 [(.tmp 71)]),
 ob 70 (.mv (.tmp 72)),
 ob 73 (.extract (.tmp 70) 0),
 ob 74 (.extract (.tmp 70) 1),
 ob 19 (.mv (.tmp 73)),
 ob 20 (.mv (.tmp 74))] false [2, 9, 16, 17, 19, 20]) q6_5)
def q6_7 : ACode :=
 (.seq (.seq (.region [
 ob 67 (.mv (.tmp 18)),
 ob 68 (.bin .neq (.tmp 67) (.cst (.int .i64 0)))] false [2, 9, 12, 16, 17, 68]) (.cond (.tmp 68) q6_3 (.skip))) q6_6)
def q6_8 : ACode :=
 (.seq (.seq (.region [
 ob 60 (.mv (.tmp 14)),
 ob 61 (.mv (.tmp 11)),
 ob 62 (.bin .neq (.tmp 60) (.tmp 61)),
 ob 63 (.mv (.tmp 62)),
 og 64 63 false (.mv (.tmp 15)),
 og 65 63 false (.bin .neq (.tmp 64) (.cst (.int .i64 0))),
 ob 66 (.pick (.tmp 63) (.cst (.bool true)) (.tmp 65))] false [2, 9, 12, 16, 17, 18, 66]) (.cond (.tmp 66) q6_2 (.skip))) q6_7)
def q6_9 : ACode :=
 (.seq (.region [
 ob 48 (.loadA 3 (.tmp 10)),
 ob 49 (.mv (.tmp 11)),
 ob 50 (.mv (.tmp 2)),
 ⟨(some 51), .call 16 [(.tmp 50)], none, false, true, []⟩,
 ob 52 (.mv (.tmp 3)),
 ob 53 (.conv .i64 (.tmp 52)),
 ob 54 (.bin .rem (.tmp 53) (.cst (.int .i64 2))),
 ob 55 (.bin .add (.tmp 54) (.cst (.int .i64 1))),
 ⟨(some 56), .call 28 [(.tmp 48), (.tmp 49), (.tmp 51), (.tmp 55)], none, false, true, []⟩,
 ob 47 (.mv (.tmp 56)),
 ob 57 (.extract (.tmp 47) 0),
 ob 58 (.extract (.tmp 47) 1),
 ob 59 (.extract (.tmp 47) 2),
 ⟨(some 16), .box0 [(.slice .c0 []), (.int .i64 0), (.int .i64 0)], none, true, false, []⟩,
 ox (.store 3 (.tmp 16) (.tmp 57)),
 ob 17 (.mv (.tmp 58)),
 ob 18 (.mv (.tmp 59))] true [2, 9, 11, 12, 14, 15, 16, 17, 18]) q6_8)
def q6_10 : ACode :=
 (.seq (.region [
 ob 42 (.loadA 3 (.tmp 10)),
 ob 43 (.mv (.tmp 12)),
 ob 44 (.call 27 [(.tmp 42), (.tmp 43)]),
 ob 41 (.mv (.tmp 44)),
 ob 45 (.extract (.tmp 41) 0),
 ob 46 (.extract (.tmp 41) 1),
 ob 14 (.mv (.tmp 45)),
 ob 15 (.mv (.tmp 46))] false [2, 3, 9, 10, 11, 12, 14, 15]) q6_9)
def q6_11 : ACode :=
 (.seq (.seq (.region [
 ob 38 (.mv (.tmp 13)),
 ob 39 (.not (.tmp 38))] false [2, 3, 9, 10, 11, 12, 39]) (.cond (.tmp 39) q6_1 (.skip))) q6_10)
def q6_12 : ACode :=
 (.seq (.region [
 ob 33 (.loadA 3 (.tmp 10)),
 ob 34 (.mv (.tmp 11)),
 ob 35 (.call 26 [(.tmp 33), (.tmp 34)]),
 ob 32 (.mv (.tmp 35)),
 ob 36 (.extract (.tmp 32) 0),
 ob 37 (.extract (.tmp 32) 1),
 ob 12 (.mv (.tmp 36)),
 ob 13 (.mv (.tmp 37))] false [2, 3, 9, 10, 11, 12, 13]) q6_11)
def q6_13 : ACode :=
 (.seq (.region [
 ob 29 (.loadA 3 (.tmp 10)),
 ob 30 (.mv (.tmp 1)),
 ob 31 (.call 14 [(.tmp 29), (.tmp 30)]),
 ob 11 (.mv (.tmp 31))] false [2, 3, 9, 10, 11]) q6_12)
def q6_14 : ACode :=
 (.seq (.region [
 ob 27 (.mv (.tmp 0)),
 ob 28 (.call 13 [(.tmp 27)]),
 ob 10 (.box0 [(.slice .c0 []), (.int .i64 0), (.int .i64 0)]),
 ox (.store 3 (.tmp 10) (.tmp 28))] false [1, 2, 3, 9, 10]) q6_13)
def q6_15 : ACode :=
 (.seq (.seq (.region [
 ob 24 (.mv (.tmp 0)),
 ob 25 (.call 12 [(.tmp 24)])] false [0, 1, 2, 3, 9, 25]) (.cond (.tmp 25) q6_0 (.skip))) q6_14)
def q6_16 : ACode :=
 (.seq (.region [
 ob 23 (.call 11 []),
 ob 9 (.mv (.tmp 23))] false [0, 1, 2, 3, 9]) q6_15)
def E6 := And.intro (exK_head q6_0.eq_1) (And.intro (exK_head q6_1.eq_1) (And.intro (exK_head q6_2.eq_1) (And.intro (exK_head q6_3.eq_1) (And.intro (exK_head q6_4.eq_1) (And.intro (exK_head q6_5.eq_1) (And.intro (exK_head q6_6.eq_1) (And.intro (exK_head q6_7.eq_1) (And.intro (exK_head q6_8.eq_1) (And.intro (exK_head q6_9.eq_1) (And.intro (exK_head q6_10.eq_1) (And.intro (exK_head q6_11.eq_1) (And.intro (exK_head q6_12.eq_1) (And.intro (exK_head q6_13.eq_1) (And.intro (exK_head q6_14.eq_1) (And.intro (exK_head q6_15.eq_1) (exK_head q6_16.eq_1))))))))))))))))
def ann6 : Ann := { n := 102, own := [], lv := [(0, [0, 1, 2, 3]), (1, [0, 1, 2, 3, 9]), (2, [0, 1, 2, 3, 9, 25]), (3, [8]), (4, [1, 2, 3, 9, 10]), (5, [2, 3, 9, 10, 11]), (6, [2, 3, 9, 10, 11, 12, 13]), (7, [2, 3, 9, 10, 11, 12, 39]), (8, [8]), (9, [2, 3, 9, 10, 11, 12, 14, 15]), (10, [2, 9, 11, 12, 14, 15, 16, 17, 18]), (11, [2, 9, 12, 16, 17, 18, 66]), (12, [8]), (13, [2, 9, 12, 16, 17, 68]), (14, [8]), (15, [2, 9, 16, 17, 19, 20]), (16, [9, 17, 20, 21, 22]), (17, [8])], lp := [] }
def fn6 : AFn := AFn.mk 4 [.tmp 8]
  (.seq (.region [
  ob 8 (.mv (.cst (.bool false)))] false [0, 1, 2, 3]) q6_16)
theorem ok6 : compFn Tryz.prog ann6 Tryz.f6 = some fn6 := by kernel_rfl
def q26_0 : ACode :=
 (.seq (.region [
 ob 4 (.mv (.cst (.str []))),
 ob 5 (.mv (.cst (.bool false)))] false [4, 5]) (.ret))
def q26_1 : ACode :=
 (.region [
 ob 57 (.faddr 4 (.tmp 11)),
 ob 58 (.load1 (.tmp 57)),
 ob 59 (.mv (.tmp 13)),
 ob 60 (.iaddr 3 (.tmp 58) (.tmp 59)),
 ob 61 (.faddr 0 (.tmp 60)),
 ob 62 (.load1 (.tmp 61)),
 ob 63 (.litsO 1 [(.tmp 62)]),
 ob 64 (.mv (.tmp 8)),
 ob 65 (.append 1 16 (.tmp 63) (.tmp 64)),
 ob 8 (.mv (.tmp 65))] false [1, 2, 8, 9, 11, 13])
def q26_2 : ACode :=
 (.region [
 ob 47 (.mv (.tmp 13)),
 ob 48 (.bin .add (.tmp 47) (.cst (.int .i64 1))),
 ob 13 (.mv (.tmp 48))] false [1, 2, 8, 9, 11, 13])
def q26_3 : ACode :=
 (.seq (.block 3 (.seq (.region [
 ob 49 (.faddr 4 (.tmp 11)),
 ob 50 (.load1 (.tmp 49)),
 ob 51 (.mv (.tmp 13)),
 ob 52 (.iaddr 3 (.tmp 50) (.tmp 51)),
 ob 53 (.faddr 1 (.tmp 52)),
 ob 54 (.load1 (.tmp 53)),
 ob 55 (.mv (.tmp 1)),
 ob 56 (.bin .eql (.tmp 54) (.tmp 55))] false [1, 2, 8, 9, 11, 13, 56]) (.cond (.tmp 56) q26_1 (.skip)))) q26_2)
def lb26_0 : ACode :=
 (.seq (.seq (.region [
 ob 42 (.mv (.tmp 13)),
 ob 43 (.faddr 4 (.tmp 11)),
 ob 44 (.load1 (.tmp 43)),
 ob 45 (.lenV (.tmp 44)),
 ob 46 (.bin .lss (.tmp 42) (.tmp 45))] false [1, 2, 8, 9, 11, 13, 46]) (.cond (.tmp 46) (.skip) (.exit 2))) q26_3)
def q26_4 : ACode :=
 (.block 2 (.loop [1, 2, 8, 9, 11, 13] lb26_0))
def q26_5 : ACode :=
 (.region [
 ob 66 (.faddr 5 (.tmp 9)),
 ob 67 (.load1 (.tmp 66)),
 ob 1 (.mv (.tmp 67))] false [1, 2, 8])
def q26_6 : ACode :=
 (.seq (.seq (.region [
 ob 13 (.mv (.cst (.int .i64 0)))] false [1, 2, 8, 9, 11, 13]) q26_4) q26_5)
def q26_7 : ACode :=
 (.seq (.region [
 ob 36 (.loadA 3 (.tmp 2)),
 ob 37 (.faddr 5 (.tmp 9)),
 ob 38 (.load1 (.tmp 37)),
 ob 39 (.call 56 [(.tmp 36), (.tmp 38)]),
 ob 35 (.mv (.tmp 39)),
 ob 40 (.extract (.tmp 35) 0),
 ob 41 (.extract (.tmp 35) 1),
 ob 11 (.box0 [(.int .i64 0), (.int .i64 0), (.int .i64 0), (.slice .c0 []), (.slice .c0 []), (.int .i64 0)]),
 ox (.store 6 (.tmp 11) (.tmp 40)),
 ob 12 (.mv (.tmp 41))] false [1, 2, 8, 9, 11]) q26_6)
def q26_8 : ACode :=
 (.block 1 (.seq (.region [
 ob 30 (.loadA 3 (.tmp 2)),
 ob 31 (.mv (.tmp 1)),
 ob 32 (.call 56 [(.tmp 30), (.tmp 31)]),
 ob 29 (.mv (.tmp 32)),
 ob 33 (.extract (.tmp 29) 0),
 ob 34 (.extract (.tmp 29) 1),
 ob 9 (.box0 [(.int .i64 0), (.int .i64 0), (.int .i64 0), (.slice .c0 []), (.slice .c0 []), (.int .i64 0)]),
 ox (.store 6 (.tmp 9) (.tmp 33)),
 ob 10 (.mv (.tmp 34))] false [1, 2, 8, 9]) q26_7))
def lb26_1 : ACode :=
 (.seq (.seq (.region [
 ob 27 (.mv (.tmp 1)),
 ob 28 (.bin .neq (.tmp 27) (.cst (.int .i64 1)))] false [1, 2, 8, 28]) (.cond (.tmp 28) (.skip) (.exit 0))) q26_8)
def q26_9 : ACode :=
 (.seq (.region [
 ob 68 (.mv (.tmp 8)),
 ob 69 (.call 30 [(.tmp 68)]),
 ob 4 (.mv (.tmp 69)),
 ob 5 (.mv (.cst (.bool true)))] false [4, 5]) (.ret))
def q26_10 : ACode :=
 (.seq (.block 0 (.loop [1, 2, 8] lb26_1)) q26_9)
def q26_11 : ACode :=
 (.seq (.region [
 ob 8 (.mv (.cst (.slice .c0 [])))] false [1, 2, 8]) q26_10)
def q26_12 : ACode :=
 (.seq (.seq (.region [
 ob 20 (.mv (.tmp 7)),
 ob 21 (.not (.tmp 20)),
 ob 22 (.mv (.tmp 21)),
 og 23 22 false (.faddr 1 (.tmp 6)),
 og 24 22 false (.load1 (.tmp 23)),
 og 25 22 false (.bin .neq (.tmp 24) (.cst (.int .i64 2))),
 ob 26 (.pick (.tmp 22) (.cst (.bool true)) (.tmp 25))] false [1, 2, 26]) (.cond (.tmp 26) q26_0 (.skip))) q26_11)
def q26_13 : ACode :=
 (.seq (.region [
 ob 15 (.loadA 3 (.tmp 2)),
 ob 16 (.mv (.tmp 1)),
 ob 17 (.call 56 [(.tmp 15), (.tmp 16)]),
 ob 14 (.mv (.tmp 17)),
 ob 18 (.extract (.tmp 14) 0),
 ob 19 (.extract (.tmp 14) 1),
 ob 6 (.box0 [(.int .i64 0), (.int .i64 0), (.int .i64 0), (.slice .c0 []), (.slice .c0 []), (.int .i64 0)]),
 ox (.store 6 (.tmp 6) (.tmp 18)),
 ob 7 (.mv (.tmp 19))] false [1, 2, 6, 7]) q26_12)
def E26 := And.intro (exK_head q26_0.eq_1) (And.intro (exK_head q26_1.eq_1) (And.intro (exK_head q26_2.eq_1) (And.intro (exK_head q26_3.eq_1) (And.intro (exK_head lb26_0.eq_1) (And.intro (exK_head q26_4.eq_1) (And.intro (exK_head q26_5.eq_1) (And.intro (exK_head q26_6.eq_1) (And.intro (exK_head q26_7.eq_1) (And.intro (exK_head q26_8.eq_1) (And.intro (exK_head lb26_1.eq_1) (And.intro (exK_head q26_9.eq_1) (And.intro (exK_head q26_10.eq_1) (And.intro (exK_head q26_11.eq_1) (And.intro (exK_head q26_12.eq_1) (exK_head q26_13.eq_1)))))))))))))))
def ann26 : Ann := { n := 70, own := [63], lv := [(0, [1, 2]), (1, [1, 2, 6, 7]), (2, [1, 2, 26]), (3, [4, 5]), (4, [1, 2, 8]), (5, [1, 2, 8, 28]), (6, [1, 2, 8, 9]), (7, [1, 2, 8, 9, 11]), (8, [1, 2, 8, 9, 11, 13]), (9, [1, 2, 8, 9, 11, 13, 46]), (10, [1, 2, 8, 9, 11, 13]), (11, [1, 2, 8, 9, 11, 13, 56]), (12, [1, 2, 8, 9, 11, 13]), (13, [1, 2, 8]), (14, [4, 5])], lp := [(5, [1, 2, 8]), (9, [1, 2, 8, 9, 11, 13])] }
def fn26 : AFn := AFn.mk 2 [.tmp 4, .tmp 5]
  (.seq (.region [
  ob 2 (.box (.tmp 0)),
  ob 4 (.mv (.cst (.str []))),
  ob 5 (.mv (.cst (.bool false)))] false [1, 2]) q26_13)
theorem ok26 : compFn Tryz.prog ann26 Tryz.f26 = some fn26 := by kernel_rfl
def q29_0 : ACode :=
 (.seq (.region [
 ob 10 (.mv (.tmp 4)),
 ob 2 (.mv (.tmp 10)),
 ob 3 (.mv (.cst (.int .i64 0)))] false [2, 3]) (.ret))
def q29_1 : ACode :=
 (.seq (.region [
 ob 2 (.mv (.cst (.slice .c0 []))),
 ob 3 (.mv (.cst (.int .i64 60)))] false [2, 3]) (.ret))
def q29_2 : ACode :=
 (.seq (.region [
 ob 2 (.mv (.cst (.slice .c0 []))),
 ob 3 (.mv (.cst (.int .i64 60)))] false [2, 3]) (.ret))
def q29_3 : ACode :=
 (.region [
 ob 52 (.mv (.tmp 6)),
 ob 53 (.bin .add (.tmp 52) (.cst (.int .i64 1))),
 ob 5 (.mv (.tmp 53))] false [0, 4, 5, 6])
def q29_4 : ACode :=
 (.seq (.region [
 ob 45 (.mv (.tmp 4)),
 ob 46 (.mv (.tmp 0)),
 ob 47 (.mv (.tmp 5)),
 ob 48 (.mv (.tmp 6)),
 ob 49 (.sliceS (.tmp 46) (some (.tmp 47)) (some (.tmp 48))),
 ob 50 (.lits 1 [(.tmp 49)]),
 ob 51 (.append 1 16 (.tmp 45) (.tmp 50)),
 ob 4 (.mv (.tmp 51))] false [0, 4, 6]) q29_3)
def q29_5 : ACode :=
 (.seq (.seq (.region [
 ob 34 (.mv (.tmp 0)),
 ob 35 (.mv (.tmp 5)),
 ob 36 (.mv (.tmp 6)),
 ob 37 (.sliceS (.tmp 34) (some (.tmp 35)) (some (.tmp 36))),
 ob 38 (.call 22 [(.tmp 37)]),
 ob 39 (.not (.tmp 38)),
 ob 40 (.mv (.tmp 39)),
 og 41 40 false (.mv (.tmp 4)),
 og 42 40 false (.lenV (.tmp 41)),
 og 43 40 false (.bin .eql (.tmp 42) (.cst (.int .i64 12))),
 ob 44 (.pick (.tmp 40) (.cst (.bool true)) (.tmp 43))] false [0, 4, 5, 6, 44]) (.cond (.tmp 44) q29_2 (.skip))) q29_4)
def q29_6 : ACode :=
 (.region [
 ob 22 (.mv (.tmp 6)),
 ob 23 (.bin .add (.tmp 22) (.cst (.int .i64 1))),
 ob 6 (.mv (.tmp 23))] false [0, 4, 5, 6])
def q29_7 : ACode :=
 (.seq (.block 1 (.seq (.seq (.region [
 ob 24 (.mv (.tmp 6)),
 ob 25 (.mv (.tmp 0)),
 ob 26 (.lenS (.tmp 25)),
 ob 27 (.bin .lss (.tmp 24) (.tmp 26)),
 ob 28 (.mv (.tmp 27)),
 og 29 28 true (.mv (.tmp 0)),
 og 30 28 true (.mv (.tmp 6)),
 og 31 28 true (.indexS (.tmp 29) (.tmp 30)),
 og 32 28 true (.bin .neq (.tmp 31) (.cst (.int .u8 47))),
 ob 33 (.pick (.tmp 28) (.tmp 32) (.cst (.bool false)))] false [0, 4, 5, 6, 33]) (.cond (.tmp 33) (.exit 1) (.skip))) q29_5)) q29_6)
def lb29_0 : ACode :=
 (.seq (.seq (.region [
 ob 18 (.mv (.tmp 6)),
 ob 19 (.mv (.tmp 0)),
 ob 20 (.lenS (.tmp 19)),
 ob 21 (.bin .leq (.tmp 18) (.tmp 20))] false [0, 4, 5, 6, 21]) (.cond (.tmp 21) (.skip) (.exit 0))) q29_7)
def q29_8 : ACode :=
 (.seq (.region [
 ob 54 (.mv (.tmp 4)),
 ob 2 (.mv (.tmp 54)),
 ob 3 (.mv (.cst (.int .i64 0)))] false [2, 3]) (.ret))
def q29_9 : ACode :=
 (.seq (.seq (.region [
 ob 6 (.mv (.cst (.int .i64 1)))] false [0, 4, 5, 6]) (.block 0 (.loop [0, 4, 5, 6] lb29_0))) q29_8)
def q29_10 : ACode :=
 (.seq (.region [
 ob 5 (.mv (.cst (.int .i64 1)))] false [0, 4, 5]) q29_9)
def q29_11 : ACode :=
 (.seq (.seq (.region [
 ob 11 (.mv (.tmp 0)),
 ob 12 (.bin .eql (.tmp 11) (.cst (.str []))),
 ob 13 (.mv (.tmp 12)),
 og 14 13 false (.mv (.tmp 0)),
 og 15 13 false (.indexS (.tmp 14) (.cst (.int .i64 0))),
 og 16 13 false (.bin .neq (.tmp 15) (.cst (.int .u8 47))),
 ob 17 (.pick (.tmp 13) (.cst (.bool true)) (.tmp 16))] false [0, 4, 17]) (.cond (.tmp 17) q29_1 (.skip))) q29_10)
def q29_12 : ACode :=
 (.seq (.seq (.region [
 ob 8 (.mv (.tmp 0)),
 ob 9 (.bin .eql (.tmp 8) (.cst (.str [47])))] false [0, 4, 9]) (.cond (.tmp 9) q29_0 (.skip))) q29_11)
def q29_13 : ACode :=
 (.seq (.region [
 ob 7 (.litsO 1 []),
 ob 4 (.mv (.tmp 7))] false [0, 4]) q29_12)
def E29 := And.intro (exK_head q29_0.eq_1) (And.intro (exK_head q29_1.eq_1) (And.intro (exK_head q29_2.eq_1) (And.intro (exK_head q29_3.eq_1) (And.intro (exK_head q29_4.eq_1) (And.intro (exK_head q29_5.eq_1) (And.intro (exK_head q29_6.eq_1) (And.intro (exK_head q29_7.eq_1) (And.intro (exK_head lb29_0.eq_1) (And.intro (exK_head q29_8.eq_1) (And.intro (exK_head q29_9.eq_1) (And.intro (exK_head q29_10.eq_1) (And.intro (exK_head q29_11.eq_1) (And.intro (exK_head q29_12.eq_1) (exK_head q29_13.eq_1))))))))))))))
def ann29 : Ann := { n := 55, own := [7], lv := [(0, [0]), (1, [0, 4]), (2, [0, 4, 9]), (3, [2, 3]), (4, [0, 4, 17]), (5, [2, 3]), (6, [0, 4, 5]), (7, [0, 4, 5, 6]), (8, [0, 4, 5, 6, 21]), (9, [0, 4, 5, 6]), (10, [0, 4, 5, 6, 33]), (11, [0, 4, 5, 6, 44]), (12, [2, 3]), (13, [0, 4, 6]), (14, [0, 4, 5, 6]), (15, [2, 3])], lp := [(8, [0, 4, 5, 6])] }
def fn29 : AFn := AFn.mk 1 [.tmp 2, .tmp 3]
  (.seq (.region [
  ob 2 (.mv (.cst (.slice .c0 []))),
  ob 3 (.mv (.cst (.int .i64 0)))] false [0]) q29_13)
theorem ok29 : compFn Tryz.prog ann29 Tryz.f29 = some fn29 := by kernel_rfl
def q30_0 : ACode :=
 (.seq (.region [
 ob 2 (.mv (.cst (.str [47])))] false [2]) (.ret))
def q30_1 : ACode :=
 (.region [
 ob 12 (.mv (.tmp 4)),
 ob 13 (.bin .add (.tmp 12) (.cst (.int .i64 1))),
 ob 4 (.mv (.tmp 13))] false [0, 3, 4])
def q30_2 : ACode :=
 (.seq (.block 1 (.region [
 ob 14 (.mv (.tmp 3)),
 ob 15 (.bin .add (.tmp 14) (.cst (.str [47]))),
 ob 16 (.mv (.tmp 0)),
 ob 17 (.mv (.tmp 4)),
 ob 18 (.iaddr 1 (.tmp 16) (.tmp 17)),
 ob 19 (.load1 (.tmp 18)),
 ob 20 (.bin .add (.tmp 15) (.tmp 19)),
 ob 3 (.mv (.tmp 20))] false [0, 3, 4])) q30_1)
def lb30_0 : ACode :=
 (.seq (.seq (.region [
 ob 8 (.mv (.tmp 4)),
 ob 9 (.mv (.tmp 0)),
 ob 10 (.lenV (.tmp 9)),
 ob 11 (.bin .lss (.tmp 8) (.tmp 10))] false [0, 3, 4, 11]) (.cond (.tmp 11) (.skip) (.exit 0))) q30_2)
def q30_3 : ACode :=
 (.seq (.region [
 ob 21 (.mv (.tmp 3)),
 ob 2 (.mv (.tmp 21))] false [2]) (.ret))
def q30_4 : ACode :=
 (.seq (.seq (.region [
 ob 4 (.mv (.cst (.int .i64 0)))] false [0, 3, 4]) (.block 0 (.loop [0, 3, 4] lb30_0))) q30_3)
def q30_5 : ACode :=
 (.seq (.region [
 ob 3 (.mv (.cst (.str [])))] false [0, 3]) q30_4)
def q30_6 : ACode :=
 (.seq (.seq (.region [
 ob 5 (.mv (.tmp 0)),
 ob 6 (.lenV (.tmp 5)),
 ob 7 (.bin .eql (.tmp 6) (.cst (.int .i64 0)))] false [0, 7]) (.cond (.tmp 7) q30_0 (.skip))) q30_5)
def E30 := And.intro (exK_head q30_0.eq_1) (And.intro (exK_head q30_1.eq_1) (And.intro (exK_head q30_2.eq_1) (And.intro (exK_head lb30_0.eq_1) (And.intro (exK_head q30_3.eq_1) (And.intro (exK_head q30_4.eq_1) (And.intro (exK_head q30_5.eq_1) (exK_head q30_6.eq_1)))))))
def ann30 : Ann := { n := 22, own := [], lv := [(0, [0]), (1, [0, 7]), (2, [2]), (3, [0, 3]), (4, [0, 3, 4]), (5, [0, 3, 4, 11]), (6, [0, 3, 4]), (7, [0, 3, 4]), (8, [2])], lp := [(5, [0, 3, 4])] }
def fn30 : AFn := AFn.mk 1 [.tmp 2]
  (.seq (.region [
  ob 2 (.mv (.cst (.str [])))] false [0]) q30_6)
theorem ok30 : compFn Tryz.prog ann30 Tryz.f30 = some fn30 := by kernel_rfl
end Go.Proofs.YtnapockikkbkcaaGreat
namespace Go.Proofs.YtnapockikkbkcaaGreat
open Go Go.Abs Go.ChangeShapes Go.WideShapes Go.RowKit Go.Deep
set_option maxRecDepth 100000 in
theorem treePaths_lifted {T : Tab} (hT : SoundC Tryz.prog (acall T)) (K : ∀ (x0 : List Step) (x1 : Nat) (x2 : Nat) (x3 : Nat), (∀ s, s ∈ x0 → stepOk s) → x1 < 256 → x2 < 256 → x3 < 256 → acall T 6 [eSteps x0, eU x1, eU x2, eU x3] [] = some (.bool true, []))
    (os : Os) (started : os.Started) (H : Type) (enc : TypeId × Value → H) :
    ReturnsInHanded {} Tryz.checked os 6 .any (Rows.treePathsSpec.pre6 enc Tryz.prog Tryz.f6 Rows.treePathsRow.domain false) (Rows.treePathsSpec.post enc Tryz.prog Tryz.f6 false Rows.treePathsRow.fresh Rows.treePathsRow.handsOn Rows.treePathsRow.again) := by
  refine returnsInHanded_of_change (C := Tryz.checked) ownK started (by kernel_rfl) Tryz.func6
    (ChangeSpec.witness6 (enc := enc) (C := Tryz.checked) false ⟨#[], #[.slice none 0 0, .int .u8 0, .int .u8 0, .int .u8 0], []⟩ 8 (by kernel_rfl) (by kernel_rfl) (by kernel_rfl) (by kernel_rfl)) ?_
  intro W base args ds gs before hval0 hW _ _
  have hval : ∀ (j : Nat) t v, Tryz.f6.params[j]? = some t → args[j]? = some v → Value.okWide Tryz.prog W .any base t v := hval0
  have hW' := hW
  obtain ⟨p, q, hA0, hV, rfl, _, _⟩ := hW
  have hA : DataW.TrodAll enc Tryz.prog W 0 (fun _ => true) true Tryz.f6.params.toList args.toList ds p := hA0
  have hA1 := hA
  rw [Tryz.params6] at hA hval
  obtain ⟨v0, vs1, d0, ds1, p0, q0, hvs0, rfl, rfl, h0, hA⟩ := trodAll_cons hA
  obtain ⟨v1, vs2, d1, ds2, p1, q1, rfl, rfl, rfl, h1, hA⟩ := trodAll_cons hA
  obtain ⟨v2, vs3, d2, ds3, p2, q2, rfl, rfl, rfl, h2, hA⟩ := trodAll_cons hA
  obtain ⟨v3, vs4, d3, ds4, p3, q3, rfl, rfl, rfl, h3, hA⟩ := trodAll_cons hA
  obtain ⟨rfl, rfl, rfl⟩ := trodAll_nil hA
  obtain rfl := two_of hvs0
  obtain ⟨rfl, rfl⟩ := trodVars_none hV
  obtain ⟨m0, l0, r0⟩ := steps_rep h0 (steps_cells Tryz.underlying22 (hval 0 22 _ rfl rfl))
  obtain ⟨n1, rfl, rfl, _, w1⟩ := open_int Tryz.underlying5 (hval 1 5 _ rfl rfl) h1
  obtain ⟨m1, rfl, l1⟩ := u8_nat w1
  obtain ⟨n2, rfl, rfl, _, w2⟩ := open_int Tryz.underlying5 (hval 2 5 _ rfl rfl) h2
  obtain ⟨m2, rfl, l2⟩ := u8_nat w2
  obtain ⟨n3, rfl, rfl, _, w3⟩ := open_int Tryz.underlying5 (hval 3 5 _ rfl rfl) h3
  obtain ⟨m3, rfl, l3⟩ := u8_nat w3
  have hlt : ∀ x ∈ (p0 ++ (p1 ++ (p2 ++ (p3 ++ [])))), x.block < W.heap.size := fun x hx => hW'.lt x (by simpa using hx)
  refine (plain_callS hT (K m0 m1 m2 m3 l0 l1 l2 l3) W _ rfl ?_).mono ?_
  · intro i c v hc hv
    match i with
    | 0 => cases hc; cases hv; exact .plain r0
    | 1 => cases hc; cases hv; exact .plain (.int _ _)
    | 2 => cases hc; cases hv; exact .plain (.int _ _)
    | 3 => cases hc; cases hv; exact .plain (.int _ _)
    | i + 4 => cases hc
  · rintro e W' ⟨v, j', rfl, hb, hrep⟩
    obtain rfl := hrep.bool_inv
    exact ⟨_, rfl, ⟨_, _, _, [], _, [], hW', trodAll_mk1 (shut_bool Tryz.underlying4 true), trodAll_stays hb hA1 (by rw [Tryz.params6]; intro t ht; simp at ht; rcases ht with rfl | rfl <;> exact ⟨by kernel_rfl, of_decide_eq_true (by kernel_rfl)⟩) hlt, rfl, hb.frame _, fun h => by cases h⟩⟩
theorem treePaths_of {T : Tab} (hT : SoundC Tryz.prog (acall T)) (K : ∀ (x0 : List Step) (x1 : Nat) (x2 : Nat) (x3 : Nat), (∀ s, s ∈ x0 → stepOk s) → x1 < 256 → x2 < 256 → x3 < 256 → acall T 6 [eSteps x0, eU x1, eU x2, eU x3] [] = some (.bool true, [])) : Rows.TreePathsSaid :=
  OpenClaim.holds_of_wide 6 Tryz.f6 rfl rfl rfl rfl rfl rfl rfl ⟨rfl, rfl, rfl, rfl, rfl⟩ rfl rfl rfl rfl rfl (by kernel_rfl) Tryz.func6 (by kernel_rfl)
    (of_decide_eq_true (by kernel_rfl)) (by unfold Func.isWrapper; rw [if_neg (by decide +kernel)]; exact ⟨rfl, rfl⟩)
    (fun os started H enc _ => treePaths_lifted hT K os started H enc)
end Go.Proofs.YtnapockikkbkcaaGreat
namespace Go.Proofs.YtnapockikkbkcaaGreat
open Go Go.Abs
attribute [local irreducible] exK opsK opK gK forkK kr acall callOp owhen obind
def cLf : Nat → Option AFn
  | 6 => some fn6
  | 26 => some fn26
  | 29 => some fn29
  | 30 => some fn30
  | _ => none
theorem xLf : ExtOk cLf := by
  refine ⟨fun f fn h => ?_, fun f fn h => ?_⟩
  · unfold cLf at h
    split at h
    · injection h with h; subst h; exact ⟨_, _, Tryz.func6, ok6⟩
    · injection h with h; subst h; exact ⟨_, _, Tryz.func26, ok26⟩
    · injection h with h; subst h; exact ⟨_, _, Tryz.func29, ok29⟩
    · injection h with h; subst h; exact ⟨_, _, Tryz.func30, ok30⟩
    · cases h
  · unfold cLf at h
    split at h
    · exact ⟨rfl, rfl⟩
    · exact ⟨rfl, rfl⟩
    · exact ⟨rfl, rfl⟩
    · exact ⟨rfl, rfl⟩
    · cases h
abbrev eStrs (l : List Bytes) : AVal := .slice .sh (l.map AVal.str)
theorem wid_strs (l : List Bytes) : wid (l.map AVal.str) 1 = True := by
  simp only [eq_iff_iff, iff_true]
  intro x hx
  obtain ⟨n, _, rfl⟩ := List.mem_map.1 hx
  rfl
theorem max_i64 : IntKind.i64.max = 9223372036854775807 := rfl
theorem loop30 {names : List Bytes} (hn : names.length ≤ 100000) {k : List K} {R : Bytes → Option (AVal × AMem)}
    (hx : ∀ out v q, kr (acall (tabX cLf)) [.tmp 2] 0 k ⟨.exit 0, [(0, eStrs names), (3, .str out), (4, v), (11, q)], []⟩ = R out) :
    ∀ (l pre : List Bytes) (out : Bytes), names = pre ++ l → out.length + (flatP l).length ≤ 100000 → exK (acall (tabX cLf)) [.tmp 2] 0 k (.loop [0, 3, 4] lb30_0) [(0, eStrs names), (3, .str out), (4, .int .i64 pre.length)] [] = R (out ++ flatP l) := by
  intro l
  induction l with
  | nil =>
    intro pre out h hb
    rw [exK_loop]
    have : out ++ flatP [] = out := by simp [flatP]
    rw [this]
    simp only [E30, lt_end h, EVT, EVD, ↓reduceIte, Nat.reduceEqDiff, reduceCtorEq, Nat.reduceAdd, Nat.reduceLeDiff, ne_eq, Nat.reduceLT, Int.reduceLT, Int.reduceLE, Int.reduceNeg]
    exact hx _ _ _
  | cons x rest ih =>
    intro pre out h hb
    rw [exK_loop]
    have hfl : (flatP (x :: rest)).length = x.length + 1 + (flatP rest).length := by rw [flatP_cons]; simp; omega
    have hm1 : (IntKind.i64.max < ((out.length + 1 : Nat) : Int)) = False := by rw [max_i64]; simp; omega
    have hm2 : (IntKind.i64.max < ((out.length + 1 + x.length : Nat) : Int)) = False := by rw [max_i64]; simp; omega
    have hlen : pre.length + 1 ≤ 100000 := by rw [h] at hn; simp at hn; omega
    have hw : IntKind.i64.wrap ((pre.length : Int) + 1) = ((pre ++ [x]).length : Int) := by rw [wrap_small (by omega) (by omega)]; exact step_len
    have hh := ih (pre ++ [x]) (out ++ [47] ++ x) (by rw [h]; simp) (by simp; omega)
    simp only [List.length_append, List.length_cons, List.length_nil] at hh
    have he : out ++ flatP (x :: rest) = out ++ [47] ++ x ++ flatP rest := by rw [flatP_cons]; simp
    rw [he]
    simp only [E30, lt_mid h, at_mid h, wid_strs, hw, hm1, hm2, EVT, EVD, ↓reduceIte, Nat.reduceEqDiff, reduceCtorEq, Nat.reduceAdd, Nat.reduceLeDiff, ne_eq, Nat.reduceLT, Int.reduceLT, Int.reduceLE, Int.reduceNeg]
    exact hh
theorem c30 (names : List Bytes) (hn : names.length ≤ 100000) (hb : (flatP names).length ≤ 100000) : acall (tabX cLf) 30 [eStrs names] [] = some (.str (joinN names), []) := by
  refine acall_ex rfl rfl rfl ?_
  by_cases h0 : names = []
  · subst h0
    have hz : (((0 : Nat) : Int) == 0) = true := rfl
    simp only [fn30, E30, hz, EVT, EVD, ↓reduceIte, Nat.reduceEqDiff, reduceCtorEq, Nat.reduceAdd, Nat.reduceLeDiff, ne_eq, Nat.reduceLT, Int.reduceLT, Int.reduceLE, Int.reduceNeg]
    rfl
  · have hl : ((names.length : Int) == 0) = false := by
      have : names.length ≠ 0 := fun hh => h0 (List.length_eq_zero_iff.1 hh)
      simp; omega
    unfold joinN
    rw [if_neg h0]
    have hlp := fun k R hx => loop30 hn (k := k) (R := R) hx names [] [] rfl (by simpa using hb)
    simp only [List.nil_append] at hlp
    simp only [fn30, E30, hl, EVT, EVD, ↓reduceIte, Nat.reduceEqDiff, reduceCtorEq, Nat.reduceAdd, Nat.reduceLeDiff, ne_eq, Nat.reduceLT, Int.reduceLT, Int.reduceLE, Int.reduceNeg]
    refine hlp _ (fun o => some (.str o, [])) (fun out v q => ?_)
    simp only [E30, EVT, EVD, ↓reduceIte, Nat.reduceEqDiff, reduceCtorEq, Nat.reduceAdd, Nat.reduceLeDiff, ne_eq, Nat.reduceLT, Int.reduceLT, Int.reduceLE, Int.reduceNeg]
theorem k30 (names : List Bytes) (hn : names.length ≤ 100000) (hb : (flatP names).length ≤ 100000) (M : AMem) : callOp (acall (tabX cLf)) 30 [eStrs names] M = some (.str (joinN names), M) := callOp0 (c30 names hn hb) rfl rfl rfl rfl rfl M
theorem k69 (s : Bytes) (names : List Bytes) (e : Int) (ha : Ascii s) (hl : s.length ≤ 100000) (hs : splitN s = (names, e)) (M : AMem) : callOp (acall (tabX cLf)) 69 [.str s] M = some (.tuple [eStrs names, .int .i64 e], M) :=
  callOp0 (acall_prim (g := pSplit) rfl (by simp only [pSplit, ha, hl, hs, and_self, ↓reduceIte])) rfl rfl rfl rfl rfl M
theorem loop27 {nodes : List Node} {next cookie : Int} (ht : Small ⟨nodes, next, cookie⟩) (hr : Srt ⟨nodes, next, cookie⟩) {names : List Bytes} (hn : names.length ≤ 100000) (hnm : ∀ s, s ∈ names → Nm s) {res : Int} {k : List K} {r : Option (AVal × AMem)}
    (hx : ∀ v q, kr (acall (tabX cLf)) [.tmp 4, .tmp 5] 0 k ⟨.exit 0, [(2, .ptr 0 0), (8, .int .i64 res), (19, eStrs names), (20, .int .i64 names.length), (21, v), (22, q)], [.cells [eNodes nodes, .int .i64 next, .int .i64 cookie]]⟩ = r) :
    ∀ (l pre : List Bytes) (i : Int), names = pre ++ l → walkTo nodes i l = some res → exK (acall (tabX cLf)) [.tmp 4, .tmp 5] 0 k (.loop [2, 8, 19, 20, 21] lb27_0) [(2, .ptr 0 0), (8, .int .i64 i), (19, eStrs names), (20, .int .i64 names.length), (21, .int .i64 pre.length)] [.cells [eNodes nodes, .int .i64 next, .int .i64 cookie]] = r := by
  intro l
  induction l with
  | nil =>
    intro pre i h hw
    simp only [walkTo, Option.some.injEq] at hw
    subst hw
    rw [exK_loop]
    simp only [E27, lt_end h, EVT, EVD, ↓reduceIte, Nat.reduceEqDiff, reduceCtorEq, Nat.reduceAdd, Nat.reduceLeDiff, ne_eq, Nat.reduceLT, Int.reduceLT, Int.reduceLE, Int.reduceNeg]
    exact hx _ _
  | cons x rest ih =>
    intro pre i h hw
    rw [exK_loop]
    have hlen : pre.length + 1 ≤ 100000 := by rw [h] at hn; simp at hn; omega
    have hw1 : IntKind.i64.wrap ((pre.length : Int) + 1) = ((pre ++ [x]).length : Int) := by rw [wrap_small (by omega) (by omega)]; exact step_len
    simp only [walkTo] at hw
    split at hw
    · rename_i h0
      have hh := ih (pre ++ [x]) _ (by rw [h]; simp) hw
      simp only [List.length_append, List.length_cons, List.length_nil] at hh
      obtain ⟨b, hb1, _, hb2⟩ := nm_one (hnm x (by rw [h]; simp))
      have q15 := fun M => kX xLf (k15 nodes next cookie i x ht hr (by rw [hb1]; simp) (by rw [hb1]; intro c hc; simp at hc; subst hc; exact hb2) M)
      simp only [E27, lt_mid h, at_mid h, wid_strs, q15, h0, hw1, bne_self_eq_false, EVT, EVD, ↓reduceIte, Nat.reduceEqDiff, reduceCtorEq, Nat.reduceAdd, Nat.reduceLeDiff, ne_eq, Nat.reduceLT, Int.reduceLT, Int.reduceLE, Int.reduceNeg]
      exact hh
    · cases hw
theorem c27 (t : Tree) (ht : Small t) (hr : Srt t) (path : Bytes) (names : List Bytes) (res : Int) (ha : Ascii path) (hl : path.length ≤ 100000) (hs : splitN path = (names, 0)) (hn : names.length ≤ 100000) (hnm : ∀ s, s ∈ names → Nm s) (hw : walkTo t.nodes 1 names = some res) :
    acall (tabX cLf) 27 [eTree t, .str path] [] = some (.tuple [.int .i64 res, .int .i64 0], []) := by
  obtain ⟨nodes, next, cookie⟩ := t
  have q69 := fun M => k69 path names 0 ha hl hs M
  have hlp := fun k r hx => loop27 ht hr hn hnm (res := res) (k := k) (r := r) hx names [] 1 rfl hw
  refine acall_ex rfl rfl rfl ?_
  simp only [fn27, E27, eTree, eTreeC, q69, bne_self_eq_false, EVT, EVD, ↓reduceIte, Nat.reduceEqDiff, reduceCtorEq, Nat.reduceAdd, Nat.reduceLeDiff, ne_eq, Nat.reduceLT, Int.reduceLT, Int.reduceLE, Int.reduceNeg]
  refine hlp _ _ (fun v q => ?_)
  simp only [E27, EVT, EVD, ↓reduceIte, Nat.reduceEqDiff, reduceCtorEq, Nat.reduceAdd, Nat.reduceLeDiff, ne_eq, Nat.reduceLT, Int.reduceLT, Int.reduceLE, Int.reduceNeg]
theorem k27 (nodes : List Node) (next cookie : Int) (ht : Small ⟨nodes, next, cookie⟩) (hr : Srt ⟨nodes, next, cookie⟩) (path : Bytes) (names : List Bytes) (res : Int) (ha : Ascii path) (hl : path.length ≤ 100000) (hs : splitN path = (names, 0)) (hn : names.length ≤ 100000) (hnm : ∀ s, s ∈ names → Nm s) (hw : walkTo nodes 1 names = some res) (M : AMem) :
    callOp (acall (tabX cLf)) 27 [.agg [eNodes nodes, .int .i64 next, .int .i64 cookie], .str path] M = some (.tuple [.int .i64 res, .int .i64 0], M) := callOp0 (c27 ⟨nodes, next, cookie⟩ ht hr path names res ha hl hs hn hnm hw) rfl rfl rfl rfl rfl M
theorem flatP_app (a b : List Bytes) : flatP (a ++ b) = flatP a ++ flatP b := by simp [flatP]
theorem loop29 {names : List Bytes} {path : Bytes} (hp : path = flatP names) (hnm : ∀ s, s ∈ names → Nm s) (hl : names.length ≤ 12) {k : List K} {r : Option (AVal × AMem)}
    (hx : ∀ v w q, kr (acall (tabX cLf)) [.tmp 2, .tmp 3] 0 k ⟨.exit 0, [(0, .str path), (4, .slice (.own 0) (names.map AVal.str)), (5, v), (6, w), (21, q)], [.tick 1 names.length]⟩ = r) :
    ∀ (l pre : List Bytes), names = pre ++ l → exK (acall (tabX cLf)) [.tmp 2, .tmp 3] 0 k (.loop [0, 4, 5, 6] lb29_0) [(0, .str path), (4, .slice (.own 0) (pre.map AVal.str)), (5, .int .i64 ((2 * pre.length + 1 : Nat) : Int)), (6, .int .i64 ((2 * pre.length + 1 : Nat) : Int))] [.tick 1 pre.length] = r := by
  have hpl : path.length = 2 * names.length := by rw [hp]; exact (flatP_ascii names hnm).2
  intro l
  induction l with
  | nil =>
    intro pre h
    rw [List.append_nil] at h
    subst h
    have hle : decide (((2 * names.length + 1 : Nat) : Int) ≤ (path.length : Int)) = false := by rw [decide_eq_false_iff_not]; omega
    rw [exK_loop]
    simp only [E29, hle, EVT, EVD, ↓reduceIte, Nat.reduceEqDiff, reduceCtorEq, Nat.reduceAdd, Nat.reduceLeDiff, ne_eq, Nat.reduceLT, Int.reduceLT, Int.reduceLE, Int.reduceNeg]
    exact hx _ _ _
  | cons x rest ih =>
    intro pre h
    obtain ⟨b, hb1, hb2, _⟩ := nm_one (hnm x (by rw [h]; simp))
    have hkl : pre.length + 1 + rest.length = names.length := by rw [h]; simp; omega
    have hpre : (flatP pre).length = 2 * pre.length := (flatP_ascii pre (fun s hs => hnm s (by rw [h]; exact List.mem_append_left _ hs))).2
    have hpath : path = flatP pre ++ (47 :: b :: flatP rest) := by rw [hp, h, flatP_app, flatP_cons, hb1]; simp
    have g1 : path[2 * pre.length + 1]? = some b := by rw [hpath, List.getElem?_append_right (by omega), hpre]; simp
    have hle1 : decide (((2 * pre.length + 1 : Nat) : Int) ≤ (path.length : Int)) = true := by rw [decide_eq_true_eq]; omega
    have hlt1 : decide (((2 * pre.length + 1 : Nat) : Int) < (path.length : Int)) = true := by rw [decide_eq_true_eq]; omega
    have hne : ((b.toNat : Int) != 47) = true := by
      simp
      intro hh
      exact hb2 (UInt8.toNat_inj.1 (by have : b.toNat = 47 := by omega
                                       rw [this]; rfl))
    have hw1 : IntKind.i64.wrap (((2 * pre.length + 1 : Nat) : Int) + 1) = ((2 * pre.length + 2 : Nat) : Int) := by rw [wrap_small (by omega) (by omega)]; omega
    have hnn : ((0 : Int) ≤ ((2 * pre.length + 1 : Nat) : Int)) = True := by simp; omega
    rw [exK_loop]
    simp only [E29, hle1, hlt1, hnn, g1, hne, hw1, EVT, EVD, ↓reduceIte, Nat.reduceEqDiff, reduceCtorEq, Nat.reduceAdd, Nat.reduceLeDiff, ne_eq, Nat.reduceLT, Int.reduceLT, Int.reduceLE, Int.reduceNeg]
    rw [exK_loop]
    have hle2 : decide (((2 * pre.length + 2 : Nat) : Int) ≤ (path.length : Int)) = true := by rw [decide_eq_true_eq]; omega
    have hw2 : IntKind.i64.wrap (((2 * pre.length + 2 : Nat) : Int) + 1) = ((2 * (pre ++ [x]).length + 1 : Nat) : Int) := by rw [wrap_small (by omega) (by omega)]; simp; omega
    have hsl : (path.take (2 * pre.length + 2)).drop (2 * pre.length + 1) = [b] := by
      rw [hpath]
      have e1 : flatP pre ++ 47 :: b :: flatP rest = (flatP pre ++ [47]) ++ ([b] ++ flatP rest) := by simp
      have e2 : (flatP pre ++ [47]).length = 2 * pre.length + 1 := by simp [hpre]
      rw [e1, List.take_append, e2, List.drop_append]
      simp [e2]
    have hno : nameOk [b] = true := by rw [← hb1]; exact nm_good (hnm x (by rw [h]; simp))
    have q22 := fun M => kX xLf (k22 [b] (by simp) M)
    have h12 : ((pre.length : Int) == 12) = false := by simp; omega
    have hroom : roomOk (pre.length + 1) 16 = True := room_ok (by omega) (by omega)
    have hh := ih (pre ++ [x]) (by rw [h]; simp)
    simp only [List.map_append, List.map_cons, List.map_nil, hb1, List.length_append, List.length_cons, List.length_nil] at hh
    have hbd1 : (((2 * pre.length + 2 : Nat) : Int) ≤ (path.length : Int)) = True := by simp only [eq_iff_iff, iff_true]; omega
    have hbd2 : (((2 * pre.length + 1 : Nat) : Int) ≤ ((2 * pre.length + 2 : Nat) : Int)) = True := by simp only [eq_iff_iff, iff_true]; omega
    simp only [List.length_append, List.length_cons, List.length_nil] at hw2
    have hnn2 : ((0 : Int) ≤ ((2 * pre.length + 2 : Nat) : Int)) = True := by simp; omega
    by_cases hlast : rest = []
    · have hlt2 : decide (((2 * pre.length + 2 : Nat) : Int) < (path.length : Int)) = false := by
        rw [decide_eq_false_iff_not]; subst hlast; simp at hkl; omega
      simp only [E29, hle2, hlt2, boundOf, hbd1, hbd2, hsl, q22, hno, h12, hroom, wid_strs, hw2, List.length_map, EVT, EVD, ↓reduceIte, Nat.reduceEqDiff, reduceCtorEq, Nat.reduceAdd, Nat.reduceLeDiff, ne_eq, Nat.reduceLT, Int.reduceLT, Int.reduceLE, Int.reduceNeg]
      exact hh
    · have hlt2 : decide (((2 * pre.length + 2 : Nat) : Int) < (path.length : Int)) = true := by
        rw [decide_eq_true_eq]
        have : rest.length ≠ 0 := fun hh => hlast (List.length_eq_zero_iff.1 hh)
        omega
      have g2 : path[2 * pre.length + 2]? = some 47 := by
        obtain ⟨y, rest', hy⟩ := List.exists_cons_of_ne_nil hlast
        rw [hpath, List.getElem?_append_right (by omega), hpre, hy, flatP_cons]
        simp [show 2 * pre.length + 2 - 2 * pre.length = 2 by omega]
      have h47 : ((((47 : UInt8).toNat : Nat) : Int) != 47) = false := rfl
      simp only [E29, hle2, hlt2, hnn2, g2, h47, boundOf, hbd1, hbd2, hsl, q22, hno, h12, hroom, wid_strs, hw2, List.length_map, EVT, EVD, ↓reduceIte, Nat.reduceEqDiff, reduceCtorEq, Nat.reduceAdd, Nat.reduceLeDiff, ne_eq, Nat.reduceLT, Int.reduceLT, Int.reduceLE, Int.reduceNeg]
      exact hh
theorem c29 (names : List Bytes) (hnm : ∀ s, s ∈ names → Nm s) (hl : names.length ≤ 12) : acall (tabX cLf) 29 [.str (joinN names)] [] = some (.tuple [eStrs names, .int .i64 0], []) := by
  refine acall_ex rfl rfl rfl ?_
  by_cases h0 : names = []
  · subst h0
    have hj : joinN [] = [47] := rfl
    rw [hj]
    have hz : (([47] : Bytes) == [47]) = true := rfl
    simp only [fn29, E29, hz, EVT, EVD, ↓reduceIte, Nat.reduceEqDiff, reduceCtorEq, Nat.reduceAdd, Nat.reduceLeDiff, ne_eq, Nat.reduceLT, Int.reduceLT, Int.reduceLE, Int.reduceNeg]
    rfl
  · obtain ⟨x, rest, hx⟩ := List.exists_cons_of_ne_nil h0
    obtain ⟨b, hb1, _, _⟩ := nm_one (hnm x (by rw [hx]; simp))
    have hj : joinN names = flatP names := by simp [joinN, h0]
    have hf : flatP names = 47 :: b :: flatP rest := by rw [hx, flatP_cons, hb1]; rfl
    have b1 : (joinN names == [47]) = false := by rw [hj, hf]; simp
    have b2 : (joinN names == []) = false := by rw [hj, hf]; simp
    have b3 : (joinN names)[0]? = some 47 := by rw [hj, hf]; rfl
    have h47 : ((((47 : UInt8).toNat : Nat) : Int) != 47) = false := rfl
    have hz0 : Int.toNat 0 = 0 := rfl
    have hlp := fun k r hx => loop29 hj hnm hl (k := k) (r := r) hx names [] rfl
    have h21 : ((2 * ([] : List Bytes).length + 1 : Nat) : Int) = 1 := rfl
    simp only [h21, List.map_nil, List.length_nil] at hlp
    simp only [fn29, E29, b1, b2, b3, h47, hz0, Int.le_refl, EVT, EVD, ↓reduceIte, Nat.reduceEqDiff, reduceCtorEq, Nat.reduceAdd, Nat.reduceLeDiff, ne_eq, Nat.reduceLT, Int.reduceLT, Int.reduceLE, Int.reduceNeg]
    refine hlp _ _ (fun v w q => ?_)
    simp only [E29, EVT, EVD, ↓reduceIte, Nat.reduceEqDiff, reduceCtorEq, Nat.reduceAdd, Nat.reduceLeDiff, ne_eq, Nat.reduceLT, Int.reduceLT, Int.reduceLE, Int.reduceNeg]
theorem k29 (names : List Bytes) (hnm : ∀ s, s ∈ names → Nm s) (hl : names.length ≤ 12) (M : AMem) : callOp (acall (tabX cLf)) 29 [.str (joinN names)] M = some (.tuple [eStrs names, .int .i64 0], M) := callOp0 (c29 names hnm hl) rfl rfl rfl rfl rfl M
def RowOf (v : AVal) (acc : List Bytes) : Prop := (v = .slice .c0 [] ∧ acc = []) ∨ v = eStrs acc
def pickNames (i : Int) (l : List Ent) (acc : List Bytes) : List Bytes := l.foldl (fun ns e => if e.ino = i then e.name :: ns else ns) acc
theorem pick_none (i : Int) : ∀ (l : List Ent) (acc : List Bytes), cntE l i = 0 → pickNames i l acc = acc
  | [], _, _ => rfl
  | x :: l, acc, h => by
    rw [cntE_cons] at h
    have hx : ¬ x.ino = i := fun hh => by rw [if_pos hh] at h; omega
    rw [if_neg hx] at h
    unfold pickNames
    rw [List.foldl_cons, if_neg hx]
    exact pick_none i l acc h
theorem pick_one (i : Int) : ∀ (l : List Ent) (acc : List Bytes), cntE l i = 1 → pickNames i l acc = nameIn l i :: acc
  | [], _, h => by simp [cntE_nil] at h
  | x :: l, acc, h => by
    rw [cntE_cons] at h
    unfold pickNames
    rw [List.foldl_cons]
    by_cases hx : x.ino = i
    · rw [if_pos hx] at h ⊢
      have hn : nameIn (x :: l) i = x.name := by simp [nameIn, hx]
      rw [hn]
      exact pick_none i l _ (by omega)
    · rw [if_neg hx] at h ⊢
      have hn : nameIn (x :: l) i = nameIn l i := by simp [nameIn, hx]
      rw [hn]
      exact pick_one i l acc (by omega)
theorem pick_len (i : Int) : ∀ (l : List Ent) (acc : List Bytes), (pickNames i l acc).length ≤ acc.length + l.length
  | [], _ => Nat.le_refl _
  | x :: l, acc => by
    unfold pickNames
    rw [List.foldl_cons]
    have h1 := pick_len i l (if x.ino = i then x.name :: acc else acc)
    unfold pickNames at h1
    refine Nat.le_trans h1 ?_
    split <;> simp <;> omega
set_option maxHeartbeats 1000000 in
theorem loop26a {nodes : List Node} {next cookie i : Int} {n0 n p : Node} (he : p.ents.length ≤ 1000) {fin : List Bytes} {k : List K} {r : Option (AVal × AMem)}
    (hx : ∀ v8 v q, RowOf v8 fin → kr (acall (tabX cLf)) [.tmp 4, .tmp 5] 0 k ⟨.exit 2, [(1, .int .i64 i), (2, .ptr 0 0), (8, v8), (9, .ptr 2 0), (11, .ptr 3 0), (13, v), (46, q)], [.cells [eNodes nodes, .int .i64 next, .int .i64 cookie], .cells (eNodeC n0), .cells (eNodeC n), .cells (eNodeC p)]⟩ = r) :
    ∀ (l pre : List Ent) (acc : List Bytes) (v8 : AVal), p.ents = pre ++ l → RowOf v8 acc → acc.length + l.length ≤ 5000 → pickNames i l acc = fin → exK (acall (tabX cLf)) [.tmp 4, .tmp 5] 0 k (.loop [1, 2, 8, 9, 11, 13] lb26_0) [(1, .int .i64 i), (2, .ptr 0 0), (8, v8), (9, .ptr 2 0), (11, .ptr 3 0), (13, .int .i64 pre.length)] [.cells [eNodes nodes, .int .i64 next, .int .i64 cookie], .cells (eNodeC n0), .cells (eNodeC n), .cells (eNodeC p)] = r := by
  simp only [eNodeC] at hx ⊢
  intro l
  induction l with
  | nil =>
    intro pre acc v8 h hv hb hfin
    have hfin' : acc = fin := hfin
    subst hfin'
    rw [exK_loop]
    simp only [E26, lt_end h, EVT, EVD, ↓reduceIte, Nat.reduceEqDiff, reduceCtorEq, Nat.reduceAdd, Nat.reduceLeDiff, ne_eq, Nat.reduceLT, Int.reduceLT, Int.reduceLE, Int.reduceNeg]
    exact hx _ _ _ hv
  | cons x rest ih =>
    intro pre acc v8 h hv hb hfin
    rw [exK_loop]
    have hlen : pre.length + 1 ≤ 1000 := by rw [h] at he; simp at he; omega
    have hw : IntKind.i64.wrap ((pre.length : Int) + 1) = ((pre ++ [x]).length : Int) := by rw [wrap_small (by omega) (by omega)]; exact step_len
    have hpk : pickNames i (x :: rest) acc = pickNames i rest (if x.ino = i then x.name :: acc else acc) := rfl
    simp only [List.length_cons] at hb
    rw [hpk] at hfin
    rcases hv with ⟨hv, hacc⟩ | hv
    · subst hv; subst hacc
      simp only [E26, lt_mid h, at_mid h, eEntC, EVT, EVD, ↓reduceIte, Nat.reduceEqDiff, reduceCtorEq, Nat.reduceAdd, Nat.reduceLeDiff, ne_eq, Nat.reduceLT, Int.reduceLT, Int.reduceLE, Int.reduceNeg]
      refine fork_split (fun hq => ?_) (fun hq => ?_)
      · have hq' : x.ino = i := by simpa using hq
        rw [if_pos hq'] at hfin
        have hh := ih (pre ++ [x]) [x.name] (eStrs [x.name]) (by rw [h]; simp) (.inr rfl) (by simp; omega) hfin
        simp only [List.length_append, List.length_cons, List.length_nil, List.map_cons, List.map_nil] at hh
        have hroom : roomOk 1 16 = True := room_ok (by omega) (by omega)
        simp only [E26, at_mid h, eEntC, hw, hroom, wid_strs, EVT, EVD, ↓reduceIte, Nat.reduceEqDiff, reduceCtorEq, Nat.reduceAdd, Nat.reduceLeDiff, ne_eq, Nat.reduceLT, Int.reduceLT, Int.reduceLE, Int.reduceNeg]
        exact hh
      · have hq' : ¬ x.ino = i := by simpa using hq
        rw [if_neg hq'] at hfin
        have hh := ih (pre ++ [x]) [] (.slice .c0 []) (by rw [h]; simp) (.inl ⟨rfl, rfl⟩) (by simp; omega) hfin
        simp only [List.length_append, List.length_cons, List.length_nil] at hh
        simp only [E26, hw, EVT, EVD, ↓reduceIte, Nat.reduceEqDiff, reduceCtorEq, Nat.reduceAdd, Nat.reduceLeDiff, ne_eq, Nat.reduceLT, Int.reduceLT, Int.reduceLE, Int.reduceNeg]
        exact hh
    · subst hv
      simp only [E26, lt_mid h, at_mid h, eEntC, EVT, EVD, ↓reduceIte, Nat.reduceEqDiff, reduceCtorEq, Nat.reduceAdd, Nat.reduceLeDiff, ne_eq, Nat.reduceLT, Int.reduceLT, Int.reduceLE, Int.reduceNeg]
      refine fork_split (fun hq => ?_) (fun hq => ?_)
      · have hq' : x.ino = i := by simpa using hq
        rw [if_pos hq'] at hfin
        have hh := ih (pre ++ [x]) (x.name :: acc) (eStrs (x.name :: acc)) (by rw [h]; simp) (.inr rfl) (by simp; omega) hfin
        simp only [List.length_append, List.length_cons, List.length_nil, List.map_cons] at hh
        have hroom : roomOk (1 + acc.length) 16 = True := room_ok (by omega) (by omega)
        simp only [E26, at_mid h, eEntC, hw, hroom, wid_strs, EVT, EVD, ↓reduceIte, Nat.reduceEqDiff, reduceCtorEq, Nat.reduceAdd, Nat.reduceLeDiff, ne_eq, Nat.reduceLT, Int.reduceLT, Int.reduceLE, Int.reduceNeg]
        exact hh
      · have hq' : ¬ x.ino = i := by simpa using hq
        rw [if_neg hq'] at hfin
        have hh := ih (pre ++ [x]) acc (eStrs acc) (by rw [h]; simp) (.inr rfl) (by omega) hfin
        simp only [List.length_append, List.length_cons, List.length_nil] at hh
        simp only [E26, hw, EVT, EVD, ↓reduceIte, Nat.reduceEqDiff, reduceCtorEq, Nat.reduceAdd, Nat.reduceLeDiff, ne_eq, Nat.reduceLT, Int.reduceLT, Int.reduceLE, Int.reduceNeg]
        exact hh
set_option maxHeartbeats 1000000 in
theorem loop26b {nodes : List Node} {next cookie : Int} {dep : Int → Nat} (hi : GInv ⟨nodes, next, cookie⟩ dep 0) (ht : Small ⟨nodes, next, cookie⟩) {n0 : Node} {fin : List Bytes} {k : List K} {r : Option (AVal × AMem)}
    (hx : ∀ v8 q, RowOf v8 fin → kr (acall (tabX cLf)) [.tmp 4, .tmp 5] 0 k ⟨.exit 0, [(1, .int .i64 1), (2, .ptr 0 0), (8, v8), (28, q)], [.cells [eNodes nodes, .int .i64 next, .int .i64 cookie], .cells (eNodeC n0)]⟩ = r) :
    ∀ (d : Nat) (i : Int) (n : Node) (acc : List Bytes) (v8 : AVal), find nodes i = some n → n.kind = 2 → dep i = d → RowOf v8 acc → acc.length + d ≤ 100 → pathN nodes d i ++ acc = fin → exK (acall (tabX cLf)) [.tmp 4, .tmp 5] 0 k (.loop [1, 2, 8] lb26_1) [(1, .int .i64 i), (2, .ptr 0 0), (8, v8)] [.cells [eNodes nodes, .int .i64 next, .int .i64 cookie], .cells (eNodeC n0)] = r := by
  intro d
  induction d with
  | zero =>
    intro i n acc v8 hn hk hd hv hb hfin
    have h1 : i = 1 := by
      rcases Int.decEq i 1 with h1 | h1
      · have := (hi.deps _ _ hn hk h1).1; omega
      · exact h1
    subst h1
    simp only [eNodeC] at hx ⊢
    rw [exK_loop]
    have hfin' : acc = fin := hfin
    subst hfin'
    simp only [E26, bne_self_eq_false, EVT, EVD, ↓reduceIte, Nat.reduceEqDiff, reduceCtorEq, Nat.reduceAdd, Nat.reduceLeDiff, ne_eq, Nat.reduceLT, Int.reduceLT, Int.reduceLE, Int.reduceNeg]
    exact hx _ _ hv
  | succ d ih =>
    intro i n acc v8 hn hk hd hv hb hfin
    have h1 : i ≠ 1 := fun hh => by subst hh; have := hi.dep1; omega
    have hb1 : (i != 1) = true := by simpa using h1
    obtain ⟨p, e, p1, p2, p3, p4, p5, p6, p7⟩ := hi.nameIn_ok hn hk h1
    obtain ⟨hdd, _⟩ := hi.deps _ _ hn hk h1
    have hu : upOf nodes i = n.up := hi.up_of hn
    have hpn : nodeN nodes n.up = p := by simp only at p1; simp [nodeN, p1]
    have hnn : nodeN nodes i = n := by simp [nodeN, hn]
    have q56 := fun ino M => kX xLf (k56 nodes next cookie ino ht.nodes M)
    have hpa : pathN nodes (d + 1) i ++ acc = pathN nodes d n.up ++ (nameIn p.ents i :: acc) := by simp [pathN, hu, hpn]
    rw [hpa] at hfin
    have hpe : p.ents.length ≤ 5 := hi.few p1
    have hla := fun k r hx => loop26a (nodes := nodes) (next := next) (cookie := cookie) (i := i) (n0 := n0) (n := n) (p := p) (by omega) (k := k) (r := r) hx p.ents [] acc v8 rfl hv (by omega) (pick_one i p.ents acc p7)
    simp only [eNodeC] at hla
    have hnn' : (find nodes i).getD Node.zero = n := hnn
    have hpn' : (find nodes n.up).getD Node.zero = p := hpn
    have hnext := fun v8' hv' => ih n.up p (nameIn p.ents i :: acc) v8' p1 p2 (by omega) hv' (by simp only [List.length_cons]; omega) hfin
    simp only [eNodeC] at hnext
    rw [exK_loop]
    simp only [eNodeC]
    rcases hv with ⟨hv, hacc⟩ | hv
    · subst hv; subst hacc
      simp only [E26, hb1, q56, eNode, eNodeC, hnn', hpn', EVT, EVD, ↓reduceIte, Nat.reduceEqDiff, reduceCtorEq, Nat.reduceAdd, Nat.reduceLeDiff, ne_eq, Nat.reduceLT, Int.reduceLT, Int.reduceLE, Int.reduceNeg]
      refine hla _ _ (fun v8' v q hv' => ?_)
      rcases hv' with ⟨hv1, hv2⟩ | hv1
      · cases hv2
      · have hn2 := hnext v8' (.inr hv1)
        subst hv1
        simp only [E26, EVT, EVD, ↓reduceIte, Nat.reduceEqDiff, reduceCtorEq, Nat.reduceAdd, Nat.reduceLeDiff, ne_eq, Nat.reduceLT, Int.reduceLT, Int.reduceLE, Int.reduceNeg]
        exact hn2
    · subst hv
      simp only [E26, hb1, q56, eNode, eNodeC, hnn', hpn', EVT, EVD, ↓reduceIte, Nat.reduceEqDiff, reduceCtorEq, Nat.reduceAdd, Nat.reduceLeDiff, ne_eq, Nat.reduceLT, Int.reduceLT, Int.reduceLE, Int.reduceNeg]
      refine hla _ _ (fun v8' v q hv' => ?_)
      rcases hv' with ⟨hv1, hv2⟩ | hv1
      · cases hv2
      · have hn2 := hnext v8' (.inr hv1)
        subst hv1
        simp only [E26, EVT, EVD, ↓reduceIte, Nat.reduceEqDiff, reduceCtorEq, Nat.reduceAdd, Nat.reduceLeDiff, ne_eq, Nat.reduceLT, Int.reduceLT, Int.reduceLE, Int.reduceNeg]
        exact hn2
theorem c26 {nodes : List Node} {next cookie : Int} {dep : Int → Nat} (hi : GInv ⟨nodes, next, cookie⟩ dep 0) (ht : Small ⟨nodes, next, cookie⟩) (i : Int) :
    ((dirN nodes i).2 ≠ 0 → acall (tabX cLf) 26 [eTree ⟨nodes, next, cookie⟩, .int .i64 i] [] = some (.tuple [.str [], .bool false], [])) ∧
    ((dirN nodes i).2 = 0 → acall (tabX cLf) 26 [eTree ⟨nodes, next, cookie⟩, .int .i64 i] [] = some (.tuple [.str (joinN (pathN nodes (dep i) i)), .bool true], [])) := by
  have q56 := fun ino M => kX xLf (k56 nodes next cookie ino ht.nodes M)
  constructor
  · intro h0
    refine acall_ex rfl rfl rfl ?_
    cases hf : find nodes i with
    | none => simp only [fn26, E26, eTree, eTreeC, q56, hf, eNode, eNodeC, Node.zero, Option.isSome_none, Option.getD_none, EVT, EVD, ↓reduceIte, Nat.reduceEqDiff, reduceCtorEq, Nat.reduceAdd, Nat.reduceLeDiff, ne_eq, Nat.reduceLT, Int.reduceLT, Int.reduceLE, Int.reduceNeg]
    | some n =>
      have hk : (n.kind != 2) = true := by
        unfold dirN at h0
        rw [hf] at h0
        simp only at h0
        split at h0
        · exact absurd rfl h0
        · rename_i hk; simpa using hk
      simp only [fn26, E26, eTree, eTreeC, q56, hf, eNode, eNodeC, Option.isSome_some, Option.getD_some, hk, EVT, EVD, ↓reduceIte, Nat.reduceEqDiff, reduceCtorEq, Nat.reduceAdd, Nat.reduceLeDiff, ne_eq, Nat.reduceLT, Int.reduceLT, Int.reduceLE, Int.reduceNeg]
  · intro h0
    obtain ⟨n, hf, hk, _⟩ := dir_ok h0
    have hkb : (n.kind != 2) = false := by simp [hk]
    obtain ⟨_, hnm⟩ := hi.path_ok (dep i) i n hf hk rfl
    have hlen := pathN_len nodes (dep i) i
    have hd := (hi.deep _ _ hf hk).1
    have hfl := (flatP_ascii _ hnm).2
    simp only at hnm hfl
    have q30 := fun M => k30 (pathN nodes (dep i) i) (by omega) (by omega) M
    have hlp := fun k r hx => loop26b hi ht (n0 := n) (k := k) (r := r) hx (dep i) i n [] (.slice .c0 []) hf hk rfl (.inl ⟨rfl, rfl⟩) (by simp; omega) (List.append_nil _)
    simp only [eNodeC] at hlp
    refine acall_ex rfl rfl rfl ?_
    simp only [fn26, E26, eTree, eTreeC, q56, hf, eNode, eNodeC, Option.isSome_some, Option.getD_some, hkb, EVT, EVD, ↓reduceIte, Nat.reduceEqDiff, reduceCtorEq, Nat.reduceAdd, Nat.reduceLeDiff, ne_eq, Nat.reduceLT, Int.reduceLT, Int.reduceLE, Int.reduceNeg]
    refine hlp _ _ (fun v8 q hv => ?_)
    rcases hv with ⟨hv1, hv2⟩ | hv1
    · subst hv1
      rw [hv2] at q30 ⊢
      have q30' : ∀ M, callOp (acall (tabX cLf)) 30 [.slice .sh []] M = some (.str (joinN []), M) := q30
      simp only [E26, q30', EVT, EVD, ↓reduceIte, Nat.reduceEqDiff, reduceCtorEq, Nat.reduceAdd, Nat.reduceLeDiff, ne_eq, Nat.reduceLT, Int.reduceLT, Int.reduceLE, Int.reduceNeg]
    · subst hv1
      simp only [E26, q30, EVT, EVD, ↓reduceIte, Nat.reduceEqDiff, reduceCtorEq, Nat.reduceAdd, Nat.reduceLeDiff, ne_eq, Nat.reduceLT, Int.reduceLT, Int.reduceLE, Int.reduceNeg]
set_option maxHeartbeats 4000000 in
theorem c6 (l : List Step) (a n kind : Nat) (hl : ∀ s, s ∈ l → stepOk s) (ha : a < 256) (hn : n < 256) (hkd : kind < 256) : acall (tabX cLf) 6 [eSteps l, eU a, eU n, eU kind] [] = some (.bool true, []) := by
  refine acall_ex rfl rfl rfl ?_
  simp only [fn6, E6, kHead xLf, kGreat xLf, EVT, EVD, ↓reduceIte, Nat.reduceEqDiff, reduceCtorEq, Nat.reduceAdd, Nat.reduceLeDiff, ne_eq, Nat.reduceLT, Int.reduceLT, Int.reduceLE, Int.reduceNeg]
  refine fork_split (fun hg => ?_) (fun hg => ?_)
  · simp only [E6, EVT, EVD, ↓reduceIte, Nat.reduceEqDiff, reduceCtorEq, Nat.reduceAdd, Nat.reduceLeDiff, ne_eq, Nat.reduceLT, Int.reduceLT, Int.reduceLE, Int.reduceNeg]
  obtain ⟨hlen, hok⟩ := great_ok hg hl
  have hmade := fun M => kX xLf (k13 l (by omega) hok M)
  obtain ⟨dep, hinv⟩ := madeN_inv l
  have hz : Sz 1000 (madeN l) := (madeN_sz l hok).up (by omega)
  have hza := fun ino s k => ((madeN_sz l hok).add ino s k).up (show 1 + 5 * l.length + 5 ≤ 1000 by omega)
  generalize madeN l = T at *
  obtain ⟨nodes, next, cookie⟩ := T
  have ht : Small ⟨nodes, next, cookie⟩ := hz.small (by omega)
  have hr := hinv.srt
  have hn0 : nodes.length ≤ 100000 := ht.nodes
  have q14 := fun i hi M => kX xLf (k14 nodes next cookie i hi hn0 M)
  have q16 := fun i hi M => kX xLf (k16 i hi M)
  have hm2 : (kind : Int).tmod 2 = ((kind % 2 : Nat) : Int) := by rw [Int.tmod_eq_emod_of_nonneg (by omega)]; rfl
  have hw : IntKind.i64.wrap (kind : Int) = kind := wrap_small (by omega) (by omega)
  have hw2 : IntKind.i64.wrap (((kind % 2 : Nat) : Int) + 1) = ((kind % 2 : Nat) : Int) + 1 := wrap_small (by omega) (by omega)
  have e2 : ((2 : Int) = 0) = False := by simp
  have q28 := fun dir i k M => kX xLf (k28 nodes next cookie dir (nameOf i) k hz hr (nameOf_len i) (nameOf_ascii i) hinv.hnew M)
  simp only [addW_eq hinv] at q28
  obtain ⟨p1, p2⟩ := c26 hinv ht (inoAt ⟨nodes, next, cookie⟩ a)
  simp only [eTree, eTreeC] at p1 p2
  simp only [E6, hmade, eTree, eTreeC, q14, ha, EVT, EVD, ↓reduceIte, Nat.reduceEqDiff, reduceCtorEq, Nat.reduceAdd, Nat.reduceLeDiff, ne_eq, Nat.reduceLT, Int.reduceLT, Int.reduceLE, Int.reduceNeg]
  generalize inoAt ⟨nodes, next, cookie⟩ a = d at *
  by_cases h0 : (dirN nodes d).2 = 0
  · have q26 := fun M => callOp0 (p2 h0) rfl rfl rfl rfl rfl M
    obtain ⟨dn, hf, hk, _⟩ := dir_ok h0
    obtain ⟨w1, w2⟩ := hinv.path_ok (dep d) d dn hf hk rfl
    have hpl := pathN_len nodes (dep d) d
    have hdd := (hinv.deep _ _ hf hk).1
    simp only at w1 w2
    obtain ⟨a1, a2⟩ := joinN_ascii _ w2 (by omega)
    have q27 := fun M => k27 nodes next cookie ht hr _ _ d a1 a2 (split_join _ w2 (by omega)) (by omega) w2 w1 M
    simp only [E6, q26, q27, q16, q28, hn, hm2, hw, hw2, e2, bne_self_eq_false, eTree, eTreeC, EVT, EVD, ↓reduceIte, Nat.reduceEqDiff, reduceCtorEq, Nat.reduceAdd, Nat.reduceLeDiff, ne_eq, Nat.reduceLT, Int.reduceLT, Int.reduceLE, Int.reduceNeg]
    by_cases hf0 : (addN ⟨nodes, next, cookie⟩ d (nameOf n) (((kind % 2 : Nat) : Int) + 1)).2.2 = 0
    · have hfb : ((addN ⟨nodes, next, cookie⟩ d (nameOf n) (((kind % 2 : Nat) : Int) + 1)).2.2 != 0) = false := by simpa using hf0
      obtain ⟨dep', hinv'⟩ := addN_inv hinv d (nameOf n) (((kind % 2 : Nat) : Int) + 1) (nameOf_nm n)
      have hz' := hza d (nameOf n) (((kind % 2 : Nat) : Int) + 1)
      have hwk := addN_walk hinv hf0 _ w1
      have hnew : nameOk (nameOf n) = true ∧ dep d < 12 := by
        unfold addN at hf0
        split at hf0
        · cases hf0
        · split at hf0
          · rename_i he; simp at he; exact absurd hf0 he
          · rename_i he
            obtain ⟨dN, d1, d2, d3, _, _, d6, _⟩ := enter_ok (by simpa using he)
            rw [hinv.depthN_eq d1 d2] at d6
            exact ⟨d3, d6⟩
      have w3 : ∀ s, s ∈ pathN nodes (dep d) d ++ [nameOf n] → Nm s := by
        intro s hs
        rcases List.mem_append.1 hs with hs | hs
        · exact w2 s hs
        · simp at hs; subst hs; exact nameOf_nm n hnew.1
      have hl2 : (pathN nodes (dep d) d ++ [nameOf n]).length ≤ 12 := by simp [hpl]; omega
      obtain ⟨b1, b2⟩ := joinN_ascii _ w3 hl2
      have q29 := fun M => k29 _ w2 (by omega) M
      have hfl := (flatP_ascii _ w3).2
      have q30 := fun M => k30 (pathN nodes (dep d) d ++ [nameOf n]) (by omega) (by omega) M
      generalize addN ⟨nodes, next, cookie⟩ d (nameOf n) (((kind % 2 : Nat) : Int) + 1) = U at *
      obtain ⟨⟨un, ux, uc⟩, uy, ue⟩ := U
      have hsu : Small ⟨un, ux, uc⟩ := hz'.small (by omega)
      simp only at hwk
      have p27 := fun M => k27 un ux uc hsu hinv'.srt _ _ uy b1 b2 (split_join _ w3 hl2) (by omega) w3 hwk M
      simp only [eStrs, List.map_append, List.map_cons, List.map_nil] at q30
      have hroom1 : roomOk (pathN nodes (dep d) d).length 16 = True := room_ok (by omega) (by omega)
      have hroom2 : roomOk ((pathN nodes (dep d) d).length + 1) 16 = True := room_ok (by omega) (by omega)
      simp only [E6, hfb, q29, q16, hn, hroom1, hroom2, wid_strs, q30, p27, EVT, EVD, ↓reduceIte, Nat.reduceEqDiff, reduceCtorEq, Nat.reduceAdd, Nat.reduceLeDiff, ne_eq, Nat.reduceLT, Int.reduceLT, Int.reduceLE, Int.reduceNeg]
    · have hfb : ((addN ⟨nodes, next, cookie⟩ d (nameOf n) (((kind % 2 : Nat) : Int) + 1)).2.2 != 0) = true := by simpa using hf0
      simp only [E6, hfb, EVT, EVD, ↓reduceIte, Nat.reduceEqDiff, reduceCtorEq, Nat.reduceAdd, Nat.reduceLeDiff, ne_eq, Nat.reduceLT, Int.reduceLT, Int.reduceLE, Int.reduceNeg]
  · have q26 := fun M => callOp0 (p1 h0) rfl rfl rfl rfl rfl M
    simp only [E6, q26, EVT, EVD, ↓reduceIte, Nat.reduceEqDiff, reduceCtorEq, Nat.reduceAdd, Nat.reduceLeDiff, ne_eq, Nat.reduceLT, Int.reduceLT, Int.reduceLE, Int.reduceNeg]
theorem treePaths_holds : Rows.TreePathsSaid := treePaths_of (soundX xLf) c6
end Go.Proofs.YtnapockikkbkcaaGreat
