/-
  TreeRight: proved of the given program, for every input that the row allows: see the last text of this claim. Conditions: none beside the row's own.
-/
import Derived.Test.YtnapockikkbkcaaGreatProg
import Derived.KernelRfl
import Derived.Test.YtnapockikkbkcaaGreatBaF
set_option linter.unusedSimpArgs false
set_option linter.unusedVariables false
namespace Go.Proofs.YtnapockikkbkcaaGreat
open Go Go.Abs
theorem look_of {nodes : List Node} {dir : Int} {s : Bytes} {d : Node} (hd : find nodes dir = some d) (hk : d.kind = 2) (hs : nameOk s = true) : lookN nodes dir s = match findE d.ents s with
    | none => (0, 70)
    | some e => (e.ino, 0) := by
  have : dirN nodes dir = (d, 0) := by simp [dirN, hd, hk]
  simp only [lookN, this, hs]
  cases findE d.ents s <;> simp
theorem ontoN_codes (x y : Node) : ontoN x y = 73 ∨ ontoN x y = 72 ∨ ontoN x y = 74 ∨ ontoN x y = 0 := by
  unfold ontoN
  split
  · simp
  split
  · simp
  split
  · simp
  · simp
theorem GInv.under {t : Tree} {dep : Int → Nat} (h : GInv t dep 0) {to : Int} {nm : Bytes} {dT : Node} (hT : find t.nodes to = some dT) : (nodeUnder t.nodes dT.ents nm).ino = underN dT.ents nm := by
  unfold nodeUnder underN
  cases he : findE dT.ents nm with
  | none => rfl
  | some e =>
    obtain ⟨_, _, _, _, m, hm, _⟩ := h.ent _ _ e hT (findE_mem he).1
    simp [nodeN, hm, (find_mem hm).2]
theorem loop_same {t : Tree} {dep : Int → Nat} (h : GInv t dep 0) {f to : Int} {s nm : Bytes} {dT : Node} (hl : (lookN t.nodes f s).2 = 0) (hT : find t.nodes to = some dT) (hTk : dT.kind = 2) (hn : nameOk nm = true)
    (h1 : (lookN t.nodes to nm).2 = 0) (h2 : (lookN t.nodes to nm).1 = (lookN t.nodes f s).1) : (mvW t f s to nm).2.2 = 0 := by
  have hd : dirN t.nodes to = (dT, 0) := by simp [dirN, hT, hTk]
  rw [look_of hT hTk hn] at h1 h2
  unfold mvW
  simp only [hl, hd, bne_self_eq_false, Bool.false_eq_true, ↓reduceIte, hn, Bool.not_true]
  cases he : findE dT.ents nm with
  | none => rw [he] at h1; cases h1
  | some e =>
    rw [he] at h2
    have hu : underN dT.ents nm = e.ino := by simp [underN, he]
    rw [h.under hT, hu]
    simp only at h2
    rw [h2]
    simp
theorem loop_else {t : Tree} {dep : Int → Nat} (h : GInv t dep 0) {f to : Int} {s nm : Bytes} {dT : Node} (hl : (lookN t.nodes f s).2 = 0) (hx : (find t.nodes (lookN t.nodes f s).1).isSome = true) (hk : (nodeN t.nodes (lookN t.nodes f s).1).kind = 2) (hT : find t.nodes to = some dT) (hTk : dT.kind = 2) (hn : nameOk nm = true)
    (h1 : (lookN t.nodes to nm).2 = 0 → (lookN t.nodes to nm).1 ≠ (lookN t.nodes f s).1) : ((mvW t f s to nm).2.2 == 75) = lbelowN t.nodes to (lookN t.nodes f s).1 := by
  have hd : dirN t.nodes to = (dT, 0) := by simp [dirN, hT, hTk]
  rw [look_of hT hTk hn] at h1
  generalize hxx : (lookN t.nodes f s).1 = x at *
  have hx1 : 1 ≤ x := by
    cases hf : find t.nodes x with
    | none => rw [hf] at hx; cases hx
    | some n => exact (h.num _ _ hf).1
  have hu : underN dT.ents nm ≠ x := by
    unfold underN
    cases he : findE dT.ents nm with
    | none => simp only; omega
    | some e => rw [he] at h1; exact h1 rfl
  rw [h.lbelowN_eq x hT hTk, ← h.upsN_contains x hT hTk]
  unfold mvW
  simp only [hl, hd, bne_self_eq_false, Bool.false_eq_true, ↓reduceIte, hn, Bool.not_true, h.under hT, hxx, hk, beq_self_eq_true, Bool.true_and]
  rw [if_neg (by simpa using hu)]
  split
  · rename_i hc; rw [hc]; rfl
  · rename_i hc
    have hc' : (upsN t.nodes to).contains x = false := by simpa using hc
    rw [hc']
    split
    · rcases ontoN_codes (nodeN t.nodes x) (nodeUnder t.nodes dT.ents nm) with h | h | h | h <;> simp [h]
    · split
      · rfl
      · rfl
end Go.Proofs.YtnapockikkbkcaaGreat
namespace Go.Proofs.YtnapockikkbkcaaGreat
open Go Go.Abs
theorem may_eq {t : Tree} {dep : Int → Nat} (h : GInv t dep 0) (dir : Int) (s : Bytes) : mayErr t dir s = enterErr t dir s := by
  unfold mayErr enterErr
  by_cases h0 : (dirN t.nodes dir).2 = 0
  · obtain ⟨d, d1, d2, d3⟩ := dir_ok h0
    have hf : fullN t d = (decide ((64 : Int) ≤ d.ents.length) || (decide ((12 : Int) ≤ upDepth t.nodes dir) || decide ((1099511627776 : Int) ≤ t.cookie))) := by
      unfold fullN
      rw [(find_mem d1).2, h.depthN_eq d1 d2, h.upDepth_eq d1 d2]
    simp only [d3, hf, bne_self_eq_false, Bool.false_eq_true, ↓reduceIte, ne_eq, not_true_eq_false]
    cases nameOk s <;> simp
  · rw [if_pos (by simpa using h0), if_pos h0]
theorem addW_eq {t : Tree} {dep : Int → Nat} (h : GInv t dep 0) (dir : Int) (s : Bytes) (kind : Int) : addW t dir s kind = addN t dir s kind := by
  unfold addW addN
  rw [may_eq h]
theorem lnW_eq {t : Tree} {dep : Int → Nat} (h : GInv t dep 0) (ino dir : Int) (s : Bytes) : lnW t ino dir s = lnN t ino dir s := by
  unfold lnW lnN
  rw [may_eq h]
theorem unnamedW_eq {nodes : List Node} {x : Int} {m : Node} (hx : find nodes x = some m) : unnamedW nodes m = unnamedN nodes x := by
  unfold unnamedW unnamedN
  simp only [nodeN, hx, Option.getD_some, (find_mem hx).2]
theorem unW_eq {t : Tree} {dep : Int → Nat} (h : GInv t dep 0) (dir : Int) (s : Bytes) : unW t dir s = unN t dir s := by
  unfold unW unN
  split
  · rfl
  · rename_i hl
    obtain ⟨d, e, d1, d2, d3, d4, d5⟩ := look_ok (by simpa using hl)
    simp only [d5]
    obtain ⟨_, _, _, _, m, hm, _⟩ := h.ent _ _ e d1 (findE_mem d4).1
    have hm' : find (leftN t.nodes dir s) e.ino = some m := by
      rw [find_leftN h.srt.asc d1, if_neg (h.ent_ne d1 (findE_mem d4).1)]; exact hm
    have hn : nodeN t.nodes e.ino = m := by simp [nodeN, hm]
    rw [hn, unnamedW_eq hm']
theorem highGo_ex (nodes : List Node) (ino at' d : Int) (b : Int) : ∀ (l : List Node) (most : Int), b < highGo nodes ino at' d l most → b < most ∨ ∃ n, n ∈ l ∧ (n.kind == 2 && belowN nodes n.ino ino) = true ∧ b < highAt nodes at' d n
  | [], most, h => .inl h
  | m :: l, most, h => by
    rw [highGo] at h
    rcases highGo_ex nodes ino at' d b l _ h with h1 | ⟨n, h1, h2, h3⟩
    · have e : highStep nodes ino at' d m most = if (m.kind == 2 && belowN nodes m.ino ino) = true then (if highAt nodes at' d m > most then highAt nodes at' d m else most) else most := rfl
      rw [e] at h1
      split at h1
      · rename_i hb
        split at h1
        · exact .inr ⟨m, List.mem_cons_self, hb, h1⟩
        · exact .inl h1
      · exact .inl h1
    · exact .inr ⟨n, List.mem_cons_of_mem _ h1, h2, h3⟩
theorem GInv.deep_eq {t : Tree} {dep : Int → Nat} (h : GInv t dep 0) {x to : Int} {m : Node} (hx : find t.nodes x = some m) (hk : m.kind = 2) (hd : dep to < 12) :
    deepN t.nodes x (((dep to + 1 : Nat) : Int)) = decide ((12 : Int) < highN t.nodes x (((dep to + 1 : Nat) : Int))) := by
  have key : ∀ n, n ∈ t.nodes → deepAt t.nodes (((dep to + 1 : Nat) : Int)) ((dep x : Nat) : Int) x n = ((n.kind == 2 && belowN t.nodes n.ino x) && decide ((12 : Int) < highAt t.nodes (((dep to + 1 : Nat) : Int)) ((dep x : Nat) : Int) n)) := by
    intro n hn
    have hi : find t.nodes n.ino = some n := (find_iff h.srt.asc).2 ⟨hn, rfl⟩
    unfold deepAt
    by_cases hk2 : n.kind = 2
    · rw [h.upsN_contains x hi hk2, h.upsN_len hi hk2]
      by_cases hb : belowN t.nodes n.ino x = true
      · rw [h.highAt_eq hx hk hd hi hk2 hb]
        have d1 := (h.deep _ _ hi hk2).1
        have d2 := (h.deep _ _ hx hk).1
        have d3 := h.below_dep _ _ n hi hk2 rfl hb
        have w1 : w64 ((((dep to + 1 : Nat) : Int)) + ((dep n.ino + 1 : Nat) : Int)) = (((dep to + 1 : Nat) : Int)) + ((dep n.ino + 1 : Nat) : Int) := wrap_small (by omega) (by omega)
        have w2 : w64 ((((dep to + 1 : Nat) : Int)) + ((dep n.ino + 1 : Nat) : Int) - 1) = (((dep to + 1 : Nat) : Int)) + ((dep n.ino + 1 : Nat) : Int) - 1 := wrap_small (by omega) (by omega)
        have w3 : w64 ((((dep to + 1 : Nat) : Int)) + ((dep n.ino + 1 : Nat) : Int) - 1 - (dep x : Nat)) = (((dep to + 1 : Nat) : Int)) + ((dep n.ino + 1 : Nat) : Int) - 1 - (dep x : Nat) := wrap_small (by omega) (by omega)
        rw [w1, w2, w3]
        unfold redep
        rw [if_pos hb, hb]
        simp only [hk2, beq_self_eq_true, Bool.true_and]
        rw [Bool.eq_iff_iff]
        simp only [Bool.or_eq_true, Bool.and_eq_true, decide_eq_true_eq, beq_iff_eq]
        split <;> omega
      · have : belowN t.nodes n.ino x = false := by simpa using hb
        simp [this]
    · have : (n.kind == 2) = false := by simpa using hk2
      simp [this]
  have hdx : (upDepth t.nodes x : Int) = ((dep x : Nat) : Int) := by rw [h.upDepth_eq hx hk]
  unfold deepN highN
  rw [h.depthN_eq hx hk, hdx]
  rw [Bool.eq_iff_iff]
  simp only [List.any_eq_true, decide_eq_true_eq]
  constructor
  · rintro ⟨n, hn, hp⟩
    rw [key n hn] at hp
    simp only [Bool.and_eq_true, decide_eq_true_eq] at hp
    have := (highGo_ge t.nodes x (((dep to + 1 : Nat) : Int)) ((dep x : Nat) : Int) t.nodes 0).2 n hn (by simp [hp.1.1, hp.1.2])
    omega
  · intro hh
    rcases highGo_ex t.nodes x _ _ 12 t.nodes 0 hh with h1 | ⟨n, h1, h2, h3⟩
    · omega
    · exact ⟨n, h1, by rw [key n h1, h2]; simpa using h3⟩
theorem mvW_eq {t : Tree} {dep : Int → Nat} (h : GInv t dep 0) (f : Int) (s : Bytes) (to : Int) (nm : Bytes) : mvW t f s to nm = mvN t f s to nm := by
  unfold mvW mvN
  split
  · rfl
  rename_i c1
  split
  · rfl
  rename_i c2
  split
  · rfl
  obtain ⟨dF, e, e1, e2, e3, e4, e5⟩ := look_ok (by simpa using c1)
  obtain ⟨dT, g1, g2, g3⟩ := dir_ok (show (dirN t.nodes to).2 = 0 by simpa using c2)
  have hem := (findE_mem e4).1
  obtain ⟨_, _, x1, _, m, hm, hup⟩ := h.ent _ _ e e1 hem
  have hnode : nodeN t.nodes e.ino = m := by simp [nodeN, hm]
  simp only [e5, g3, hnode, h.under g1, h.upsN_contains e.ino g1 g2]
  split
  · rfl
  rename_i c4
  split
  · rfl
  rename_i c5
  have hup' : underN dT.ents nm ≠ e.ino := by simpa using c4
  have hnf := h.ent_ne e1 hem
  have hne : e.ino ≠ to := fun hh => by
    rw [hh, g1] at hm; injection hm with hm; subst hm
    simp only [g2, beq_self_eq_true, Bool.true_and] at c5
    rw [hh, GInv.below_self] at c5
    exact c5 rfl
  have hmany : ∀ there : Bool, (underN dT.ents nm == 0) = !there → manyW t f to dT.ents there m.kind e.ino = manyN t f to dT.ents m.kind (underN dT.ents nm) e.ino := by
    intro there hth
    unfold manyW manyN
    rw [hth, h.upsN_len g1 g2, h.depthN_eq g1 g2]
    by_cases hd : dep to < 12
    · have hw : w64 (((dep to : Nat) : Int) + 1) = ((dep to + 1 : Nat) : Int) := by
        rw [show (((dep to : Nat) : Int) + 1) = ((dep to + 1 : Nat) : Int) by omega]
        exact wrap_small (by omega) (by omega)
      rw [hw]
      have hdd : decide ((12 : Int) < ((dep to + 1 : Nat) : Int)) = decide ((12 : Int) ≤ ((dep to : Nat) : Int)) := by
        rw [decide_eq_decide]; omega
      rw [hdd]
      rcases h.kind _ _ hm with hk | hk
      · simp [hk]
      · rw [h.deep_eq hm hk hd]
    · have h1 : decide ((12 : Int) < ((dep to + 1 : Nat) : Int)) = true := by rw [decide_eq_true_eq]; omega
      have h2 : decide ((12 : Int) ≤ ((dep to : Nat) : Int)) = true := by rw [decide_eq_true_eq]; omega
      rw [h1, h2]; simp
  cases hfr : findE dT.ents nm with
  | none =>
    have hu : underN dT.ents nm = 0 := by simp [underN, hfr]
    have hm1 := hmany false (by rw [hu]; rfl)
    rw [hu] at hm1 ⊢
    have hcl : clashN t.nodes m.kind 0 = 0 := by simp [clashN, h.zero]
    simp only [Option.isSome_none, Bool.false_and, Bool.false_eq_true, ↓reduceIte, hcl, bne_self_eq_false, hm1]
    split
    · rfl
    · unfold moveW moveN
      simp only [hnode, Bool.false_eq_true, ↓reduceIte, bne_self_eq_false]
  | some e2 =>
    have hu : underN dT.ents nm = e2.ino := by simp [underN, hfr]
    obtain ⟨_, _, _, _, y, hy, _⟩ := h.ent _ _ e2 g1 (findE_mem hfr).1
    have hny : nodeN t.nodes e2.ino = y := by simp [nodeN, hy]
    have hto := h.ent_ne g1 (findE_mem hfr).1
    have hy0 := (h.num _ _ hy).1
    have hm1 := hmany true (by rw [hu]; simp; omega)
    have hnu : nodeUnder t.nodes dT.ents nm = y := by simp [nodeUnder, hfr, hny]
    rw [hu] at hm1 ⊢
    have hcl : clashN t.nodes m.kind e2.ino = ontoN m y := by
      unfold clashN ontoN
      simp only [hy, Option.isSome_some, Bool.not_true, Bool.false_eq_true, ↓reduceIte, hny]
    rw [hnu, hcl]
    simp only [Option.isSome_some, Bool.true_and, hm1]
    split
    · rfl
    rename_i c6
    split
    · rfl
    have hy00 : y.ents = [] := by
      have : ontoN m y = 0 := by simpa using c6
      unfold ontoN at this
      split at this
      · cases this
      split at this
      · cases this
      split at this
      · cases this
      · rename_i k3; exact List.length_eq_zero_iff.1 (by simpa using k3)
    have hnf2 : e2.ino ≠ f := fun hh => by
      rw [hh, e1] at hy; injection hy with hy; subst hy
      rw [hy00] at hem; cases hem
    have hyl : find (leftN (leftN t.nodes f s) to nm) e2.ino = some y := by
      have f1 := find_leftN h.srt.asc e1 (s := s)
      obtain ⟨dT', hT'⟩ : ∃ dT', find (leftN t.nodes f s) to = some dT' := by rw [f1]; split <;> simp_all
      rw [find_leftN (leftN_asc h.srt.asc f s) hT', if_neg hto, f1, if_neg hnf2]
      exact hy
    have hb : (e2.ino != 0) = true := by simp; omega
    unfold moveW moveN
    simp only [hnode, ↓reduceIte, hb, unnamedW_eq hyl]
end Go.Proofs.YtnapockikkbkcaaGreat
set_option linter.defProp false
namespace Go.Proofs.YtnapockikkbkcaaGreat
open Go Go.Abs
def q31_0 : ACode :=
 (.region [
 ob 45 (.bin .eql (.tmp 42) (.cst (.int .u8 1))),
 ob 43 (.mv (.tmp 45))] false [2, 3, 4, 7, 8, 9, 10, 42, 43])
def q31_1 : ACode :=
 (.seq (.region [
 ob 59 (.loadA 3 (.tmp 11)),
 ob 60 (.mv (.tmp 12)),
 ob 61 (.mv (.tmp 13)),
 ox (.store 3 (.tmp 4) (.tmp 59)),
 ob 5 (.mv (.tmp 60)),
 ob 6 (.mv (.tmp 61))] false [4, 5, 6]) (.ret))
def q31_2 : ACode :=
 (.seq (.region [
 ob 47 (.loadA 3 (.tmp 2)),
 ob 48 (.mv (.tmp 7)),
 ob 49 (.mv (.tmp 9)),
 ob 50 (.faddr 4 (.tmp 3)),
 ob 51 (.load1 (.tmp 50)),
 ob 52 (.conv .i64 (.tmp 51)),
 ob 53 (.bin .rem (.tmp 52) (.cst (.int .i64 2))),
 ob 54 (.bin .add (.tmp 53) (.cst (.int .i64 1))),
 ob 55 (.call 28 [(.tmp 47), (.tmp 48), (.tmp 49), (.tmp 54)]),
 ob 46 (.mv (.tmp 55)),
 ob 56 (.extract (.tmp 46) 0),
 ob 57 (.extract (.tmp 46) 1),
 ob 58 (.extract (.tmp 46) 2),
 ob 11 (.box0 [(.slice .c0 []), (.int .i64 0), (.int .i64 0)]),
 ox (.store 3 (.tmp 11) (.tmp 56)),
 ob 12 (.mv (.tmp 57)),
 ob 13 (.mv (.tmp 58))] false [4, 11, 12, 13]) q31_1)
def q31_3 : ACode :=
 (.seq (.region [
 ob 72 (.loadA 3 (.tmp 14)),
 ob 73 (.mv (.tmp 15)),
 ox (.store 3 (.tmp 4) (.tmp 72)),
 ob 5 (.mv (.cst (.int .i64 0))),
 ob 6 (.mv (.tmp 73))] false [4, 5, 6]) (.ret))
def q31_4 : ACode :=
 (.seq (.region [
 ob 65 (.loadA 3 (.tmp 2)),
 ob 66 (.mv (.tmp 8)),
 ob 67 (.mv (.tmp 7)),
 ob 68 (.mv (.tmp 9)),
 ob 69 (.call 37 [(.tmp 65), (.tmp 66), (.tmp 67), (.tmp 68)]),
 ob 64 (.mv (.tmp 69)),
 ob 70 (.extract (.tmp 64) 0),
 ob 71 (.extract (.tmp 64) 1),
 ob 14 (.box0 [(.slice .c0 []), (.int .i64 0), (.int .i64 0)]),
 ox (.store 3 (.tmp 14) (.tmp 70)),
 ob 15 (.mv (.tmp 71))] false [4, 14, 15]) q31_3)
def q31_5 : ACode :=
 (.seq (.region [
 ob 84 (.loadA 3 (.tmp 16)),
 ob 85 (.mv (.tmp 17)),
 ob 86 (.mv (.tmp 18)),
 ox (.store 3 (.tmp 4) (.tmp 84)),
 ob 5 (.mv (.tmp 85)),
 ob 6 (.mv (.tmp 86))] false [4, 5, 6]) (.ret))
def q31_6 : ACode :=
 (.seq (.region [
 ob 77 (.loadA 3 (.tmp 2)),
 ob 78 (.mv (.tmp 7)),
 ob 79 (.mv (.tmp 9)),
 ob 80 (.call 38 [(.tmp 77), (.tmp 78), (.tmp 79)]),
 ob 76 (.mv (.tmp 80)),
 ob 81 (.extract (.tmp 76) 0),
 ob 82 (.extract (.tmp 76) 1),
 ob 83 (.extract (.tmp 76) 2),
 ob 16 (.box0 [(.slice .c0 []), (.int .i64 0), (.int .i64 0)]),
 ox (.store 3 (.tmp 16) (.tmp 81)),
 ob 17 (.mv (.tmp 82)),
 ob 18 (.mv (.tmp 83))] false [4, 16, 17, 18]) q31_5)
def q31_7 : ACode :=
 (.region [
 ob 89 (.bin .eql (.tmp 42) (.cst (.int .u8 5))),
 ob 87 (.mv (.tmp 89))] false [2, 3, 4, 7, 8, 9, 10, 42, 87])
def q31_8 : ACode :=
 (.seq (.region [
 ob 100 (.loadA 3 (.tmp 19)),
 ob 101 (.mv (.tmp 20)),
 ob 102 (.mv (.tmp 21)),
 ox (.store 3 (.tmp 4) (.tmp 100)),
 ob 5 (.mv (.tmp 101)),
 ob 6 (.mv (.tmp 102))] false [4, 5, 6]) (.ret))
def q31_9 : ACode :=
 (.seq (.region [
 ob 91 (.loadA 3 (.tmp 2)),
 ob 92 (.mv (.tmp 7)),
 ob 93 (.mv (.tmp 9)),
 ob 94 (.mv (.tmp 8)),
 ob 95 (.mv (.tmp 10)),
 ob 96 (.call 17 [(.tmp 91), (.tmp 92), (.tmp 93), (.tmp 94), (.tmp 95)]),
 ob 90 (.mv (.tmp 96)),
 ob 97 (.extract (.tmp 90) 0),
 ob 98 (.extract (.tmp 90) 1),
 ob 99 (.extract (.tmp 90) 2),
 ob 19 (.box0 [(.slice .c0 []), (.int .i64 0), (.int .i64 0)]),
 ox (.store 3 (.tmp 19) (.tmp 97)),
 ob 20 (.mv (.tmp 98)),
 ob 21 (.mv (.tmp 99))] false [4, 19, 20, 21]) q31_8)
def q31_10 : ACode :=
 (.seq (.region [
 ob 113 (.loadA 3 (.tmp 22)),
 ob 114 (.mv (.tmp 23)),
 ox (.store 3 (.tmp 4) (.tmp 113)),
 ob 5 (.mv (.cst (.int .i64 0))),
 ob 6 (.mv (.tmp 114))] false [4, 5, 6]) (.ret))
def q31_11 : ACode :=
 (.seq (.region [
 ob 106 (.loadA 3 (.tmp 2)),
 ob 107 (.mv (.tmp 7)),
 ob 108 (.faddr 5 (.tmp 3)),
 ob 109 (.load1 (.tmp 108)),
 ob 110 (.call 71 [(.tmp 106), (.tmp 107), (.tmp 109)]),
 ob 105 (.mv (.tmp 110)),
 ob 111 (.extract (.tmp 105) 0),
 ob 112 (.extract (.tmp 105) 1),
 ob 22 (.box0 [(.slice .c0 []), (.int .i64 0), (.int .i64 0)]),
 ox (.store 3 (.tmp 22) (.tmp 111)),
 ob 23 (.mv (.tmp 112))] false [4, 22, 23]) q31_10)
def q31_12 : ACode :=
 (.seq (.region [
 ob 104 (.bin .eql (.tmp 42) (.cst (.int .u8 6))),
 ob 103 (.mv (.tmp 104))] false [2, 3, 4, 7, 103]) (.cond (.tmp 103) q31_11 (.skip)))
def q31_13 : ACode :=
 (.seq (.seq (.region [
 ob 88 (.bin .eql (.tmp 42) (.cst (.int .u8 4))),
 ob 87 (.mv (.tmp 88))] false [2, 3, 4, 7, 8, 9, 10, 42, 87]) (.cond (.tmp 87) (.skip) q31_7)) (.cond (.tmp 87) q31_9 q31_12))
def q31_14 : ACode :=
 (.seq (.region [
 ob 75 (.bin .eql (.tmp 42) (.cst (.int .u8 3))),
 ob 74 (.mv (.tmp 75))] false [2, 3, 4, 7, 8, 9, 10, 42, 74]) (.cond (.tmp 74) q31_6 q31_13))
def q31_15 : ACode :=
 (.seq (.region [
 ob 63 (.bin .eql (.tmp 42) (.cst (.int .u8 2))),
 ob 62 (.mv (.tmp 63))] false [2, 3, 4, 7, 8, 9, 10, 42, 62]) (.cond (.tmp 62) q31_4 q31_14))
def q31_16 : ACode :=
 (.block 0 (.seq (.seq (.region [
 ob 44 (.bin .eql (.tmp 42) (.cst (.int .u8 0))),
 ob 43 (.mv (.tmp 44))] false [2, 3, 4, 7, 8, 9, 10, 42, 43]) (.cond (.tmp 43) (.skip) q31_0)) (.cond (.tmp 43) q31_2 q31_15)))
def q31_17 : ACode :=
 (.seq (.region [
 ob 121 (.loadA 3 (.tmp 24)),
 ob 122 (.mv (.tmp 25)),
 ox (.store 3 (.tmp 4) (.tmp 121)),
 ob 5 (.mv (.cst (.int .i64 0))),
 ob 6 (.mv (.tmp 122))] false [4, 5, 6]) (.ret))
def q31_18 : ACode :=
 (.seq (.region [
 ob 116 (.loadA 3 (.tmp 2)),
 ob 117 (.mv (.tmp 7)),
 ob 118 (.call 35 [(.tmp 116), (.tmp 117)]),
 ob 115 (.mv (.tmp 118)),
 ob 119 (.extract (.tmp 115) 0),
 ob 120 (.extract (.tmp 115) 1),
 ob 24 (.box0 [(.slice .c0 []), (.int .i64 0), (.int .i64 0)]),
 ox (.store 3 (.tmp 24) (.tmp 119)),
 ob 25 (.mv (.tmp 120))] false [4, 24, 25]) q31_17)
def q31_19 : ACode :=
 (.seq (.seq (.region [
 ob 40 (.faddr 0 (.tmp 3)),
 ob 41 (.load1 (.tmp 40)),
 ob 42 (.bin .rem (.tmp 41) (.cst (.int .u8 8)))] false [2, 3, 4, 7, 8, 9, 10, 42]) q31_16) q31_18)
def q31_20 : ACode :=
 (.seq (.region [
 ob 37 (.faddr 4 (.tmp 3)),
 ob 38 (.load1 (.tmp 37)),
 ob 39 (.call 16 [(.tmp 38)]),
 ob 10 (.mv (.tmp 39))] false [2, 3, 4, 7, 8, 9, 10]) q31_19)
def q31_21 : ACode :=
 (.seq (.region [
 ob 34 (.faddr 3 (.tmp 3)),
 ob 35 (.load1 (.tmp 34)),
 ob 36 (.call 16 [(.tmp 35)]),
 ob 9 (.mv (.tmp 36))] false [2, 3, 4, 7, 8, 9]) q31_20)
def q31_22 : ACode :=
 (.seq (.region [
 ob 30 (.loadA 3 (.tmp 2)),
 ob 31 (.faddr 2 (.tmp 3)),
 ob 32 (.load1 (.tmp 31)),
 ob 33 (.call 14 [(.tmp 30), (.tmp 32)]),
 ob 8 (.mv (.tmp 33))] false [2, 3, 4, 7, 8]) q31_21)
def q31_23 : ACode :=
 (.seq (.region [
 ob 26 (.loadA 3 (.tmp 2)),
 ob 27 (.faddr 1 (.tmp 3)),
 ob 28 (.load1 (.tmp 27)),
 ob 29 (.call 14 [(.tmp 26), (.tmp 28)]),
 ob 7 (.mv (.tmp 29))] false [2, 3, 4, 7]) q31_22)
def E31 := And.intro (exK_head q31_0.eq_1) (And.intro (exK_head q31_1.eq_1) (And.intro (exK_head q31_2.eq_1) (And.intro (exK_head q31_3.eq_1) (And.intro (exK_head q31_4.eq_1) (And.intro (exK_head q31_5.eq_1) (And.intro (exK_head q31_6.eq_1) (And.intro (exK_head q31_7.eq_1) (And.intro (exK_head q31_8.eq_1) (And.intro (exK_head q31_9.eq_1) (And.intro (exK_head q31_10.eq_1) (And.intro (exK_head q31_11.eq_1) (And.intro (exK_head q31_12.eq_1) (And.intro (exK_head q31_13.eq_1) (And.intro (exK_head q31_14.eq_1) (And.intro (exK_head q31_15.eq_1) (And.intro (exK_head q31_16.eq_1) (And.intro (exK_head q31_17.eq_1) (And.intro (exK_head q31_18.eq_1) (And.intro (exK_head q31_19.eq_1) (And.intro (exK_head q31_20.eq_1) (And.intro (exK_head q31_21.eq_1) (And.intro (exK_head q31_22.eq_1) (exK_head q31_23.eq_1)))))))))))))))))))))))
def ann31 : Ann := { n := 123, own := [], lv := [(0, [2, 3, 4]), (1, [2, 3, 4, 7]), (2, [2, 3, 4, 7, 8]), (3, [2, 3, 4, 7, 8, 9]), (4, [2, 3, 4, 7, 8, 9, 10]), (5, [2, 3, 4, 7, 8, 9, 10, 42]), (6, [2, 3, 4, 7, 8, 9, 10, 42, 43]), (7, [2, 3, 4, 7, 8, 9, 10, 42, 43]), (8, [4, 11, 12, 13]), (9, [4, 5, 6]), (10, [2, 3, 4, 7, 8, 9, 10, 42, 62]), (11, [4, 14, 15]), (12, [4, 5, 6]), (13, [2, 3, 4, 7, 8, 9, 10, 42, 74]), (14, [4, 16, 17, 18]), (15, [4, 5, 6]), (16, [2, 3, 4, 7, 8, 9, 10, 42, 87]), (17, [2, 3, 4, 7, 8, 9, 10, 42, 87]), (18, [4, 19, 20, 21]), (19, [4, 5, 6]), (20, [2, 3, 4, 7, 103]), (21, [4, 22, 23]), (22, [4, 5, 6]), (23, [4, 24, 25]), (24, [4, 5, 6])], lp := [] }
def fn31 : AFn := AFn.mk 2 [.cellA 4 3, .tmp 5, .tmp 6]
  (.seq (.region [
  ob 2 (.box (.tmp 0)),
  ob 3 (.box (.tmp 1)),
  ob 4 (.box0 [(.slice .c0 []), (.int .i64 0), (.int .i64 0)]),
  ob 5 (.mv (.cst (.int .i64 0))),
  ob 6 (.mv (.cst (.int .i64 0)))] false [2, 3, 4]) q31_23)
theorem ok31 : compFn Tryz.prog ann31 Tryz.f31 = some fn31 := by kernel_rfl
end Go.Proofs.YtnapockikkbkcaaGreat
namespace Go.Proofs.YtnapockikkbkcaaGreat
open Go Go.Abs
attribute [local irreducible] exK opsK opK gK forkK kr acall callOp owhen obind
theorem GInv.hnew {t : Tree} {dep : Int → Nat} {x : Int} (h : GInv t dep x) : ∀ m, m ∈ t.nodes → m.ino < t.next := fun m hm => (h.num _ _ ((find_iff h.srt.asc).2 ⟨hm, rfl⟩)).2
theorem k37 (nodes : List Node) (next cookie ino dir : Int) (s : Bytes) (hz : Sz 1000 ⟨nodes, next, cookie⟩) (hr : Srt ⟨nodes, next, cookie⟩) (hs : s.length ≤ 100000) (ha : Ascii s) (M : AMem) : callOp (acall tab) 37 [.agg [eNodes nodes, .int .i64 next, .int .i64 cookie], .int .i64 ino, .int .i64 dir, .str s] M =
    some (.tuple [eTree (lnW ⟨nodes, next, cookie⟩ ino dir s).1, .int .i64 (lnW ⟨nodes, next, cookie⟩ ino dir s).2], M) := callOp0 (c37 ⟨nodes, next, cookie⟩ ino dir s hz hr hs ha) rfl rfl rfl rfl rfl M
theorem k35 (nodes : List Node) (next cookie ino : Int) (ht : Small ⟨nodes, next, cookie⟩) (hr : Srt ⟨nodes, next, cookie⟩) (M : AMem) : callOp (acall tab) 35 [.agg [eNodes nodes, .int .i64 next, .int .i64 cookie], .int .i64 ino] M =
    some (.tuple [eTree (freeN ⟨nodes, next, cookie⟩ ino).1, .int .i64 (freeN ⟨nodes, next, cookie⟩ ino).2], M) := callOp0 (c35 ⟨nodes, next, cookie⟩ ino ht hr) rfl rfl rfl rfl rfl M
theorem k71 (nodes : List Node) (next cookie ino : Int) (data : Bytes) (ht : Small ⟨nodes, next, cookie⟩) (hr : Srt ⟨nodes, next, cookie⟩) (hd : data.length ≤ 100000) (M : AMem) : callOp (acall tab) 71 [.agg [eNodes nodes, .int .i64 next, .int .i64 cookie], .int .i64 ino, eData data] M =
    some (.tuple [eTree (putN ⟨nodes, next, cookie⟩ ino data).1, .int .i64 (putN ⟨nodes, next, cookie⟩ ino data).2], M) := callOp0 (c71 ⟨nodes, next, cookie⟩ ino data ht hr hd) rfl rfl rfl rfl rfl M
set_option maxHeartbeats 4000000 in
theorem c31 {c : Nat → Option AFn} (hc : ExtOk c) (h31 : c 31 = some fn31) {t : Tree} {dep : Int → Nat} (h : GInv t dep 0) (s : Step) (hz : Sz 1000 t) (hs : s.Ok) : acall (tabX c) 31 [eTree t, eStep s] [] = some (.tuple [eTree (doneN t s).1, .int .i64 (doneN t s).2.1, .int .i64 (doneN t s).2.2], []) := by
  obtain ⟨nodes, next, cookie⟩ := t
  obtain ⟨kind, a, b, n, m, data⟩ := s
  obtain ⟨h1, h2, h3, h4, h5, h6⟩ := hs
  simp only at h1 h2 h3 h4 h5 h6
  have ht : Small ⟨nodes, next, cookie⟩ := hz.small (by omega)
  have hr := h.srt
  have hn : nodes.length ≤ 100000 := ht.nodes
  have hm8 : (kind : Int).tmod 8 = ((kind % 8 : Nat) : Int) := by rw [Int.tmod_eq_emod_of_nonneg (by omega)]; rfl
  have hm2 : (m : Int).tmod 2 = ((m % 2 : Nat) : Int) := by rw [Int.tmod_eq_emod_of_nonneg (by omega)]; rfl
  have hw : IntKind.i64.wrap (m : Int) = m := wrap_small (by omega) (by omega)
  have hw2 : IntKind.i64.wrap (((m % 2 : Nat) : Int) + 1) = ((m % 2 : Nat) : Int) + 1 := wrap_small (by omega) (by omega)
  have e8 : ((8 : Int) = 0) = False := by simp
  have e2 : ((2 : Int) = 0) = False := by simp
  have q14 := fun i hi M => kX hc (k14 nodes next cookie i hi hn M)
  have q16 := fun i hi M => kX hc (k16 i hi M)
  have q28 := fun dir i k M => kX hc (k28 nodes next cookie dir (nameOf i) k hz hr (nameOf_len i) (nameOf_ascii i) h.hnew M)
  have q37 := fun ino dir i M => kX hc (k37 nodes next cookie ino dir (nameOf i) hz hr (nameOf_len i) (nameOf_ascii i) M)
  have q38 := fun dir i M => kX hc (k38 nodes next cookie dir (nameOf i) hz hr (nameOf_len i) (nameOf_ascii i) M)
  have q17 := fun dir i to j M => k17 hc nodes next cookie dir (nameOf i) to (nameOf j) hz hr (nameOf_len i) (nameOf_ascii i) (nameOf_len j) (nameOf_ascii j) (h.hun to (nameOf j)) M
  have q35 := fun ino M => kX hc (k35 nodes next cookie ino ht hr M)
  have q71 := fun ino M => kX hc (k71 nodes next cookie ino data ht hr h6 M)
  simp only [addW_eq h, lnW_eq h, unW_eq h, mvW_eq h] at q28 q37 q38 q17
  refine acall_ex rfl (codeX h31) rfl ?_
  simp only [fn31, E31, eTree, eTreeC, eStep, eStepC, q14, q16, h2, h3, h4, h5, hm8, e8, EVT, EVD, ↓reduceIte, Nat.reduceEqDiff, reduceCtorEq, Nat.reduceAdd, Nat.reduceLeDiff, ne_eq, Nat.reduceLT, Int.reduceLT, Int.reduceLE, Int.reduceNeg]
  repeat' (first | (refine fork_split (fun hb => ?_) (fun hb => ?_) <;> simp only [hb, E31, q14, q16, h2, h3, h4, h5, hm8, hm2, e8, e2, hw, hw2, q28, q37, q38, q17, q35, q71, eTree, eTreeC, EVT, EVD, ↓reduceIte, Nat.reduceEqDiff, reduceCtorEq, Nat.reduceAdd, Nat.reduceLeDiff, ne_eq, Nat.reduceLT, Int.reduceLT, Int.reduceLE, Int.reduceNeg]) | (refine guard_split (fun hb => ?_) (fun hb => ?_) <;> simp only [hb, E31, q14, q16, h2, h3, h4, h5, hm8, hm2, e8, e2, hw, hw2, q28, q37, q38, q17, q35, q71, eTree, eTreeC, EVT, EVD, ↓reduceIte, Nat.reduceEqDiff, reduceCtorEq, Nat.reduceAdd, Nat.reduceLeDiff, ne_eq, Nat.reduceLT, Int.reduceLT, Int.reduceLE, Int.reduceNeg]) | (refine opK_pick (fun hb => ?_) (fun hb => ?_) <;> simp only [hb, E31, q14, q16, h2, h3, h4, h5, hm8, hm2, e8, e2, hw, hw2, q28, q37, q38, q17, q35, q71, eTree, eTreeC, EVT, EVD, ↓reduceIte, Nat.reduceEqDiff, reduceCtorEq, Nat.reduceAdd, Nat.reduceLeDiff, ne_eq, Nat.reduceLT, Int.reduceLT, Int.reduceLE, Int.reduceNeg]))
  all_goals clear q14 q16 q28 q37 q38 q17 q35 q71
  all_goals (simp_all only [doneN, eTree, eTreeC, BBT, ↓reduceIte, reduceCtorEq, bne_self_eq_false]; done)
theorem k31 {c : Nat → Option AFn} (hc : ExtOk c) (h31 : c 31 = some fn31) {nodes : List Node} {next cookie : Int} {dep : Int → Nat} (h : GInv ⟨nodes, next, cookie⟩ dep 0) (s : Step) (hz : Sz 1000 ⟨nodes, next, cookie⟩) (hs : s.Ok) (M : AMem) : callOp (acall (tabX c)) 31 [.agg [eNodes nodes, .int .i64 next, .int .i64 cookie], .agg (eStepC s)] M =
    some (.tuple [eTree (doneN ⟨nodes, next, cookie⟩ s).1, .int .i64 (doneN ⟨nodes, next, cookie⟩ s).2.1, .int .i64 (doneN ⟨nodes, next, cookie⟩ s).2.2], M) := callOp0 (c31 hc h31 h s hz hs) rfl rfl rfl rfl rfl M
end Go.Proofs.YtnapockikkbkcaaGreat
namespace Go.Proofs.YtnapockikkbkcaaGreat
open Go Go.Abs
attribute [local irreducible] exK opsK opK gK forkK kr acall callOp owhen obind
theorem bytes_of : ∀ (d : Bytes), bytesOf (d.map eByte) = some d
  | [] => rfl
  | b :: d => by
    rw [List.map_cons]
    show obind (bytesOf (d.map eByte)) (fun l => some (UInt8.ofNat ((b.toNat : Int)).toNat :: l)) = some (b :: d)
    rw [bytes_of d, obind_some]
    simp
theorem c53 (a b : Bytes) : acall tab 53 [eData a, eData b] [] = some (.bool (a == b), []) := by
  refine acall_ex rfl rfl rfl ?_
  simp only [fn53, E53, bytes_of, EVT, EVD, ↓reduceIte, Nat.reduceEqDiff, reduceCtorEq, Nat.reduceAdd, Nat.reduceLeDiff, ne_eq, Nat.reduceLT, Int.reduceLT, Int.reduceLE, Int.reduceNeg]
theorem k53 (a b : Bytes) (M : AMem) : callOp (acall tab) 53 [eData a, eData b] M = some (.bool (a == b), M) := callOp0 (c53 a b) rfl rfl rfl rfl rfl M
theorem entB (x y : Ent) : decide (x = y) = (x.name == y.name && (x.ino == y.ino && (x.cookie == y.cookie && true))) := by
  cases x; cases y
  simp only [Ent.mk.injEq, Bool.and_true]
  rw [Bool.eq_iff_iff]
  simp
theorem eqEnt (x y : Ent) : eqCells [.s, .i, .i] (eEntC x) (eEntC y) = some (decide (x = y)) := by
  rw [entB]
  simp only [eEntC, eqCells, eqCell, obind_some, ↓reduceIte]
theorem allE (x : Ent) : (eEntC x).all AVal.isCell = true := rfl
theorem allN (x : Node) : (eNodeC x).all AVal.isCell = true := rfl
theorem loop54 {a b : List Ent} (ha : a.length ≤ 100000) {k : List K} {R : Bool → Option (AVal × AMem)}
    (hx : ∀ e, kr (acall tab) [.tmp 4] 0 k ⟨.exit 0, e, []⟩ = R true) (hr : kr (acall tab) [.tmp 4] 0 k ⟨.ret, [(4, .bool false)], []⟩ = R false) :
    ∀ (l m pre pre' : List Ent), a = pre ++ l → b = pre' ++ m → pre.length = pre'.length → l.length = m.length → exK (acall tab) [.tmp 4] 0 k (.loop [0, 1, 12, 13] lb54_0) [(0, eEnts a), (1, eEnts b), (12, .int .i64 a.length), (13, .int .i64 pre.length)] [] = R (decide (l = m)) := by
  intro l
  induction l with
  | nil =>
    intro m pre pre' h h' hp hl
    have hm : m = [] := List.length_eq_zero_iff.1 hl.symm
    subst hm
    rw [exK_loop]
    simp only [E54, lt_end h, EVT, EVD, ↓reduceIte, Nat.reduceEqDiff, reduceCtorEq, Nat.reduceAdd, Nat.reduceLeDiff, ne_eq, Nat.reduceLT, Int.reduceLT, Int.reduceLE, Int.reduceNeg]
    exact hx _
  | cons n r ih =>
    intro m pre pre' h h' hp hl
    cases m with
    | nil => cases hl
    | cons n' m =>
    rw [exK_loop]
    have hlen : pre.length + 1 ≤ 100000 := by rw [h] at ha; simp at ha; omega
    have hw : IntKind.i64.wrap ((pre.length : Int) + 1) = ((pre ++ [n]).length : Int) := by rw [wrap_small (by omega) (by omega)]; exact step_len
    have hi := ih m (pre ++ [n]) (pre' ++ [n']) (by rw [h]; simp) (by rw [h']; simp) (by simp [hp]) (by simpa using hl)
    have ha2 : b[pre.length]? = some n' := by rw [hp]; exact at_mid h'
    have hdc : decide (n :: r = n' :: m) = (decide (n = n') && decide (r = m)) := by
      rw [Bool.eq_iff_iff]; simp
    rw [hdc]
    simp only [List.length_append, List.length_cons, List.length_nil] at hi
    simp only [E54, lt_mid h, at_mid h, ha2, tkE, shE, eqEnt, allE, EVT, EVD, ↓reduceIte, Nat.reduceEqDiff, reduceCtorEq, Nat.reduceAdd, Nat.reduceLeDiff, ne_eq, Nat.reduceLT, Int.reduceLT, Int.reduceLE, Int.reduceNeg]
    refine fork_split (fun hb => ?_) (fun hb => ?_)
    · have hb' : decide (n = n') = false := by simpa using hb
      simp only [E54, hb', Bool.false_and, EVT, EVD, ↓reduceIte, Nat.reduceEqDiff, reduceCtorEq, Nat.reduceAdd, Nat.reduceLeDiff, ne_eq, Nat.reduceLT, Int.reduceLT, Int.reduceLE, Int.reduceNeg]
      exact hr
    · have hb' : decide (n = n') = true := by simpa using hb
      simp only [E54, hb', Bool.true_and, hw, EVT, EVD, ↓reduceIte, Nat.reduceEqDiff, reduceCtorEq, Nat.reduceAdd, Nat.reduceLeDiff, ne_eq, Nat.reduceLT, Int.reduceLT, Int.reduceLE, Int.reduceNeg]
      exact hi
theorem c54 (a b : List Ent) (ha : a.length ≤ 100000) : acall tab 54 [eEnts a, eEnts b] [] = some (.bool (decide (a = b)), []) := by
  refine acall_ex rfl rfl rfl ?_
  simp only [fn54, E54, EVT, EVD, ↓reduceIte, Nat.reduceEqDiff, reduceCtorEq, Nat.reduceAdd, Nat.reduceLeDiff, ne_eq, Nat.reduceLT, Int.reduceLT, Int.reduceLE, Int.reduceNeg]
  refine fork_split (fun hb => ?_) (fun hb => ?_)
  · have : decide (a = b) = false := by
      simp at hb ⊢
      rintro rfl; exact hb rfl
    simp only [E54, this, EVT, EVD, ↓reduceIte, Nat.reduceEqDiff, reduceCtorEq, Nat.reduceAdd, Nat.reduceLeDiff, ne_eq, Nat.reduceLT, Int.reduceLT, Int.reduceLE, Int.reduceNeg]
  · simp only [E54, EVT, EVD, ↓reduceIte, Nat.reduceEqDiff, reduceCtorEq, Nat.reduceAdd, Nat.reduceLeDiff, ne_eq, Nat.reduceLT, Int.reduceLT, Int.reduceLE, Int.reduceNeg]
    exact loop54 (R := fun z => some (.bool z, [])) ha (fun e => by simp only [E54, EVT, EVD, ↓reduceIte, Nat.reduceEqDiff, reduceCtorEq, Nat.reduceAdd, Nat.reduceLeDiff, ne_eq, Nat.reduceLT, Int.reduceLT, Int.reduceLE, Int.reduceNeg]) (by simp only [E54, EVT, EVD, ↓reduceIte, Nat.reduceEqDiff, reduceCtorEq, Nat.reduceAdd, Nat.reduceLeDiff, ne_eq, Nat.reduceLT, Int.reduceLT, Int.reduceLE, Int.reduceNeg]) a b [] [] rfl rfl rfl (by simp at hb; omega)
theorem k54 (a b : List Ent) (ha : a.length ≤ 100000) (M : AMem) : callOp (acall tab) 54 [eEnts a, eEnts b] M = some (.bool (decide (a = b)), M) := callOp0 (c54 a b ha) rfl rfl rfl rfl rfl M
theorem nodeB (x y : Node) : decide (x = y) = (x.ino == y.ino && (x.kind == y.kind && (x.links == y.links && (x.up == y.up && (x.data == y.data && decide (x.ents = y.ents)))))) := by
  cases x; cases y
  simp only [Node.mk.injEq]
  rw [Bool.eq_iff_iff]
  simp only [decide_eq_true_eq, Bool.and_eq_true, beq_iff_eq]
  constructor
  · rintro ⟨h1, h2, h3, h4, h5, h6⟩; exact ⟨h1, h2, h3, h6, h4, h5⟩
  · rintro ⟨h1, h2, h3, h6, h4, h5⟩; exact ⟨h1, h2, h3, h4, h5, h6⟩
theorem c52 (x y : Node) (hx : x.ents.length ≤ 100000) : acall tab 52 [eNode x, eNode y] [] = some (.bool (decide (x = y)), []) := by
  rw [nodeB]
  refine acall_ex rfl rfl rfl ?_
  simp only [fn52, E52, eNode, eNodeC, EVT, EVD, ↓reduceIte, Nat.reduceEqDiff, reduceCtorEq, Nat.reduceAdd, Nat.reduceLeDiff, ne_eq, Nat.reduceLT, Int.reduceLT, Int.reduceLE, Int.reduceNeg]
  repeat' (first | (refine fork_split (fun hb => ?_) (fun hb => ?_) <;> simp only [hb, E52, k53, k54, hx, EVT, EVD, ↓reduceIte, Nat.reduceEqDiff, reduceCtorEq, Nat.reduceAdd, Nat.reduceLeDiff, ne_eq, Nat.reduceLT, Int.reduceLT, Int.reduceLE, Int.reduceNeg]) | (refine guard_split (fun hb => ?_) (fun hb => ?_) <;> simp only [hb, E52, k53, k54, hx, EVT, EVD, ↓reduceIte, Nat.reduceEqDiff, reduceCtorEq, Nat.reduceAdd, Nat.reduceLeDiff, ne_eq, Nat.reduceLT, Int.reduceLT, Int.reduceLE, Int.reduceNeg]) | (refine opK_pick (fun hb => ?_) (fun hb => ?_) <;> simp only [hb, E52, k53, k54, hx, EVT, EVD, ↓reduceIte, Nat.reduceEqDiff, reduceCtorEq, Nat.reduceAdd, Nat.reduceLeDiff, ne_eq, Nat.reduceLT, Int.reduceLT, Int.reduceLE, Int.reduceNeg]))
  all_goals simp_all only [BBT, ↓reduceIte, reduceCtorEq, bne_self_eq_false]
theorem k52 (x y : Node) (hx : x.ents.length ≤ 100000) (M : AMem) : callOp (acall tab) 52 [.agg (eNodeC x), .agg (eNodeC y)] M = some (.bool (decide (x = y)), M) := callOp0 (c52 x y hx) rfl rfl rfl rfl rfl M
theorem loop55 {a b : List Node} (ha : a.length ≤ 100000) (he : ∀ n, n ∈ a → n.ents.length ≤ 100000) {k : List K} {R : Bool → Option (AVal × AMem)}
    (hx : ∀ e, kr (acall tab) [.tmp 6] 0 k ⟨.exit 0, e, []⟩ = R true) (hr : ∀ M, kr (acall tab) [.tmp 6] 0 k ⟨.ret, [(6, .bool false)], M⟩ = R false) :
    ∀ (l m pre pre' : List Node), a = pre ++ l → b = pre' ++ m → pre.length = pre'.length → l.length = m.length → exK (acall tab) [.tmp 6] 0 k (.loop [1, 2, 15, 16, 17] lb55_0) [(1, eNodes b), (2, .func 52 []), (15, eNodes a), (16, .int .i64 a.length), (17, .int .i64 pre.length)] [] = R (decide (l = m)) := by
  intro l
  induction l with
  | nil =>
    intro m pre pre' h h' hp hl
    have hm : m = [] := List.length_eq_zero_iff.1 hl.symm
    subst hm
    rw [exK_loop]
    simp only [E55, lt_end h, EVT, EVD, ↓reduceIte, Nat.reduceEqDiff, reduceCtorEq, Nat.reduceAdd, Nat.reduceLeDiff, ne_eq, Nat.reduceLT, Int.reduceLT, Int.reduceLE, Int.reduceNeg]
    exact hx _
  | cons n r ih =>
    intro m pre pre' h h' hp hl
    cases m with
    | nil => cases hl
    | cons n' m =>
    rw [exK_loop]
    have hlen : pre.length + 1 ≤ 100000 := by rw [h] at ha; simp at ha; omega
    have hw : IntKind.i64.wrap ((pre.length : Int) + 1) = ((pre ++ [n]).length : Int) := by rw [wrap_small (by omega) (by omega)]; exact step_len
    have hi := ih m (pre ++ [n]) (pre' ++ [n']) (by rw [h]; simp) (by rw [h']; simp) (by simp [hp]) (by simpa using hl)
    have ha2 : b[pre.length]? = some n' := by rw [hp]; exact at_mid h'
    have hen := he n (by rw [h]; simp)
    have hdc : decide (n :: r = n' :: m) = (decide (n = n') && decide (r = m)) := by
      rw [Bool.eq_iff_iff]; simp
    have hfl : List.flatMap AVal.ids1 (eNodeC n) = [] := rfl
    have hfl' : List.flatMap AVal.ids1 (eNodeC n') = [] := rfl
    rw [hdc]
    simp only [List.length_append, List.length_cons, List.length_nil] at hi
    simp only [E55, lt_mid h, at_mid h, ha2, tkN, shN, allN, k52, hen, hfl, hfl', EVT, EVD, ↓reduceIte, Nat.reduceEqDiff, reduceCtorEq, Nat.reduceAdd, Nat.reduceLeDiff, ne_eq, Nat.reduceLT, Int.reduceLT, Int.reduceLE, Int.reduceNeg]
    refine fork_split (fun hb => ?_) (fun hb => ?_)
    · have hb' : decide (n = n') = false := by simpa using hb
      simp only [E55, hb', Bool.false_and, EVT, EVD, ↓reduceIte, Nat.reduceEqDiff, reduceCtorEq, Nat.reduceAdd, Nat.reduceLeDiff, ne_eq, Nat.reduceLT, Int.reduceLT, Int.reduceLE, Int.reduceNeg]
      exact hr _
    · have hb' : decide (n = n') = true := by simpa using hb
      simp only [E55, hb', Bool.true_and, hw, EVT, EVD, ↓reduceIte, Nat.reduceEqDiff, reduceCtorEq, Nat.reduceAdd, Nat.reduceLeDiff, ne_eq, Nat.reduceLT, Int.reduceLT, Int.reduceLE, Int.reduceNeg]
      exact hi
theorem c55 (a b : List Node) (ha : a.length ≤ 100000) (he : ∀ n, n ∈ a → n.ents.length ≤ 100000) : acall tab 55 [eNodes a, eNodes b, .func 52 []] [] = some (.bool (decide (a = b)), []) := by
  refine acall_ex rfl rfl rfl ?_
  simp only [fn55, E55, EVT, EVD, ↓reduceIte, Nat.reduceEqDiff, reduceCtorEq, Nat.reduceAdd, Nat.reduceLeDiff, ne_eq, Nat.reduceLT, Int.reduceLT, Int.reduceLE, Int.reduceNeg]
  refine fork_split (fun hb => ?_) (fun hb => ?_)
  · have : decide (a = b) = false := by
      simp at hb ⊢
      rintro rfl; exact hb rfl
    simp only [E55, this, EVT, EVD, ↓reduceIte, Nat.reduceEqDiff, reduceCtorEq, Nat.reduceAdd, Nat.reduceLeDiff, ne_eq, Nat.reduceLT, Int.reduceLT, Int.reduceLE, Int.reduceNeg]
  · simp only [E55, EVT, EVD, ↓reduceIte, Nat.reduceEqDiff, reduceCtorEq, Nat.reduceAdd, Nat.reduceLeDiff, ne_eq, Nat.reduceLT, Int.reduceLT, Int.reduceLE, Int.reduceNeg]
    exact loop55 (R := fun z => some (.bool z, [])) ha he (fun e => by simp only [E55, EVT, EVD, ↓reduceIte, Nat.reduceEqDiff, reduceCtorEq, Nat.reduceAdd, Nat.reduceLeDiff, ne_eq, Nat.reduceLT, Int.reduceLT, Int.reduceLE, Int.reduceNeg]) (fun M => by simp only [E55, EVT, EVD, ↓reduceIte, Nat.reduceEqDiff, reduceCtorEq, Nat.reduceAdd, Nat.reduceLeDiff, ne_eq, Nat.reduceLT, Int.reduceLT, Int.reduceLE, Int.reduceNeg]) a b [] [] rfl rfl rfl (by simp at hb; omega)
theorem k55 (a b : List Node) (ha : a.length ≤ 100000) (he : ∀ n, n ∈ a → n.ents.length ≤ 100000) (M : AMem) : callOp (acall tab) 55 [eNodes a, eNodes b, .func 52 []] M = some (.bool (decide (a = b)), M) := callOp0 (c55 a b ha he) rfl rfl rfl rfl rfl M
theorem treeB (x y : Tree) : decide (x = y) = (x.next == y.next && (x.cookie == y.cookie && decide (x.nodes = y.nodes))) := by
  cases x; cases y
  simp only [Tree.mk.injEq]
  rw [Bool.eq_iff_iff]
  simp only [decide_eq_true_eq, Bool.and_eq_true, beq_iff_eq]
  constructor
  · rintro ⟨h1, h2, h3⟩; exact ⟨h2, h3, h1⟩
  · rintro ⟨h2, h3, h1⟩; exact ⟨h1, h2, h3⟩
theorem c18 (a b : Tree) (ha : Small a) : acall tab 18 [eTree a, eTree b] [] = some (.bool (decide (a = b)), []) := by
  rw [treeB]
  have h1 := ha.nodes
  have h2 := ha.ents
  refine acall_ex rfl rfl rfl ?_
  simp only [fn18, E18, eTree, eTreeC, EVT, EVD, ↓reduceIte, Nat.reduceEqDiff, reduceCtorEq, Nat.reduceAdd, Nat.reduceLeDiff, ne_eq, Nat.reduceLT, Int.reduceLT, Int.reduceLE, Int.reduceNeg]
  repeat' (first | (refine fork_split (fun hb => ?_) (fun hb => ?_) <;> simp only [hb, E18, k55 _ _ h1 h2, EVT, EVD, ↓reduceIte, Nat.reduceEqDiff, reduceCtorEq, Nat.reduceAdd, Nat.reduceLeDiff, ne_eq, Nat.reduceLT, Int.reduceLT, Int.reduceLE, Int.reduceNeg]) | (refine guard_split (fun hb => ?_) (fun hb => ?_) <;> simp only [hb, E18, k55 _ _ h1 h2, EVT, EVD, ↓reduceIte, Nat.reduceEqDiff, reduceCtorEq, Nat.reduceAdd, Nat.reduceLeDiff, ne_eq, Nat.reduceLT, Int.reduceLT, Int.reduceLE, Int.reduceNeg]) | (refine opK_pick (fun hb => ?_) (fun hb => ?_) <;> simp only [hb, E18, k55 _ _ h1 h2, EVT, EVD, ↓reduceIte, Nat.reduceEqDiff, reduceCtorEq, Nat.reduceAdd, Nat.reduceLeDiff, ne_eq, Nat.reduceLT, Int.reduceLT, Int.reduceLE, Int.reduceNeg]))
  all_goals simp_all only [BBT, ↓reduceIte, reduceCtorEq, bne_self_eq_false]
theorem k18 (a b : Tree) (ha : Small a) (M : AMem) : callOp (acall tab) 18 [.agg [eNodes a.nodes, .int .i64 a.next, .int .i64 a.cookie], .agg [eNodes b.nodes, .int .i64 b.next, .int .i64 b.cookie]] M = some (.bool (decide (a = b)), M) := callOp0 (c18 a b ha) rfl rfl rfl rfl rfl M
end Go.Proofs.YtnapockikkbkcaaGreat
namespace Go.Proofs.YtnapockikkbkcaaGreat
open Go Go.Abs
attribute [local irreducible] exK opsK opK gK forkK kr acall callOp owhen obind
abbrev AL := List (Int × Int)
def eK (l : AL) : List AVal := l.map fun p => .int .i64 p.1
def eV (l : AL) : List AVal := l.map fun p => .int .i64 p.2
def aget : AL → Int → Option Int
  | [], _ => none
  | (k', v) :: l, k => if k = k' then some v else aget l k
def aput : AL → Int → Int → AL
  | [], k, v => [(k, v)]
  | (k', v') :: l, k, v => if k = k' then (k, v) :: l else (k', v') :: aput l k v
theorem aget_aput : ∀ (l : AL) (k v j : Int), aget (aput l k v) j = if j = k then some v else aget l j
  | [], k, v, j => by simp only [aput, aget]
  | (k', v') :: l, k, v, j => by
    simp only [aput]
    split
    · rename_i h
      subst h
      simp only [aget]
      split
      · rfl
      · rfl
    · rename_i h
      simp only [aget]
      split
      · rename_i h2
        rw [if_neg (fun hh => h (hh.symm.trans h2))]
      · exact aget_aput l k v j
theorem mapGet_eq : ∀ (l : AL) (k : Int), mapGet .i (.int .i64 k) (eK l) (eV l) = some ((aget l k).map fun v => .int .i64 v)
  | [], k => rfl
  | (k', v) :: l, k => by
    show obind (eqCell .i (.int .i64 k) (.int .i64 k')) (fun b => oif b (some (some (.int .i64 v))) (mapGet .i (.int .i64 k) (eK l) (eV l))) = _
    rw [mapGet_eq l k]
    simp only [eqCell, ↓reduceIte, obind_some, aget]
    by_cases h : k = k'
    · rw [if_pos h, show (k == k') = true by simpa using h, oif_true]; rfl
    · rw [if_neg h, show (k == k') = false by simpa using h, oif_false]
theorem mapPut_eq : ∀ (l : AL) (k v : Int), mapPut .i (.int .i64 k) (.int .i64 v) (eK l) (eV l) = some (eK (aput l k v), eV (aput l k v))
  | [], k, v => by
    show obind (eqCell .i (.int .i64 k) (.int .i64 k)) (fun _ => some ([AVal.int .i64 k], [AVal.int .i64 v])) = _
    simp only [eqCell, ↓reduceIte, obind_some]
    rfl
  | (k', v') :: l, k, v => by
    show obind (eqCell .i (.int .i64 k) (.int .i64 k')) (fun b => oif b (some (AVal.int .i64 k :: eK l, AVal.int .i64 v :: eV l)) (obind (mapPut .i (.int .i64 k) (.int .i64 v) (eK l) (eV l)) fun x => some (AVal.int .i64 k' :: x.1, AVal.int .i64 v' :: x.2))) = _
    rw [mapPut_eq l k v]
    simp only [eqCell, ↓reduceIte, obind_some, aput]
    by_cases h : k = k'
    · rw [if_pos h, show (k == k') = true by simpa using h, oif_true]; rfl
    · rw [if_neg h, show (k == k') = false by simpa using h, oif_false]; rfl
theorem lookI (o : Option Int) : lookRes (.int .i64 0) false (o.map fun v => .int .i64 v) = .int .i64 (o.getD 0) := by cases o <;> rfl
theorem bkV (B : Nat) (M : AMem) (l : AL) : List.map (AVal.back2 B M) (eV l) = eV l := by
  unfold eV
  rw [List.map_map]
  exact List.map_congr_left (fun p _ => rfl)
theorem plainV (l : AL) : (eV l).all AVal.plain = true := List.all_eq_true.2 fun x hx => by
  obtain ⟨p, _, rfl⟩ := List.mem_map.1 hx
  rfl
theorem plainK (l : AL) : (eK l).all AVal.plainCell = true := List.all_eq_true.2 fun x hx => by
  obtain ⟨p, _, rfl⟩ := List.mem_map.1 hx
  rfl
def cntStep (d : Int) (mi : AL × AL) (e : Ent) : AL × AL := (aput mi.1 e.ino (w64 ((aget mi.1 e.ino).getD 0 + 1)), aput mi.2 e.ino d)
def countedN (nodes : List Node) : AL × AL := nodes.foldl (fun mi n => n.ents.foldl (cntStep n.ino) mi) ([], [])
theorem eK_nil : eK [] = [] := rfl
theorem eV_nil : eV [] = [] := rfl
theorem loop72a {nodes : List Node} {next cookie : Int} {n : Node} {i : Nat} (he : n.ents.length ≤ 100000) {k : List K} {R : AL × AL → Option (AVal × AMem)}
    (hx : ∀ mi v q, kr (acall tab) [.tmp 2, .tmp 3] 1 k ⟨.exit 2, [(4, .mref 1), (5, .mref 2), (7, .ptr 3 0), (16, eNodes nodes), (17, .int .i64 nodes.length), (18, .int .i64 i), (23, eEnts n.ents), (24, .int .i64 n.ents.length), (25, v), (26, q)], [.cells [eNodes nodes, .int .i64 next, .int .i64 cookie], .map (eK mi.1) (eV mi.1), .map (eK mi.2) (eV mi.2), .cells (eNodeC n)]⟩ = R mi) :
    ∀ (l pre : List Ent) (mi : AL × AL), n.ents = pre ++ l → exK (acall tab) [.tmp 2, .tmp 3] 1 k (.loop [4, 5, 7, 16, 17, 18, 23, 24, 25] lb72_0) [(4, .mref 1), (5, .mref 2), (7, .ptr 3 0), (16, eNodes nodes), (17, .int .i64 nodes.length), (18, .int .i64 i), (23, eEnts n.ents), (24, .int .i64 n.ents.length), (25, .int .i64 pre.length)] [.cells [eNodes nodes, .int .i64 next, .int .i64 cookie], .map (eK mi.1) (eV mi.1), .map (eK mi.2) (eV mi.2), .cells (eNodeC n)] = R (l.foldl (cntStep n.ino) mi) := by
  simp only [eNodeC] at hx ⊢
  intro l
  induction l with
  | nil =>
    intro pre mi h
    rw [exK_loop]
    simp only [E72, lt_end h, List.foldl_nil, EVT, EVD, ↓reduceIte, Nat.reduceEqDiff, reduceCtorEq, Nat.reduceAdd, Nat.reduceLeDiff, ne_eq, Nat.reduceLT, Int.reduceLT, Int.reduceLE, Int.reduceNeg]
    exact hx _ _ _
  | cons x rest ih =>
    intro pre mi h
    rw [exK_loop]
    have hlen : pre.length + 1 ≤ 100000 := by rw [h] at he; simp at he; omega
    have hw : IntKind.i64.wrap ((pre.length : Int) + 1) = ((pre ++ [x]).length : Int) := by rw [wrap_small (by omega) (by omega)]; exact step_len
    have hh := ih (pre ++ [x]) (cntStep n.ino mi x) (by rw [h]; simp)
    simp only [List.length_append, List.length_cons, List.length_nil, cntStep] at hh
    rw [List.foldl_cons]
    simp only [E72, lt_mid h, at_mid h, eEntC, mapOf, mapGet_eq, mapPut_eq, lookI, bkV, hw, cntStep, EVT, EVD, ↓reduceIte, Nat.reduceEqDiff, reduceCtorEq, Nat.reduceAdd, Nat.reduceLeDiff, ne_eq, Nat.reduceLT, Int.reduceLT, Int.reduceLE, Int.reduceNeg]
    exact hh
theorem loop72b {nodes : List Node} {next cookie : Int} (hn : nodes.length ≤ 100000) (he : ∀ n, n ∈ nodes → n.ents.length ≤ 100000) {k : List K} {R : AL × AL → Option (AVal × AMem)}
    (hx : ∀ mi v q, kr (acall tab) [.tmp 2, .tmp 3] 1 k ⟨.exit 0, [(4, .mref 1), (5, .mref 2), (16, eNodes nodes), (17, .int .i64 nodes.length), (18, v), (19, q)], [.cells [eNodes nodes, .int .i64 next, .int .i64 cookie], .map (eK mi.1) (eV mi.1), .map (eK mi.2) (eV mi.2)]⟩ = R mi) :
    ∀ (l pre : List Node) (mi : AL × AL), nodes = pre ++ l → exK (acall tab) [.tmp 2, .tmp 3] 1 k (.loop [4, 5, 16, 17, 18] lb72_1) [(4, .mref 1), (5, .mref 2), (16, eNodes nodes), (17, .int .i64 nodes.length), (18, .int .i64 pre.length)] [.cells [eNodes nodes, .int .i64 next, .int .i64 cookie], .map (eK mi.1) (eV mi.1), .map (eK mi.2) (eV mi.2)] = R (l.foldl (fun mi n => n.ents.foldl (cntStep n.ino) mi) mi) := by
  intro l
  induction l with
  | nil =>
    intro pre mi h
    rw [exK_loop]
    simp only [E72, lt_end h, List.foldl_nil, EVT, EVD, ↓reduceIte, Nat.reduceEqDiff, reduceCtorEq, Nat.reduceAdd, Nat.reduceLeDiff, ne_eq, Nat.reduceLT, Int.reduceLT, Int.reduceLE, Int.reduceNeg]
    exact hx _ _ _
  | cons x rest ih =>
    intro pre mi h
    rw [exK_loop]
    have hlen : pre.length + 1 ≤ 100000 := by rw [h] at hn; simp at hn; omega
    have hw : IntKind.i64.wrap ((pre.length : Int) + 1) = ((pre ++ [x]).length : Int) := by rw [wrap_small (by omega) (by omega)]; exact step_len
    rw [List.foldl_cons]
    have hla := fun k R hx => loop72a (nodes := nodes) (next := next) (cookie := cookie) (n := x) (i := pre.length) (he x (by rw [h]; simp)) (k := k) (R := R) hx x.ents [] mi rfl
    simp only [eNodeC] at hla
    simp only [E72, lt_mid h, at_mid h, eNodeC, bkV, EVT, EVD, ↓reduceIte, Nat.reduceEqDiff, reduceCtorEq, Nat.reduceAdd, Nat.reduceLeDiff, ne_eq, Nat.reduceLT, Int.reduceLT, Int.reduceLE, Int.reduceNeg]
    refine hla _ (fun mi => R (rest.foldl (fun mi n => n.ents.foldl (cntStep n.ino) mi) mi)) (fun mi v q => ?_)
    have hh := ih (pre ++ [x]) mi (by rw [h]; simp)
    simp only [List.length_append, List.length_cons, List.length_nil] at hh
    simp only [E72, bkV, hw, EVT, EVD, ↓reduceIte, Nat.reduceEqDiff, reduceCtorEq, Nat.reduceAdd, Nat.reduceLeDiff, ne_eq, Nat.reduceLT, Int.reduceLT, Int.reduceLE, Int.reduceNeg]
    exact hh
theorem c72 (nodes : List Node) (next cookie : Int) (hn : nodes.length ≤ 100000) (he : ∀ n, n ∈ nodes → n.ents.length ≤ 100000) : acall tab 72 [.ptr 0 0] [.cells [eNodes nodes, .int .i64 next, .int .i64 cookie]] =
    some (.tuple [.fmap (eK (countedN nodes).1) (eV (countedN nodes).1), .fmap (eK (countedN nodes).2) (eV (countedN nodes).2)], [.cells [eNodes nodes, .int .i64 next, .int .i64 cookie]]) := by
  refine acall_ex rfl rfl rfl ?_
  simp only [fn72, E72, EVT, EVD, ↓reduceIte, Nat.reduceEqDiff, reduceCtorEq, Nat.reduceAdd, Nat.reduceLeDiff, ne_eq, Nat.reduceLT, Int.reduceLT, Int.reduceLE, Int.reduceNeg]
  have hlb := fun k R hx => loop72b (nodes := nodes) (next := next) (cookie := cookie) hn he (k := k) (R := R) hx nodes [] ([], []) rfl
  simp only [eK_nil, eV_nil] at hlb
  refine hlb _ (fun mi => some (.tuple [.fmap (eK mi.1) (eV mi.1), .fmap (eK mi.2) (eV mi.2)], [.cells [eNodes nodes, .int .i64 next, .int .i64 cookie]])) (fun mi v q => ?_)
  simp only [E72, plainV, plainK, List.getElem?_cons_zero, List.getElem?_cons_succ, EVT, EVD, ↓reduceIte, Nat.reduceEqDiff, reduceCtorEq, Nat.reduceAdd, Nat.reduceLeDiff, ne_eq, Nat.reduceLT, Int.reduceLT, Int.reduceLE, Int.reduceNeg]
theorem k72 (nodes : List Node) (next cookie : Int) (hn : nodes.length ≤ 100000) (he : ∀ n, n ∈ nodes → n.ents.length ≤ 100000) (p : Nat) (M : AMem) (hM : nth M p = some (.cells [eNodes nodes, .int .i64 next, .int .i64 cookie])) : callOp (acall tab) 72 [.ptr p 0] M =
    some (.tuple [.fmap (eK (countedN nodes).1) (eV (countedN nodes).1), .fmap (eK (countedN nodes).2) (eV (countedN nodes).2)], M) := by
  rw [callOp1 hM (c72 nodes next cookie hn he) rfl rfl rfl rfl rfl rfl rfl rfl rfl rfl, set_nth hM]
end Go.Proofs.YtnapockikkbkcaaGreat
namespace Go.Proofs.YtnapockikkbkcaaGreat
open Go Go.Abs
attribute [local irreducible] exK opsK opK gK forkK kr acall callOp owhen obind
theorem foldE_many (d k : Int) : ∀ (l : List Ent) (mi : AL × AL), 0 ≤ (aget mi.1 k).getD 0 → (aget mi.1 k).getD 0 + cntE l k ≤ 1000000000 → (aget (l.foldl (cntStep d) mi).1 k).getD 0 = (aget mi.1 k).getD 0 + cntE l k
  | [], mi, _, _ => by simp [cntE_nil]
  | x :: l, mi, h0, hb => by
    rw [List.foldl_cons]
    rw [cntE_cons] at hb ⊢
    have hs : (aget (cntStep d mi x).1 k).getD 0 = (aget mi.1 k).getD 0 + (if x.ino = k then 1 else 0) := by
      simp only [cntStep]
      rw [aget_aput]
      by_cases hx : x.ino = k
      · rw [if_pos hx.symm, if_pos hx, hx]
        rw [if_pos hx] at hb
        simp only [Option.getD_some]
        exact wrap_small (by omega) (by omega)
      · rw [if_neg (fun hh => hx hh.symm), if_neg hx]; omega
    rw [foldE_many d k l _ (by rw [hs]; split <;> omega) (by rw [hs]; split at hb <;> simp_all <;> omega), hs]
    split <;> omega
theorem foldN_many (k : Int) : ∀ (l : List Node) (mi : AL × AL), 0 ≤ (aget mi.1 k).getD 0 → (aget mi.1 k).getD 0 + cnt l k ≤ 1000000000 → (aget (l.foldl (fun mi n => n.ents.foldl (cntStep n.ino) mi) mi).1 k).getD 0 = (aget mi.1 k).getD 0 + cnt l k
  | [], mi, _, _ => by simp [cnt]
  | x :: l, mi, h0, hb => by
    rw [List.foldl_cons]
    rw [cnt_cons] at hb ⊢
    have h1 := foldE_many x.ino k x.ents mi h0 (by omega)
    rw [foldN_many k l _ (by rw [h1]; omega) (by rw [h1]; omega), h1]
    omega
theorem counted_many (nodes : List Node) (k : Int) (hb : cnt nodes k ≤ 1000000) : (aget (countedN nodes).1 k).getD 0 = cnt nodes k := by
  have := foldN_many k nodes ([], []) (by simp [aget]) (by simp [aget]; omega)
  simpa [aget, countedN] using this
theorem foldE_in (d k u : Int) : ∀ (l : List Ent) (mi : AL × AL), (∀ e, e ∈ l → e.ino = k → d = u) → (aget mi.2 k = some u ∨ 0 < cntE l k) → aget (l.foldl (cntStep d) mi).2 k = some u
  | [], mi, _, h => by
    rcases h with h | h
    · exact h
    · simp [cntE_nil] at h
  | x :: l, mi, hd, h => by
    rw [List.foldl_cons]
    refine foldE_in d k u l _ (fun e he => hd e (List.mem_cons_of_mem _ he)) ?_
    simp only [cntStep]
    rw [aget_aput]
    by_cases hx : x.ino = k
    · rw [if_pos hx.symm, hd x List.mem_cons_self hx]; exact .inl rfl
    · rw [if_neg (fun hh => hx hh.symm)]
      rcases h with h | h
      · exact .inl h
      · rw [cntE_cons, if_neg hx] at h; exact .inr h
theorem foldE_keep (d k : Int) : ∀ (l : List Ent) (mi : AL × AL), cntE l k = 0 → aget (l.foldl (cntStep d) mi).2 k = aget mi.2 k
  | [], _, _ => rfl
  | x :: l, mi, h => by
    rw [cntE_cons] at h
    have hx : ¬ x.ino = k := fun hh => by rw [if_pos hh] at h; omega
    rw [List.foldl_cons, foldE_keep d k l _ (by rw [if_neg hx] at h; exact h)]
    simp only [cntStep]
    rw [aget_aput, if_neg (fun hh => hx hh.symm)]
theorem foldN_in (k u : Int) : ∀ (l : List Node) (mi : AL × AL), (∀ n, n ∈ l → ∀ e, e ∈ n.ents → e.ino = k → n.ino = u) → (aget mi.2 k = some u ∨ 0 < cnt l k) → aget (l.foldl (fun mi n => n.ents.foldl (cntStep n.ino) mi) mi).2 k = some u
  | [], mi, _, h => by
    rcases h with h | h
    · exact h
    · simp [cnt] at h
  | x :: l, mi, hd, h => by
    rw [List.foldl_cons]
    refine foldN_in k u l _ (fun n hn => hd n (List.mem_cons_of_mem _ hn)) ?_
    rcases Nat.eq_zero_or_pos (cntE x.ents k) with h0 | h0
    · rw [foldE_keep x.ino k x.ents mi h0]
      rcases h with h | h
      · exact .inl h
      · rw [cnt_cons, h0] at h; exact .inr (by omega)
    · exact .inl (foldE_in x.ino k u x.ents mi (hd x List.mem_cons_self) (.inr h0))
theorem GInv.counted_in {t : Tree} {dep : Int → Nat} (h : GInv t dep 0) {i : Int} {n : Node} (hi : find t.nodes i = some n) (hk : n.kind = 2) (h1 : i ≠ 1) : aget (countedN t.nodes).2 i = some n.up := by
  have hl := h.links _ _ hi
  rw [if_neg (by have := (h.num _ _ hi).1; omega), h.one _ _ hi hk h1] at hl
  refine foldN_in i n.up t.nodes ([], []) (fun m hm e he hei => ?_) (.inr (by omega))
  obtain ⟨_, _, _, _, q, hq, hu⟩ := h.ent _ _ e ((find_iff h.srt.asc).2 ⟨hm, rfl⟩) he
  rw [hei, hi] at hq; injection hq with hq; subst hq
  exact (hu hk).symm
theorem GInv.ups_last {t : Tree} {dep : Int → Nat} {x : Int} (h : GInv t dep x) : ∀ (m : Nat) (i : Int) (out : List Int) (n : Node), find t.nodes i = some n → n.kind = 2 → dep i ≤ m → (upsGo t.nodes m i (out ++ [i]))[out.length + dep i]? = some 1 := by
  intro m
  induction m with
  | zero =>
    intro i out n hi hk hd
    have h1 : i = 1 := by
      rcases Int.decEq i 1 with h1 | h1
      · have := (h.deps _ _ hi hk h1).1; omega
      · exact h1
    have h0 : dep i = 0 := by omega
    rw [h0]
    simp [upsGo, h1]
  | succ m ih =>
    intro i out n hi hk hd
    simp only [upsGo]
    by_cases h1 : i = 1
    · subst h1; simp [h.dep1]
    · obtain ⟨a, p, b, c⟩ := h.deps _ _ hi hk h1
      simp only [bne_iff_ne, ne_eq, h1, not_false_eq_true, ↓reduceIte, nodeN, hi, Option.isSome_some, Bool.not_true, Option.getD_some, hk, bne_self_eq_false, Bool.or_self, Bool.false_eq_true]
      have := ih n.up (out ++ [i]) p b c (by omega)
      simp only [List.length_append, List.length_cons, List.length_nil] at this
      rw [a, show out.length + (dep n.up + 1) = out.length + (0 + 1) + dep n.up by omega]
      exact this
theorem GInv.upsN_last {t : Tree} {dep : Int → Nat} {x : Int} (h : GInv t dep x) {i : Int} {n : Node} (hi : find t.nodes i = some n) (hk : n.kind = 2) : (upsN t.nodes i)[dep i]? = some 1 := by
  have := h.ups_last t.nodes.length i [] n hi hk (by have := h.dep_lt hi hk; omega)
  simpa [upsN] using this
def eC (cs : List Int) : List AVal := cs.map fun c => .int .i64 c
def eT (cs : List Int) : List AVal := cs.map fun _ => .bool true
theorem metGet : ∀ (cs : List Int) (c : Int), c ∉ cs → mapGet .i (.int .i64 c) (eC cs) (eT cs) = some none
  | [], c, _ => rfl
  | x :: cs, c, h => by
    show obind (eqCell .i (.int .i64 c) (.int .i64 x)) (fun b => oif b (some (some (.bool true))) (mapGet .i (.int .i64 c) (eC cs) (eT cs))) = _
    rw [metGet cs c (fun hh => h (List.mem_cons_of_mem _ hh))]
    have : (c == x) = false := by simp; rintro rfl; exact h List.mem_cons_self
    simp only [eqCell, ↓reduceIte, obind_some, this, oif_false]
theorem metPut : ∀ (cs : List Int) (c : Int), c ∉ cs → mapPut .i (.int .i64 c) (.bool true) (eC cs) (eT cs) = some (eC (cs ++ [c]), eT (cs ++ [c]))
  | [], c, _ => by
    show obind (eqCell .i (.int .i64 c) (.int .i64 c)) (fun _ => some ([AVal.int .i64 c], [AVal.bool true])) = _
    simp only [eqCell, ↓reduceIte, obind_some]
    rfl
  | x :: cs, c, h => by
    show obind (eqCell .i (.int .i64 c) (.int .i64 x)) (fun b => oif b (some (AVal.int .i64 c :: eC cs, AVal.bool true :: eT cs)) (obind (mapPut .i (.int .i64 c) (.bool true) (eC cs) (eT cs)) fun y => some (AVal.int .i64 x :: y.1, AVal.bool true :: y.2))) = _
    rw [metPut cs c (fun hh => h (List.mem_cons_of_mem _ hh))]
    have : (c == x) = false := by simp; rintro rfl; exact h List.mem_cons_self
    simp only [eqCell, ↓reduceIte, obind_some, this, oif_false]
    rfl
theorem bkT (B : Nat) (M : AMem) (l : List Int) : List.map (AVal.back2 B M) (eT l) = eT l := by
  unfold eT
  rw [List.map_map]
  exact List.map_congr_left (fun p _ => rfl)
theorem nm_ascii {s : Bytes} (h : Nm s) : Ascii s ∧ s.length ≤ 100000 ∧ nameOk s = true := by
  rcases h with h | h | h | h | h <;> subst h <;> refine ⟨?_, by simp, by decide⟩ <;> intro b hb <;> simp at hb <;> subst hb <;> decide
theorem loop108 {t : Tree} {dep : Int → Nat} (hi : GInv t dep 0) (ht : Small t) {n : Node} {ni : Int} (hf : find t.nodes ni = some n) {k : List K} {r : Option (AVal × AMem)}
    (hx : ∀ cs v q, kr (acall tab) [.tmp 4] 1 k ⟨.exit 0, [(0, .ptr 0 0), (3, .ptr 1 0), (5, .mref 2), (12, eEnts n.ents), (13, .int .i64 n.ents.length), (14, v), (15, q)], [.cells [eNodes t.nodes, .int .i64 t.next, .int .i64 t.cookie], .cells (eNodeC n), .map (eC cs) (eT cs)]⟩ = r) :
    ∀ (l pre : List Ent), n.ents = pre ++ l → exK (acall tab) [.tmp 4] 1 k (.loop [0, 3, 5, 12, 13, 14] lb108_0) [(0, .ptr 0 0), (3, .ptr 1 0), (5, .mref 2), (12, eEnts n.ents), (13, .int .i64 n.ents.length), (14, .int .i64 pre.length)] [.cells [eNodes t.nodes, .int .i64 t.next, .int .i64 t.cookie], .cells (eNodeC n), .map (eC (pre.map Ent.cookie)) (eT (pre.map Ent.cookie))] = r := by
  obtain ⟨nodes, next, cookie⟩ := t
  have hn : nodes.length ≤ 100000 := ht.nodes
  have he : n.ents.length ≤ 5 := hi.few hf
  have hE : AscE n.ents := hi.srt.ents n (find_mem hf).1
  have hC := hi.cook _ _ hf
  simp only [eNodeC] at hx ⊢
  intro l
  induction l with
  | nil =>
    intro pre h
    rw [exK_loop]
    simp only [E108, lt_end h, EVT, EVD, ↓reduceIte, Nat.reduceEqDiff, reduceCtorEq, Nat.reduceAdd, Nat.reduceLeDiff, ne_eq, Nat.reduceLT, Int.reduceLT, Int.reduceLE, Int.reduceNeg]
    exact hx _ _ _
  | cons x rest ih =>
    intro pre h
    rw [exK_loop]
    have hlen : pre.length + 1 ≤ 5 := by rw [h] at he; simp at he; omega
    have hw : IntKind.i64.wrap ((pre.length : Int) + 1) = ((pre ++ [x]).length : Int) := by rw [wrap_small (by omega) (by omega)]; exact step_len
    have hh := ih (pre ++ [x]) (by rw [h]; simp)
    simp only [List.length_append, List.length_cons, List.length_nil, List.map_append, List.map_cons, List.map_nil] at hh
    have hxm : x ∈ n.ents := by rw [h]; simp
    obtain ⟨x1, x2, _, x4, m, hm, _⟩ := hi.ent _ _ x hf hxm
    obtain ⟨na, nl, no⟩ := nm_ascii x4
    have hat : isAt nodes x.ino (lowB nodes x.ino) = true := by
      rcases at_find hi.srt.asc x.ino with ⟨h1, _⟩ | ⟨_, h2⟩
      · exact h1
      · simp only at hm h2; rw [hm] at h2; cases h2
    have hcm : x.cookie ∉ pre.map Ent.cookie := by
      intro hc
      obtain ⟨y, hy, hyc⟩ := List.mem_map.1 hc
      rw [h, List.pairwise_append] at hC
      exact hC.2.2 y hy x List.mem_cons_self hyc
    have b1 : decide (x.cookie < 1) = false := by simp; omega
    have b2 : decide (cookie ≤ x.cookie) = false := by simp only at x2; simp; omega
    have q79 := fun a b M => k79 nodes next cookie x.ino hi.srt.asc hn 0 (.cells [eNodes nodes, .int .i64 next, .int .i64 cookie] :: a :: b :: M) rfl
    have q41 := fun M => k41 x.name nl na M
    have hlk : lookRes (.bool false) false none = .bool false := rfl
    rcases List.eq_nil_or_concat pre with hp | ⟨pre0, y, hp⟩
    · have hgt : decide ((0 : Int) < (pre.length : Int)) = false := by rw [hp]; simp
      simp only [E108, lt_mid h, at_mid h, eEntC, q79, q41, hat, no, b1, b2, mapOf, metGet _ _ hcm, metPut _ _ hcm, hlk, hw, bkT, hgt, EVT, EVD, ↓reduceIte, Nat.reduceEqDiff, reduceCtorEq, Nat.reduceAdd, Nat.reduceLeDiff, ne_eq, Nat.reduceLT, Int.reduceLT, Int.reduceLE, Int.reduceNeg]
      exact hh
    · have hpl : (pre.length : Int) = (pre0.length : Int) + 1 := by rw [hp]; simp
      have hgt : decide ((0 : Int) < (pre.length : Int)) = true := by rw [decide_eq_true_eq]; omega
      have hws : IntKind.i64.wrap ((pre.length : Int) - 1) = (pre0.length : Int) := by rw [wrap_small (by omega) (by omega)]; omega
      have hprev : n.ents[pre0.length]? = some y := by rw [h, hp]; simp
      have hlt : strLt y.name x.name = true := by
        have hE' := hE
        rw [h, hp] at hE'
        unfold AscE at hE'
        rw [List.pairwise_append] at hE'
        exact hE'.2.2 y (by simp) x List.mem_cons_self
      simp only [E108, lt_mid h, at_mid h, eEntC, q79, q41, hat, no, b1, b2, mapOf, metGet _ _ hcm, metPut _ _ hcm, hlk, hw, bkT, hgt, hws, hprev, hlt, EVT, EVD, ↓reduceIte, Nat.reduceEqDiff, reduceCtorEq, Nat.reduceAdd, Nat.reduceLeDiff, ne_eq, Nat.reduceLT, Int.reduceLT, Int.reduceLE, Int.reduceNeg]
      exact hh
theorem c108 {t : Tree} {dep : Int → Nat} (hi : GInv t dep 0) (ht : Small t) {n : Node} {ni : Int} (hf : find t.nodes ni = some n) : acall tab 108 [.ptr 0 0, eNode n] [.cells [eNodes t.nodes, .int .i64 t.next, .int .i64 t.cookie]] = some (.bool true, [.cells [eNodes t.nodes, .int .i64 t.next, .int .i64 t.cookie]]) := by
  have hl : decide ((n.ents.length : Int) ≤ 64) = true := by have := hi.few hf; rw [decide_eq_true_eq]; omega
  have hlp := fun k r hx => loop108 hi ht hf (k := k) (r := r) hx n.ents [] rfl
  have e0 : eC [] = [] := rfl
  have e1 : eT [] = [] := rfl
  simp only [List.map_nil, e0, e1, eNodeC] at hlp
  refine acall_ex rfl rfl rfl ?_
  simp only [fn108, E108, eNode, eNodeC, EVT, EVD, ↓reduceIte, Nat.reduceEqDiff, reduceCtorEq, Nat.reduceAdd, Nat.reduceLeDiff, ne_eq, Nat.reduceLT, Int.reduceLT, Int.reduceLE, Int.reduceNeg]
  refine hlp _ _ (fun cs v q => ?_)
  simp only [E108, hl, EVT, EVD, ↓reduceIte, Nat.reduceEqDiff, reduceCtorEq, Nat.reduceAdd, Nat.reduceLeDiff, ne_eq, Nat.reduceLT, Int.reduceLT, Int.reduceLE, Int.reduceNeg]
theorem k108 {nodes : List Node} {next cookie : Int} {dep : Int → Nat} (hi : GInv ⟨nodes, next, cookie⟩ dep 0) (ht : Small ⟨nodes, next, cookie⟩) {n : Node} {ni : Int} (hf : find nodes ni = some n) (p : Nat) (M : AMem) (hM : nth M p = some (.cells [eNodes nodes, .int .i64 next, .int .i64 cookie])) :
    callOp (acall tab) 108 [.ptr p 0, .agg (eNodeC n)] M = some (.bool true, M) := by
  have := callOp1 hM (c108 hi ht hf) rfl rfl rfl rfl rfl rfl rfl rfl rfl rfl
  rwa [set_nth hM] at this
set_option maxHeartbeats 1000000 in
theorem c73 {t : Tree} {dep : Int → Nat} (hi : GInv t dep 0) (ht : Small t) {n : Node} {ni : Int} (hf : find t.nodes ni = some n) (many inn : Int) (hm : many = cnt t.nodes ni) (hin : n.kind = 2 → ni ≠ 1 → inn = n.up) :
    acall tab 73 [.ptr 0 0, eNode n, .int .i64 many, .int .i64 inn] [.cells [eNodes t.nodes, .int .i64 t.next, .int .i64 t.cookie]] = some (.bool true, [.cells [eNodes t.nodes, .int .i64 t.next, .int .i64 t.cookie]]) := by
  obtain ⟨nodes, next, cookie⟩ := t
  have hno : n.ino = ni := hi.ino hf
  have hl := hi.links _ _ hf
  rw [if_neg (by have := (hi.num _ _ hf).1; omega)] at hl
  have hl : n.links = (cnt nodes ni : Int) := by simpa using hl
  have hm : many = (cnt nodes ni : Int) := hm
  have hlm : (n.links == many) = true := by rw [hm, hl]; simp
  have q108 := fun a M => k108 hi ht hf 0 (.cells [eNodes nodes, .int .i64 next, .int .i64 cookie] :: a :: M) rfl
  have q44 := fun ino a M => k44 nodes next cookie ino hi.srt.asc ht.nodes 0 (.cells [eNodes nodes, .int .i64 next, .int .i64 cookie] :: a :: M) rfl
  simp only [eNodeC] at q108
  refine acall_ex rfl rfl rfl ?_
  rcases hi.kind _ _ hf with hk | hk
  · obtain ⟨f1, f2, f3⟩ := hi.file _ _ hf hk
    have b1 : (n.kind == 1) = true := by simp [hk]
    have b2 : ((n.ents.length : Int) == 0) = true := by rw [f1]; rfl
    have b3 : (n.up == 0) = true := by simp [f2]
    have b4 : decide ((n.data.length : Int) ≤ 4096) = true := by rw [decide_eq_true_eq]; omega
    simp only [fn73, E73, eNode, eNodeC, b1, b2, b3, b4, hlm, EVT, EVD, ↓reduceIte, Nat.reduceEqDiff, reduceCtorEq, Nat.reduceAdd, Nat.reduceLeDiff, ne_eq, Nat.reduceLT, Int.reduceLT, Int.reduceLE, Int.reduceNeg]
  · have hd := hi.dir _ _ hf hk
    have b1 : (n.kind == 1) = false := by simp [hk]
    have b2 : (n.kind != 2) = false := by simp [hk]
    have b3 : decide ((0 : Int) < (n.data.length : Int)) = false := by rw [hd]; simp
    by_cases h1 : ni = 1
    · subst h1
      obtain ⟨r, r1, r2, r3⟩ := hi.root
      have hrn : r = n := by simp only at r1 hf; rw [hf] at r1; injection r1 with r1; exact r1.symm
      subst hrn
      have c0 : cnt nodes 1 = 0 := by
        rcases Nat.eq_zero_or_pos (cnt nodes 1) with h0 | h0
        · exact h0
        · obtain ⟨m, e, e1, e2, e3⟩ := cnt_pos.1 h0
          exact absurd e3 (hi.ent _ _ e ((find_iff hi.srt.asc).2 ⟨e1, rfl⟩) e2).2.2.1
      have c1 : (r.ino == 1) = true := by simp [hno]
      have c2 : (r.up == 1) = true := by simp [r3]
      have c3 : (r.links == 0) = true := by simp [hl, c0]
      have c4 : (many == 0) = true := by simp [hm, c0]
      simp only [fn73, E73, eNode, eNodeC, b1, b2, b3, q108, c1, c2, c3, c4, EVT, EVD, ↓reduceIte, Nat.reduceEqDiff, reduceCtorEq, Nat.reduceAdd, Nat.reduceLeDiff, ne_eq, Nat.reduceLT, Int.reduceLT, Int.reduceLE, Int.reduceNeg]
    · have hl1 := hi.one _ _ hf hk h1
      have c1 : (n.ino == 1) = false := by rw [hno]; simpa using h1
      have c2 : (many != 1) = false := by simp; omega
      have c3 : (inn != n.up) = false := by simp [hin hk h1]
      have c4 : (n.links != 1) = false := by simp [hl1]
      have hul := hi.upsN_len hf hk
      have hlast := hi.upsN_last hf hk
      obtain ⟨dd1, dd2⟩ := hi.deep _ _ hf hk
      simp only at hul hlast
      have hw : IntKind.i64.wrap (((upsN nodes n.ino).length : Int) - 1) = (dep ni : Int) := by rw [hno, hul, wrap_small (by omega) (by omega)]; omega
      have hg : (upsN nodes n.ino)[dep ni]? = some 1 := by rw [hno]; exact hlast
      have w1 := wid_ints (upsN nodes n.ino)
      by_cases h12 : dep ni < 12
      · have d1 : decide ((dep ni : Int) < 12) = true := by rw [decide_eq_true_eq]; omega
        simp only [fn73, E73, eNode, eNodeC, b1, b2, b3, q108, c1, c2, c3, c4, q44, hw, hg, w1, d1, EVT, EVD, ↓reduceIte, Nat.reduceEqDiff, reduceCtorEq, Nat.reduceAdd, Nat.reduceLeDiff, ne_eq, Nat.reduceLT, Int.reduceLT, Int.reduceLE, Int.reduceNeg]
      · have d1 : decide ((dep ni : Int) < 12) = false := by rw [decide_eq_false_iff_not]; omega
        have d2 : ((dep ni : Int) == 12) = true := by rw [beq_iff_eq]; omega
        have d3 : ((n.ents.length : Int) == 0) = true := by rw [dd2 (by omega)]; rfl
        simp only [fn73, E73, eNode, eNodeC, b1, b2, b3, q108, c1, c2, c3, c4, q44, hw, hg, w1, d1, d2, d3, EVT, EVD, ↓reduceIte, Nat.reduceEqDiff, reduceCtorEq, Nat.reduceAdd, Nat.reduceLeDiff, ne_eq, Nat.reduceLT, Int.reduceLT, Int.reduceLE, Int.reduceNeg]
theorem k73 {nodes : List Node} {next cookie : Int} {dep : Int → Nat} (hi : GInv ⟨nodes, next, cookie⟩ dep 0) (ht : Small ⟨nodes, next, cookie⟩) {n : Node} {ni : Int} (hf : find nodes ni = some n) (many inn : Int) (hm : many = cnt nodes ni) (hin : n.kind = 2 → ni ≠ 1 → inn = n.up) (p : Nat) (M : AMem) (hM : nth M p = some (.cells [eNodes nodes, .int .i64 next, .int .i64 cookie])) :
    callOp (acall tab) 73 [.ptr p 0, .agg (eNodeC n), .int .i64 many, .int .i64 inn] M = some (.bool true, M) := by
  have := callOp1 hM (c73 hi ht hf many inn hm hin) rfl rfl rfl rfl rfl rfl rfl rfl rfl rfl
  rwa [set_nth hM] at this
theorem loop32a {nodes : List Node} {next cookie : Int} {dep : Int → Nat} (hi : GInv ⟨nodes, next, cookie⟩ dep 0) {B0 : List AVal} (hB : B0 = [eNodes nodes, .int .i64 next, .int .i64 cookie]) {k : List K} {r : Option (AVal × AMem)}
    (hx : ∀ v q, kr (acall tab) [.tmp 2] 0 k ⟨.exit 0, [(3, .ptr 1 0), (79, eNodes nodes), (80, .int .i64 nodes.length), (81, v), (82, q)], [.cells B0, .cells [eNodes nodes, .int .i64 next, .int .i64 cookie]]⟩ = r) :
    ∀ (l pre : List Node), nodes = pre ++ l → exK (acall tab) [.tmp 2] 0 k (.loop [3, 79, 80, 81] lb32_0) [(3, .ptr 1 0), (79, eNodes nodes), (80, .int .i64 nodes.length), (81, .int .i64 pre.length)] [.cells B0, .cells [eNodes nodes, .int .i64 next, .int .i64 cookie]] = r := by
  subst hB
  have hn : nodes.length ≤ 200 := hi.nodes
  intro l
  induction l with
  | nil =>
    intro pre h
    rw [exK_loop]
    simp only [E32, lt_end h, EVT, EVD, ↓reduceIte, Nat.reduceEqDiff, reduceCtorEq, Nat.reduceAdd, Nat.reduceLeDiff, ne_eq, Nat.reduceLT, Int.reduceLT, Int.reduceLE, Int.reduceNeg]
    exact hx _ _
  | cons x rest ih =>
    intro pre h
    rw [exK_loop]
    have hlen : pre.length + 1 ≤ 200 := by rw [h] at hn; simp at hn; omega
    have hw : IntKind.i64.wrap ((pre.length : Int) + 1) = ((pre ++ [x]).length : Int) := by rw [wrap_small (by omega) (by omega)]; exact step_len
    have hh := ih (pre ++ [x]) (by rw [h]; simp)
    simp only [List.length_append, List.length_cons, List.length_nil] at hh
    have hf : find nodes x.ino = some x := (find_iff hi.srt.asc).2 ⟨by rw [h]; simp, rfl⟩
    have b1 : decide (next ≤ x.ino) = false := by have := (hi.num _ _ hf).2; simp only at this; rw [decide_eq_false_iff_not]; omega
    have b2 : decide ((64 : Int) < (x.ents.length : Int)) = false := by have := hi.few hf; rw [decide_eq_false_iff_not]; omega
    rcases List.eq_nil_or_concat pre with hp | ⟨pre0, y, hp⟩
    · have hgt : decide ((0 : Int) < (pre.length : Int)) = false := by rw [hp]; simp
      simp only [E32, lt_mid h, at_mid h, eNodeC, hgt, b1, b2, hw, EVT, EVD, ↓reduceIte, Nat.reduceEqDiff, reduceCtorEq, Nat.reduceAdd, Nat.reduceLeDiff, ne_eq, Nat.reduceLT, Int.reduceLT, Int.reduceLE, Int.reduceNeg]
      exact hh
    · have hpl : (pre.length : Int) = (pre0.length : Int) + 1 := by rw [hp]; simp
      have hgt : decide ((0 : Int) < (pre.length : Int)) = true := by rw [decide_eq_true_eq]; omega
      have hws : IntKind.i64.wrap ((pre.length : Int) - 1) = (pre0.length : Int) := by rw [wrap_small (by omega) (by omega)]; omega
      have hprev : nodes[pre0.length]? = some y := by rw [h, hp]; simp
      have hlt : decide (x.ino ≤ y.ino) = false := by
        have hE' := hi.srt.asc
        simp only at hE'
        rw [h, hp] at hE'
        unfold Asc at hE'
        rw [List.pairwise_append] at hE'
        have := hE'.2.2 y (by simp) x List.mem_cons_self
        rw [decide_eq_false_iff_not]; omega
      simp only [E32, lt_mid h, at_mid h, eNodeC, hgt, b1, b2, hw, hws, hprev, hlt, EVT, EVD, ↓reduceIte, Nat.reduceEqDiff, reduceCtorEq, Nat.reduceAdd, Nat.reduceLeDiff, ne_eq, Nat.reduceLT, Int.reduceLT, Int.reduceLE, Int.reduceNeg]
      exact hh
theorem loop32b {nodes : List Node} {next cookie : Int} {dep : Int → Nat} (hi : GInv ⟨nodes, next, cookie⟩ dep 0) (ht : Small ⟨nodes, next, cookie⟩) {B0 : List AVal} (hB : B0 = [eNodes nodes, .int .i64 next, .int .i64 cookie]) {k : List K} {r : Option (AVal × AMem)}
    (hx : ∀ v q, kr (acall tab) [.tmp 2] 0 k ⟨.exit 2, [(3, .ptr 1 0), (6, .fmap (eK (countedN nodes).1) (eV (countedN nodes).1)), (7, .fmap (eK (countedN nodes).2) (eV (countedN nodes).2)), (129, eNodes nodes), (130, .int .i64 nodes.length), (131, v), (132, q)], [.cells B0, .cells [eNodes nodes, .int .i64 next, .int .i64 cookie]]⟩ = r) :
    ∀ (l pre : List Node), nodes = pre ++ l → exK (acall tab) [.tmp 2] 0 k (.loop [3, 6, 7, 129, 130, 131] lb32_1) [(3, .ptr 1 0), (6, .fmap (eK (countedN nodes).1) (eV (countedN nodes).1)), (7, .fmap (eK (countedN nodes).2) (eV (countedN nodes).2)), (129, eNodes nodes), (130, .int .i64 nodes.length), (131, .int .i64 pre.length)] [.cells B0, .cells [eNodes nodes, .int .i64 next, .int .i64 cookie]] = r := by
  subst hB
  have hn : nodes.length ≤ 200 := hi.nodes
  intro l
  induction l with
  | nil =>
    intro pre h
    rw [exK_loop]
    simp only [E32, lt_end h, EVT, EVD, ↓reduceIte, Nat.reduceEqDiff, reduceCtorEq, Nat.reduceAdd, Nat.reduceLeDiff, ne_eq, Nat.reduceLT, Int.reduceLT, Int.reduceLE, Int.reduceNeg]
    exact hx _ _
  | cons x rest ih =>
    intro pre h
    rw [exK_loop]
    have hlen : pre.length + 1 ≤ 200 := by rw [h] at hn; simp at hn; omega
    have hw : IntKind.i64.wrap ((pre.length : Int) + 1) = ((pre ++ [x]).length : Int) := by rw [wrap_small (by omega) (by omega)]; exact step_len
    have hh := ih (pre ++ [x]) (by rw [h]; simp)
    simp only [List.length_append, List.length_cons, List.length_nil] at hh
    have hf : find nodes x.ino = some x := (find_iff hi.srt.asc).2 ⟨by rw [h]; simp, rfl⟩
    have q73 := fun a b M => k73 hi ht hf _ _ (counted_many nodes x.ino (Nat.le_trans (hi.cnt_lt x.ino) (by omega))) (fun hk h1 => by
      have := hi.counted_in hf hk h1
      simp only at this
      show (aget (countedN nodes).2 x.ino).getD 0 = x.up
      rw [this]; rfl) 1 (a :: .cells [eNodes nodes, .int .i64 next, .int .i64 cookie] :: b :: M) rfl
    simp only [eNodeC] at q73
    simp only [E32, lt_mid h, at_mid h, eNodeC, mapOf, mapGet_eq, lookI, q73, hw, EVT, EVD, ↓reduceIte, Nat.reduceEqDiff, reduceCtorEq, Nat.reduceAdd, Nat.reduceLeDiff, ne_eq, Nat.reduceLT, Int.reduceLT, Int.reduceLE, Int.reduceNeg]
    exact hh
theorem GInv.first {t : Tree} {dep : Int → Nat} (h : GInv t dep 0) : ∃ r rest, t.nodes = r :: rest ∧ r.ino = 1 ∧ r.kind = 2 := by
  obtain ⟨r, r1, r2, _⟩ := h.root
  cases hn : t.nodes with
  | nil => rw [hn] at r1; cases r1
  | cons x l =>
    refine ⟨x, l, rfl, ?_⟩
    have hxf : find t.nodes x.ino = some x := (find_iff h.srt.asc).2 ⟨by rw [hn]; exact List.mem_cons_self, rfl⟩
    obtain ⟨q1, q2⟩ := find_mem r1
    rw [hn] at q1
    rcases List.mem_cons.1 q1 with rfl | q1
    · exact ⟨q2, r2⟩
    · have hp := h.srt.asc
      rw [hn] at hp
      have := (List.pairwise_cons.1 hp).1 r q1
      have := (h.num _ _ hxf).1
      omega
set_option maxHeartbeats 1000000 in
theorem c32 {t : Tree} {dep : Int → Nat} (hi : GInv t dep 0) (ht : Small t) : acall tab 32 [eTree t] [] = some (.bool true, []) := by
  obtain ⟨nodes, next, cookie⟩ := t
  obtain ⟨r, rest, r1, r2, r3⟩ := hi.first
  simp only at r1
  have hn : nodes.length ≤ 200 := hi.nodes
  have hl1 : 1 ≤ nodes.length := by rw [r1]; simp
  have b1 : decide ((nodes.length : Int) < 1) = false := by rw [decide_eq_false_iff_not]; omega
  have b2 : decide ((200 : Int) < (nodes.length : Int)) = false := by rw [decide_eq_false_iff_not]; omega
  have h0 : nodes[0]? = some r := by rw [r1]; rfl
  have b3 : (r.ino != 1) = false := by simp [r2]
  have b4 : (r.kind != 2) = false := by simp [r3]
  have b5 : decide ((1099511627776 : Int) < next) = false := by have := hi.next; simp only at this; rw [decide_eq_false_iff_not]; omega
  have b6 : decide (cookie < 1) = false := by have := hi.cookie; simp only at this; rw [decide_eq_false_iff_not]; omega
  have b7 : decide ((1099511627776 : Int) < cookie) = false := by have := hi.cookie; simp only at this; rw [decide_eq_false_iff_not]; omega
  have hla := fun k r hx => loop32a hi rfl (k := k) (r := r) hx nodes [] rfl
  have hlb := fun k r hx => loop32b hi ht rfl (k := k) (r := r) hx nodes [] rfl
  have q72 := fun a M => k72 nodes next cookie ht.nodes ht.ents 1 (a :: .cells [eNodes nodes, .int .i64 next, .int .i64 cookie] :: M) rfl
  have hz0 : Int.toNat 0 = 0 := rfl
  refine acall_ex rfl rfl rfl ?_
  simp only [fn32, E32, eTree, eTreeC, b1, b2, h0, hz0, eNodeC, b3, b4, b5, b6, b7, Int.le_refl, EVT, EVD, ↓reduceIte, Nat.reduceEqDiff, reduceCtorEq, Nat.reduceAdd, Nat.reduceLeDiff, ne_eq, Nat.reduceLT, Int.reduceLT, Int.reduceLE, Int.reduceNeg]
  refine hla _ _ (fun v q => ?_)
  simp only [E32, q72, EVT, EVD, ↓reduceIte, Nat.reduceEqDiff, reduceCtorEq, Nat.reduceAdd, Nat.reduceLeDiff, ne_eq, Nat.reduceLT, Int.reduceLT, Int.reduceLE, Int.reduceNeg]
  refine hlb _ _ (fun v q => ?_)
  simp only [E32, EVT, EVD, ↓reduceIte, Nat.reduceEqDiff, reduceCtorEq, Nat.reduceAdd, Nat.reduceLeDiff, ne_eq, Nat.reduceLT, Int.reduceLT, Int.reduceLE, Int.reduceNeg]
theorem k32 {nodes : List Node} {next cookie : Int} {dep : Int → Nat} (hi : GInv ⟨nodes, next, cookie⟩ dep 0) (ht : Small ⟨nodes, next, cookie⟩) (M : AMem) : callOp (acall tab) 32 [.agg [eNodes nodes, .int .i64 next, .int .i64 cookie]] M = some (.bool true, M) := callOp0 (c32 hi ht) rfl rfl rfl rfl rfl M
end Go.Proofs.YtnapockikkbkcaaGreat
set_option linter.defProp false
namespace Go.Proofs.YtnapockikkbkcaaGreat
open Go Go.Abs
def q20_0 : ACode :=
 (.seq (.region [
 ob 4 (.mv (.cst (.bool false)))] false [4]) (.ret))
def q20_1 : ACode :=
 (.seq (.region [
 ob 40 (.faddr 4 (.tmp 2)),
 ob 41 (.load1 (.tmp 40)),
 ob 42 (.faddr 4 (.tmp 3)),
 ob 43 (.load1 (.tmp 42)),
 ob 44 (.call 21 [(.tmp 41), (.tmp 43)]),
 ob 4 (.mv (.tmp 44))] false [4]) (.ret))
def q20_2 : ACode :=
 (.seq (.seq (.region [
 ob 5 (.faddr 0 (.tmp 2)),
 ob 6 (.load1 (.tmp 5)),
 ob 7 (.faddr 0 (.tmp 3)),
 ob 8 (.load1 (.tmp 7)),
 ob 9 (.bin .neq (.tmp 6) (.tmp 8)),
 ob 10 (.mv (.tmp 9)),
 og 11 10 false (.faddr 1 (.tmp 2)),
 og 12 10 false (.load1 (.tmp 11)),
 og 13 10 false (.faddr 1 (.tmp 3)),
 og 14 10 false (.load1 (.tmp 13)),
 og 15 10 false (.bin .neq (.tmp 12) (.tmp 14)),
 ob 16 (.pick (.tmp 10) (.cst (.bool true)) (.tmp 15)),
 ob 17 (.mv (.tmp 16)),
 og 18 17 false (.faddr 2 (.tmp 2)),
 og 19 17 false (.load1 (.tmp 18)),
 og 20 17 false (.faddr 2 (.tmp 3)),
 og 21 17 false (.load1 (.tmp 20)),
 og 22 17 false (.bin .neq (.tmp 19) (.tmp 21)),
 ob 23 (.pick (.tmp 17) (.cst (.bool true)) (.tmp 22)),
 ob 24 (.mv (.tmp 23)),
 og 25 24 false (.faddr 5 (.tmp 2)),
 og 26 24 false (.load1 (.tmp 25)),
 og 27 24 false (.faddr 5 (.tmp 3)),
 og 28 24 false (.load1 (.tmp 27)),
 og 29 24 false (.bin .neq (.tmp 26) (.tmp 28)),
 ob 30 (.pick (.tmp 24) (.cst (.bool true)) (.tmp 29)),
 ob 31 (.mv (.tmp 30)),
 og 32 31 false (.faddr 3 (.tmp 2)),
 og 33 31 false (.load1 (.tmp 32)),
 og 34 31 false (.b2s (.tmp 33)),
 og 35 31 false (.faddr 3 (.tmp 3)),
 og 36 31 false (.load1 (.tmp 35)),
 og 37 31 false (.b2s (.tmp 36)),
 og 38 31 false (.bin .neq (.tmp 34) (.tmp 37)),
 ob 39 (.pick (.tmp 31) (.cst (.bool true)) (.tmp 38))] false [2, 3, 39]) (.cond (.tmp 39) q20_0 (.skip))) q20_1)
def E20 := And.intro (exK_head q20_0.eq_1) (And.intro (exK_head q20_1.eq_1) (exK_head q20_2.eq_1))
def ann20 : Ann := { n := 45, own := [], lv := [(0, [2, 3]), (1, [2, 3, 39]), (2, [4]), (3, [4])], lp := [] }
def fn20 : AFn := AFn.mk 2 [.tmp 4]
  (.seq (.region [
  ob 2 (.box (.tmp 0)),
  ob 3 (.box (.tmp 1)),
  ob 4 (.mv (.cst (.bool false)))] false [2, 3]) q20_2)
theorem ok20 : compFn Tryz.prog ann20 Tryz.f20 = some fn20 := by kernel_rfl
def q21_0 : ACode :=
 (.seq (.region [
 ob 4 (.mv (.cst (.bool false)))] false [4]) (.ret))
def q21_1 : ACode :=
 (.seq (.region [
 ob 4 (.mv (.cst (.bool false)))] false [4]) (.ret))
def q21_2 : ACode :=
 (.region [
 ob 15 (.mv (.tmp 5)),
 ob 16 (.bin .add (.tmp 15) (.cst (.int .i64 1))),
 ob 5 (.mv (.tmp 16))] false [0, 1, 5])
def q21_3 : ACode :=
 (.seq (.block 1 (.seq (.region [
 ob 17 (.mv (.tmp 0)),
 ob 18 (.mv (.tmp 5)),
 ob 19 (.iaddr 3 (.tmp 17) (.tmp 18)),
 ob 20 (.loadA 3 (.tmp 19)),
 ob 21 (.mv (.tmp 1)),
 ob 22 (.mv (.tmp 5)),
 ob 23 (.iaddr 3 (.tmp 21) (.tmp 22)),
 ob 24 (.loadA 3 (.tmp 23)),
 ob 25 (.eqA [.s, .i, .i] true (.tmp 20) (.tmp 24))] true [0, 1, 5, 25]) (.cond (.tmp 25) q21_1 (.skip)))) q21_2)
def lb21_0 : ACode :=
 (.seq (.seq (.region [
 ob 11 (.mv (.tmp 5)),
 ob 12 (.mv (.tmp 0)),
 ob 13 (.lenV (.tmp 12)),
 ob 14 (.bin .lss (.tmp 11) (.tmp 13))] false [0, 1, 5, 14]) (.cond (.tmp 14) (.skip) (.exit 0))) q21_3)
def q21_4 : ACode :=
 (.seq (.region [
 ob 4 (.mv (.cst (.bool true)))] false [4]) (.ret))
def q21_5 : ACode :=
 (.seq (.seq (.region [
 ob 5 (.mv (.cst (.int .i64 0)))] false [0, 1, 5]) (.block 0 (.loop [0, 1, 5] lb21_0))) q21_4)
def q21_6 : ACode :=
 (.seq (.seq (.region [
 ob 6 (.mv (.tmp 0)),
 ob 7 (.lenV (.tmp 6)),
 ob 8 (.mv (.tmp 1)),
 ob 9 (.lenV (.tmp 8)),
 ob 10 (.bin .neq (.tmp 7) (.tmp 9))] false [0, 1, 10]) (.cond (.tmp 10) q21_0 (.skip))) q21_5)
def E21 := And.intro (exK_head q21_0.eq_1) (And.intro (exK_head q21_1.eq_1) (And.intro (exK_head q21_2.eq_1) (And.intro (exK_head q21_3.eq_1) (And.intro (exK_head lb21_0.eq_1) (And.intro (exK_head q21_4.eq_1) (And.intro (exK_head q21_5.eq_1) (exK_head q21_6.eq_1)))))))
def ann21 : Ann := { n := 26, own := [], lv := [(0, [0, 1]), (1, [0, 1, 10]), (2, [4]), (3, [0, 1, 5]), (4, [0, 1, 5, 14]), (5, [0, 1, 5]), (6, [0, 1, 5, 25]), (7, [4]), (8, [4])], lp := [(4, [0, 1, 5])] }
def fn21 : AFn := AFn.mk 2 [.tmp 4]
  (.seq (.region [
  ob 4 (.mv (.cst (.bool false)))] false [0, 1]) q21_6)
theorem ok21 : compFn Tryz.prog ann21 Tryz.f21 = some fn21 := by kernel_rfl
end Go.Proofs.YtnapockikkbkcaaGreat
namespace Go.Proofs.YtnapockikkbkcaaGreat
open Go Go.Abs
attribute [local irreducible] exK opsK opK gK forkK kr acall callOp owhen obind
variable {T : Tab}
theorem loop21 {a b : List Ent} (ha : a.length ≤ 100000) {k : List K} {R : Bool → Option (AVal × AMem)}
    (hx : ∀ e, kr (acall T) [.tmp 4] 0 k ⟨.exit 0, e, []⟩ = R true) (hr : kr (acall T) [.tmp 4] 0 k ⟨.ret, [(4, .bool false)], []⟩ = R false) :
    ∀ (l m pre pre' : List Ent), a = pre ++ l → b = pre' ++ m → pre.length = pre'.length → l.length = m.length → exK (acall T) [.tmp 4] 0 k (.loop [0, 1, 5] lb21_0) [(0, eEnts a), (1, eEnts b), (5, .int .i64 pre.length)] [] = R (decide (l = m)) := by
  intro l
  induction l with
  | nil =>
    intro m pre pre' h h' hp hl
    have hm : m = [] := List.length_eq_zero_iff.1 hl.symm
    subst hm
    rw [exK_loop]
    simp only [E21, lt_end h, EVT, EVD, ↓reduceIte, Nat.reduceEqDiff, reduceCtorEq, Nat.reduceAdd, Nat.reduceLeDiff, ne_eq, Nat.reduceLT, Int.reduceLT, Int.reduceLE, Int.reduceNeg]
    exact hx _
  | cons n r ih =>
    intro m pre pre' h h' hp hl
    cases m with
    | nil => cases hl
    | cons n' m =>
    rw [exK_loop]
    have hlen : pre.length + 1 ≤ 100000 := by rw [h] at ha; simp at ha; omega
    have hw : IntKind.i64.wrap ((pre.length : Int) + 1) = ((pre ++ [n]).length : Int) := by rw [wrap_small (by omega) (by omega)]; exact step_len
    have hi := ih m (pre ++ [n]) (pre' ++ [n']) (by rw [h]; simp) (by rw [h']; simp) (by simp [hp]) (by simpa using hl)
    have ha2 : b[pre.length]? = some n' := by rw [hp]; exact at_mid h'
    have hdc : decide (n :: r = n' :: m) = (decide (n = n') && decide (r = m)) := by
      rw [Bool.eq_iff_iff]; simp
    rw [hdc]
    simp only [List.length_append, List.length_cons, List.length_nil] at hi
    simp only [E21, lt_mid h, at_mid h, ha2, tkE, shE, eqEnt, allE, EVT, EVD, ↓reduceIte, Nat.reduceEqDiff, reduceCtorEq, Nat.reduceAdd, Nat.reduceLeDiff, ne_eq, Nat.reduceLT, Int.reduceLT, Int.reduceLE, Int.reduceNeg]
    refine fork_split (fun hb => ?_) (fun hb => ?_)
    · have hb' : decide (n = n') = false := by simpa using hb
      simp only [E21, hb', Bool.false_and, EVT, EVD, ↓reduceIte, Nat.reduceEqDiff, reduceCtorEq, Nat.reduceAdd, Nat.reduceLeDiff, ne_eq, Nat.reduceLT, Int.reduceLT, Int.reduceLE, Int.reduceNeg]
      exact hr
    · have hb' : decide (n = n') = true := by simpa using hb
      simp only [E21, hb', Bool.true_and, hw, EVT, EVD, ↓reduceIte, Nat.reduceEqDiff, reduceCtorEq, Nat.reduceAdd, Nat.reduceLeDiff, ne_eq, Nat.reduceLT, Int.reduceLT, Int.reduceLE, Int.reduceNeg]
      exact hi
theorem c21 (hp : T.prim 21 = none) (hc : T.code 21 = some fn21) (a b : List Ent) (ha : a.length ≤ 100000) : acall T 21 [eEnts a, eEnts b] [] = some (.bool (decide (a = b)), []) := by
  refine acall_ex hp hc rfl ?_
  simp only [fn21, E21, EVT, EVD, ↓reduceIte, Nat.reduceEqDiff, reduceCtorEq, Nat.reduceAdd, Nat.reduceLeDiff, ne_eq, Nat.reduceLT, Int.reduceLT, Int.reduceLE, Int.reduceNeg]
  refine fork_split (fun hb => ?_) (fun hb => ?_)
  · have : decide (a = b) = false := by
      simp at hb ⊢
      rintro rfl; exact hb rfl
    simp only [E21, this, EVT, EVD, ↓reduceIte, Nat.reduceEqDiff, reduceCtorEq, Nat.reduceAdd, Nat.reduceLeDiff, ne_eq, Nat.reduceLT, Int.reduceLT, Int.reduceLE, Int.reduceNeg]
  · simp only [E21, EVT, EVD, ↓reduceIte, Nat.reduceEqDiff, reduceCtorEq, Nat.reduceAdd, Nat.reduceLeDiff, ne_eq, Nat.reduceLT, Int.reduceLT, Int.reduceLE, Int.reduceNeg]
    exact loop21 (R := fun z => some (.bool z, [])) ha (fun e => by simp only [E21, EVT, EVD, ↓reduceIte, Nat.reduceEqDiff, reduceCtorEq, Nat.reduceAdd, Nat.reduceLeDiff, ne_eq, Nat.reduceLT, Int.reduceLT, Int.reduceLE, Int.reduceNeg]) (by simp only [E21, EVT, EVD, ↓reduceIte, Nat.reduceEqDiff, reduceCtorEq, Nat.reduceAdd, Nat.reduceLeDiff, ne_eq, Nat.reduceLT, Int.reduceLT, Int.reduceLE, Int.reduceNeg]) a b [] [] rfl rfl rfl (by simp at hb; omega)
theorem k21 (hp : T.prim 21 = none) (hc : T.code 21 = some fn21) (a b : List Ent) (ha : a.length ≤ 100000) (M : AMem) : callOp (acall T) 21 [eEnts a, eEnts b] M = some (.bool (decide (a = b)), M) := callOp0 (c21 hp hc a b ha) rfl rfl rfl rfl rfl M
theorem c20 (hp : T.prim 21 = none) (hc : T.code 21 = some fn21) (hp' : T.prim 20 = none) (hc' : T.code 20 = some fn20) (x y : Node) (hx : x.ents.length ≤ 100000) : acall T 20 [eNode x, eNode y] [] = some (.bool (decide (x = y)), []) := by
  rw [nodeB]
  have hk := fun M => k21 hp hc x.ents y.ents hx M
  refine acall_ex hp' hc' rfl ?_
  simp only [fn20, E20, eNode, eNodeC, EVT, EVD, ↓reduceIte, Nat.reduceEqDiff, reduceCtorEq, Nat.reduceAdd, Nat.reduceLeDiff, ne_eq, Nat.reduceLT, Int.reduceLT, Int.reduceLE, Int.reduceNeg]
  repeat' (first | (refine fork_split (fun hb => ?_) (fun hb => ?_) <;> simp only [hb, E20, hk, bytes_of, EVT, EVD, ↓reduceIte, Nat.reduceEqDiff, reduceCtorEq, Nat.reduceAdd, Nat.reduceLeDiff, ne_eq, Nat.reduceLT, Int.reduceLT, Int.reduceLE, Int.reduceNeg]) | (refine guard_split (fun hb => ?_) (fun hb => ?_) <;> simp only [hb, E20, hk, bytes_of, EVT, EVD, ↓reduceIte, Nat.reduceEqDiff, reduceCtorEq, Nat.reduceAdd, Nat.reduceLeDiff, ne_eq, Nat.reduceLT, Int.reduceLT, Int.reduceLE, Int.reduceNeg]) | (refine opK_pick (fun hb => ?_) (fun hb => ?_) <;> simp only [hb, E20, hk, bytes_of, EVT, EVD, ↓reduceIte, Nat.reduceEqDiff, reduceCtorEq, Nat.reduceAdd, Nat.reduceLeDiff, ne_eq, Nat.reduceLT, Int.reduceLT, Int.reduceLE, Int.reduceNeg]))
  all_goals clear hk
  all_goals simp_all [bne]
theorem k20 (hp : T.prim 21 = none) (hc : T.code 21 = some fn21) (hp' : T.prim 20 = none) (hc' : T.code 20 = some fn20) (x y : Node) (hx : x.ents.length ≤ 100000) (M : AMem) : callOp (acall T) 20 [.agg (eNodeC x), .agg (eNodeC y)] M = some (.bool (decide (x = y)), M) := callOp0 (c20 hp hc hp' hc' x y hx) rfl rfl rfl rfl rfl M
end Go.Proofs.YtnapockikkbkcaaGreat
set_option linter.defProp false
namespace Go.Proofs.YtnapockikkbkcaaGreat
open Go Go.Abs
def q8_0 : ACode :=
 (.seq (.region [
 ob 19 (.mv (.tmp 5)),
 ob 4 (.mv (.tmp 19))] false [4]) (.ret))
def q8_1 : ACode :=
 (.seq (.region [
 ob 4 (.mv (.cst (.bool false)))] false [4]) (.ret))
def q8_2 : ACode :=
 (.seq (.region [
 ob 37 (.mv (.tmp 5)),
 ob 38 (.mv (.tmp 37)),
 og 39 38 true (.mv (.tmp 9)),
 og 40 38 true (.bin .eql (.tmp 39) (.cst (.int .i64 0))),
 og 41 38 true (.mv (.tmp 40)),
 og 42 41 false (.loadA 3 (.tmp 6)),
 og 43 41 false (.loadA 3 (.tmp 7)),
 og 44 41 false (.call 33 [(.tmp 42), (.tmp 43)]),
 og 45 41 false (.mv (.tmp 44)),
 og 46 45 true (.mv (.tmp 8)),
 og 47 45 true (.bin .eql (.tmp 46) (.cst (.int .i64 0))),
 og 48 41 false (.pick (.tmp 45) (.tmp 47) (.cst (.bool false))),
 og 49 38 true (.pick (.tmp 41) (.cst (.bool true)) (.tmp 48)),
 ob 50 (.pick (.tmp 38) (.tmp 49) (.cst (.bool false))),
 ob 4 (.mv (.tmp 50))] false [4]) (.ret))
def q8_3 : ACode :=
 (.seq (.seq (.region [
 ob 29 (.loadA 3 (.tmp 6)),
 ob 30 (.call 32 [(.tmp 29)]),
 ob 31 (.not (.tmp 30)),
 ob 32 (.mv (.tmp 31)),
 og 33 32 false (.loadA 3 (.tmp 7)),
 og 34 32 false (.call 32 [(.tmp 33)]),
 og 35 32 false (.not (.tmp 34)),
 ob 36 (.pick (.tmp 32) (.cst (.bool true)) (.tmp 35))] false [5, 6, 7, 8, 9, 36]) (.cond (.tmp 36) q8_1 (.skip))) q8_2)
def q8_4 : ACode :=
 (.seq (.region [
 ob 23 (.loadA 3 (.tmp 6)),
 ob 24 (.loadA 6 (.tmp 3)),
 ob 25 (.call 31 [(.tmp 23), (.tmp 24)]),
 ob 22 (.mv (.tmp 25)),
 ob 26 (.extract (.tmp 22) 0),
 ob 27 (.extract (.tmp 22) 1),
 ob 28 (.extract (.tmp 22) 2),
 ob 7 (.box0 [(.slice .c0 []), (.int .i64 0), (.int .i64 0)]),
 ox (.store 3 (.tmp 7) (.tmp 26)),
 ob 8 (.mv (.tmp 27)),
 ob 9 (.mv (.tmp 28))] false [5, 6, 7, 8, 9]) q8_3)
def q8_5 : ACode :=
 (.seq (.region [
 ob 20 (.mv (.tmp 0)),
 ob 21 (.call 13 [(.tmp 20)]),
 ob 6 (.box0 [(.slice .c0 []), (.int .i64 0), (.int .i64 0)]),
 ox (.store 3 (.tmp 6) (.tmp 21))] false [3, 5, 6]) q8_4)
def q8_6 : ACode :=
 (.seq (.seq (.region [
 ob 11 (.mv (.tmp 0)),
 ob 12 (.call 12 [(.tmp 11)]),
 ob 13 (.mv (.tmp 12)),
 og 14 13 false (.faddr 5 (.tmp 3)),
 og 15 13 false (.load1 (.tmp 14)),
 og 16 13 false (.lenV (.tmp 15)),
 og 17 13 false (.bin .gtr (.tmp 16) (.cst (.int .i64 5000))),
 ob 18 (.pick (.tmp 13) (.cst (.bool true)) (.tmp 17))] false [0, 3, 5, 18]) (.cond (.tmp 18) q8_0 (.skip))) q8_5)
def q8_7 : ACode :=
 (.seq (.region [
 ob 10 (.call 11 []),
 ob 5 (.mv (.tmp 10))] false [0, 3, 5]) q8_6)
def E8 := And.intro (exK_head q8_0.eq_1) (And.intro (exK_head q8_1.eq_1) (And.intro (exK_head q8_2.eq_1) (And.intro (exK_head q8_3.eq_1) (And.intro (exK_head q8_4.eq_1) (And.intro (exK_head q8_5.eq_1) (And.intro (exK_head q8_6.eq_1) (exK_head q8_7.eq_1)))))))
def ann8 : Ann := { n := 51, own := [], lv := [(0, [0, 3]), (1, [0, 3, 5]), (2, [0, 3, 5, 18]), (3, [4]), (4, [3, 5, 6]), (5, [5, 6, 7, 8, 9]), (6, [5, 6, 7, 8, 9, 36]), (7, [4]), (8, [4])], lp := [] }
def fn8 : AFn := AFn.mk 2 [.tmp 4]
  (.seq (.region [
  ob 3 (.box (.tmp 1)),
  ob 4 (.mv (.cst (.bool false)))] false [0, 3]) q8_7)
theorem ok8 : compFn Tryz.prog ann8 Tryz.f8 = some fn8 := by kernel_rfl
def q33_0 : ACode :=
 (.seq (.region [
 ob 5 (.faddr 1 (.tmp 2)),
 ob 6 (.load1 (.tmp 5)),
 ob 7 (.faddr 1 (.tmp 3)),
 ob 8 (.load1 (.tmp 7)),
 ob 9 (.bin .eql (.tmp 6) (.tmp 8)),
 ob 10 (.mv (.tmp 9)),
 og 11 10 true (.faddr 2 (.tmp 2)),
 og 12 10 true (.load1 (.tmp 11)),
 og 13 10 true (.faddr 2 (.tmp 3)),
 og 14 10 true (.load1 (.tmp 13)),
 og 15 10 true (.bin .eql (.tmp 12) (.tmp 14)),
 ob 16 (.pick (.tmp 10) (.tmp 15) (.cst (.bool false))),
 ob 17 (.mv (.tmp 16)),
 og 18 17 true (.faddr 0 (.tmp 2)),
 og 19 17 true (.load1 (.tmp 18)),
 og 20 17 true (.faddr 0 (.tmp 3)),
 og 21 17 true (.load1 (.tmp 20)),
 og 22 17 true (.call 74 [(.tmp 19), (.tmp 21)]),
 ob 23 (.pick (.tmp 17) (.tmp 22) (.cst (.bool false))),
 ob 4 (.mv (.tmp 23))] false [4]) (.ret))
def E33 := exK_head q33_0.eq_1
def ann33 : Ann := { n := 24, own := [], lv := [(0, [2, 3]), (1, [4])], lp := [] }
def fn33 : AFn := AFn.mk 2 [.tmp 4]
  (.seq (.region [
  ob 2 (.box (.tmp 0)),
  ob 3 (.box (.tmp 1)),
  ob 4 (.mv (.cst (.bool false)))] false [2, 3]) q33_0)
theorem ok33 : compFn Tryz.prog ann33 Tryz.f33 = some fn33 := by kernel_rfl
def q74_0 : ACode :=
 (.seq (.region [
 ob 4 (.mv (.cst (.bool false)))] false [4]) (.ret))
def q74_1 : ACode :=
 (.seq (.region [
 ob 4 (.mv (.cst (.bool false)))] false [4]) (.ret))
def q74_2 : ACode :=
 (.region [
 ob 15 (.mv (.tmp 5)),
 ob 16 (.bin .add (.tmp 15) (.cst (.int .i64 1))),
 ob 5 (.mv (.tmp 16))] false [0, 1, 5])
def q74_3 : ACode :=
 (.seq (.block 1 (.seq (.region [
 ob 17 (.mv (.tmp 0)),
 ob 18 (.mv (.tmp 5)),
 ob 19 (.iaddr 6 (.tmp 17) (.tmp 18)),
 ob 20 (.loadA 6 (.tmp 19)),
 ob 21 (.mv (.tmp 1)),
 ob 22 (.mv (.tmp 5)),
 ob 23 (.iaddr 6 (.tmp 21) (.tmp 22)),
 ob 24 (.loadA 6 (.tmp 23)),
 ob 25 (.call 20 [(.tmp 20), (.tmp 24)]),
 ob 26 (.not (.tmp 25))] true [0, 1, 5, 26]) (.cond (.tmp 26) q74_1 (.skip)))) q74_2)
def lb74_0 : ACode :=
 (.seq (.seq (.region [
 ob 11 (.mv (.tmp 5)),
 ob 12 (.mv (.tmp 0)),
 ob 13 (.lenV (.tmp 12)),
 ob 14 (.bin .lss (.tmp 11) (.tmp 13))] false [0, 1, 5, 14]) (.cond (.tmp 14) (.skip) (.exit 0))) q74_3)
def q74_4 : ACode :=
 (.seq (.region [
 ob 4 (.mv (.cst (.bool true)))] false [4]) (.ret))
def q74_5 : ACode :=
 (.seq (.seq (.region [
 ob 5 (.mv (.cst (.int .i64 0)))] false [0, 1, 5]) (.block 0 (.loop [0, 1, 5] lb74_0))) q74_4)
def q74_6 : ACode :=
 (.seq (.seq (.region [
 ob 6 (.mv (.tmp 0)),
 ob 7 (.lenV (.tmp 6)),
 ob 8 (.mv (.tmp 1)),
 ob 9 (.lenV (.tmp 8)),
 ob 10 (.bin .neq (.tmp 7) (.tmp 9))] false [0, 1, 10]) (.cond (.tmp 10) q74_0 (.skip))) q74_5)
def E74 := And.intro (exK_head q74_0.eq_1) (And.intro (exK_head q74_1.eq_1) (And.intro (exK_head q74_2.eq_1) (And.intro (exK_head q74_3.eq_1) (And.intro (exK_head lb74_0.eq_1) (And.intro (exK_head q74_4.eq_1) (And.intro (exK_head q74_5.eq_1) (exK_head q74_6.eq_1)))))))
def ann74 : Ann := { n := 27, own := [], lv := [(0, [0, 1]), (1, [0, 1, 10]), (2, [4]), (3, [0, 1, 5]), (4, [0, 1, 5, 14]), (5, [0, 1, 5]), (6, [0, 1, 5, 26]), (7, [4]), (8, [4])], lp := [(4, [0, 1, 5])] }
def fn74 : AFn := AFn.mk 2 [.tmp 4]
  (.seq (.region [
  ob 4 (.mv (.cst (.bool false)))] false [0, 1]) q74_6)
theorem ok74 : compFn Tryz.prog ann74 Tryz.f74 = some fn74 := by kernel_rfl
end Go.Proofs.YtnapockikkbkcaaGreat
namespace Go.Proofs.YtnapockikkbkcaaGreat
open Go Go.Abs Go.ChangeShapes Go.WideShapes Go.RowKit Go.Deep
set_option maxRecDepth 100000 in
theorem treeRight_lifted {T : Tab} (hT : SoundC Tryz.prog (acall T)) (K : ∀ (x0 : List Step) (x1 : Step), (∀ s, s ∈ x0 → stepOk s) → stepOk x1 → acall T 8 [eSteps x0, eStep x1] [] = some (.bool true, []))
    (os : Os) (started : os.Started) (H : Type) (enc : TypeId × Value → H) :
    ReturnsInHanded {} Tryz.checked os 8 .any (Rows.treeRightSpec.pre6 enc Tryz.prog Tryz.f8 Rows.treeRightRow.domain false) (Rows.treeRightSpec.post enc Tryz.prog Tryz.f8 false Rows.treeRightRow.fresh Rows.treeRightRow.handsOn Rows.treeRightRow.again) := by
  refine returnsInHanded_of_change (C := Tryz.checked) ownK started (by kernel_rfl) Tryz.func8
    (ChangeSpec.witness6 (enc := enc) (C := Tryz.checked) false ⟨#[], #[.slice none 0 0, .agg #[.int .u8 0, .int .u8 0, .int .u8 0, .int .u8 0, .int .u8 0, .slice none 0 0]], []⟩ 8 (by kernel_rfl) (by kernel_rfl) (by kernel_rfl) (by kernel_rfl)) ?_
  intro W base args ds gs before hval0 hW _ _
  have hval : ∀ (j : Nat) t v, Tryz.f8.params[j]? = some t → args[j]? = some v → Value.okWide Tryz.prog W .any base t v := hval0
  have hW' := hW
  obtain ⟨p, q, hA0, hV, rfl, _, _⟩ := hW
  have hA : DataW.TrodAll enc Tryz.prog W 0 (fun _ => true) true Tryz.f8.params.toList args.toList ds p := hA0
  have hA1 := hA
  rw [Tryz.params8] at hA hval
  obtain ⟨v0, vs1, d0, ds1, p0, q0, hvs0, rfl, rfl, h0, hA⟩ := trodAll_cons hA
  obtain ⟨v1, vs2, d1, ds2, p1, q1, rfl, rfl, rfl, h1, hA⟩ := trodAll_cons hA
  obtain ⟨rfl, rfl, rfl⟩ := trodAll_nil hA
  obtain rfl := two_of hvs0
  obtain ⟨rfl, rfl⟩ := trodVars_none hV
  obtain ⟨m0, l0, r0⟩ := steps_rep h0 (steps_cells Tryz.underlying22 (hval 0 22 _ rfl rfl))
  obtain ⟨m1, l1, r1⟩ := step_val h1 (hval 1 52 _ rfl rfl)
  have hlt : ∀ x ∈ (p0 ++ (p1 ++ [])), x.block < W.heap.size := fun x hx => hW'.lt x (by simpa using hx)
  refine (plain_callS hT (K m0 m1 l0 l1) W _ rfl ?_).mono ?_
  · intro i c v hc hv
    match i with
    | 0 => cases hc; cases hv; exact .plain r0
    | 1 => cases hc; cases hv; exact r1
    | i + 2 => cases hc
  · rintro e W' ⟨v, j', rfl, hb, hrep⟩
    obtain rfl := hrep.bool_inv
    exact ⟨_, rfl, ⟨_, _, _, [], _, [], hW', trodAll_mk1 (shut_bool Tryz.underlying4 true), trodAll_stays hb hA1 (by rw [Tryz.params8]; intro t ht; simp at ht; rcases ht with rfl | rfl <;> exact ⟨by kernel_rfl, of_decide_eq_true (by kernel_rfl)⟩) hlt, rfl, hb.frame _, fun h => by cases h⟩⟩
theorem treeRight_of {T : Tab} (hT : SoundC Tryz.prog (acall T)) (K : ∀ (x0 : List Step) (x1 : Step), (∀ s, s ∈ x0 → stepOk s) → stepOk x1 → acall T 8 [eSteps x0, eStep x1] [] = some (.bool true, [])) : Rows.TreeRightSaid :=
  OpenClaim.holds_of_wide 8 Tryz.f8 rfl rfl rfl rfl rfl rfl rfl ⟨rfl, rfl, rfl, rfl, rfl⟩ rfl rfl rfl rfl rfl (by kernel_rfl) Tryz.func8 (by kernel_rfl)
    (of_decide_eq_true (by kernel_rfl)) (by unfold Func.isWrapper; rw [if_neg (by decide +kernel)]; exact ⟨rfl, rfl⟩)
    (fun os started H enc _ => treeRight_lifted hT K os started H enc)
end Go.Proofs.YtnapockikkbkcaaGreat
namespace Go.Proofs.YtnapockikkbkcaaGreat
open Go Go.Abs
attribute [local irreducible] exK opsK opK gK forkK kr acall callOp owhen obind
def cLh : Nat → Option AFn
  | 8 => some fn8
  | 20 => some fn20
  | 21 => some fn21
  | 31 => some fn31
  | 33 => some fn33
  | 74 => some fn74
  | _ => none
theorem xLh : ExtOk cLh := by
  refine ⟨fun f fn h => ?_, fun f fn h => ?_⟩
  · unfold cLh at h
    split at h
    · injection h with h; subst h; exact ⟨_, _, Tryz.func8, ok8⟩
    · injection h with h; subst h; exact ⟨_, _, Tryz.func20, ok20⟩
    · injection h with h; subst h; exact ⟨_, _, Tryz.func21, ok21⟩
    · injection h with h; subst h; exact ⟨_, _, Tryz.func31, ok31⟩
    · injection h with h; subst h; exact ⟨_, _, Tryz.func33, ok33⟩
    · injection h with h; subst h; exact ⟨_, _, Tryz.func74, ok74⟩
    · cases h
  · unfold cLh at h
    split at h
    · exact ⟨rfl, rfl⟩
    · exact ⟨rfl, rfl⟩
    · exact ⟨rfl, rfl⟩
    · exact ⟨rfl, rfl⟩
    · exact ⟨rfl, rfl⟩
    · exact ⟨rfl, rfl⟩
    · cases h
theorem loop74 {a : List Node} (ha : a.length ≤ 100000) (he : ∀ n, n ∈ a → n.ents.length ≤ 100000) {k : List K} {r : Option (AVal × AMem)}
    (hx : ∀ e, kr (acall (tabX cLh)) [.tmp 4] 0 k ⟨.exit 0, e, []⟩ = r) :
    ∀ (l pre : List Node), a = pre ++ l → exK (acall (tabX cLh)) [.tmp 4] 0 k (.loop [0, 1, 5] lb74_0) [(0, eNodes a), (1, eNodes a), (5, .int .i64 pre.length)] [] = r := by
  intro l
  induction l with
  | nil =>
    intro pre h
    rw [exK_loop]
    simp only [E74, lt_end h, EVT, EVD, ↓reduceIte, Nat.reduceEqDiff, reduceCtorEq, Nat.reduceAdd, Nat.reduceLeDiff, ne_eq, Nat.reduceLT, Int.reduceLT, Int.reduceLE, Int.reduceNeg]
    exact hx _
  | cons n rest ih =>
    intro pre h
    rw [exK_loop]
    have hlen : pre.length + 1 ≤ 100000 := by rw [h] at ha; simp at ha; omega
    have hw : IntKind.i64.wrap ((pre.length : Int) + 1) = ((pre ++ [n]).length : Int) := by rw [wrap_small (by omega) (by omega)]; exact step_len
    have hh := ih (pre ++ [n]) (by rw [h]; simp)
    simp only [List.length_append, List.length_cons, List.length_nil] at hh
    have q20 := fun M => k20 (T := tabX cLh) rfl rfl rfl rfl n n (he n (by rw [h]; simp)) M
    have hd : decide (n = n) = true := by simp
    simp only [E74, lt_mid h, at_mid h, tkN, shN, q20, hd, hw, EVT, EVD, ↓reduceIte, Nat.reduceEqDiff, reduceCtorEq, Nat.reduceAdd, Nat.reduceLeDiff, ne_eq, Nat.reduceLT, Int.reduceLT, Int.reduceLE, Int.reduceNeg]
    exact hh
theorem c74 (a : List Node) (ha : a.length ≤ 100000) (he : ∀ n, n ∈ a → n.ents.length ≤ 100000) : acall (tabX cLh) 74 [eNodes a, eNodes a] [] = some (.bool true, []) := by
  refine acall_ex rfl rfl rfl ?_
  simp only [fn74, E74, bne_self_eq_false, EVT, EVD, ↓reduceIte, Nat.reduceEqDiff, reduceCtorEq, Nat.reduceAdd, Nat.reduceLeDiff, ne_eq, Nat.reduceLT, Int.reduceLT, Int.reduceLE, Int.reduceNeg]
  exact loop74 ha he (fun e => by simp only [E74, EVT, EVD, ↓reduceIte, Nat.reduceEqDiff, reduceCtorEq, Nat.reduceAdd, Nat.reduceLeDiff, ne_eq, Nat.reduceLT, Int.reduceLT, Int.reduceLE, Int.reduceNeg]) a [] rfl
theorem k74 (a : List Node) (ha : a.length ≤ 100000) (he : ∀ n, n ∈ a → n.ents.length ≤ 100000) (M : AMem) : callOp (acall (tabX cLh)) 74 [eNodes a, eNodes a] M = some (.bool true, M) := callOp0 (c74 a ha he) rfl rfl rfl rfl rfl M
theorem c33 (t : Tree) (ht : Small t) : acall (tabX cLh) 33 [eTree t, eTree t] [] = some (.bool true, []) := by
  have hk := fun M => k74 t.nodes ht.nodes ht.ents M
  refine acall_ex rfl rfl rfl ?_
  simp only [fn33, E33, eTree, eTreeC, hk, EVT, EVD, ↓reduceIte, Nat.reduceEqDiff, reduceCtorEq, Nat.reduceAdd, Nat.reduceLeDiff, ne_eq, Nat.reduceLT, Int.reduceLT, Int.reduceLE, Int.reduceNeg]
theorem k33 (nodes : List Node) (next cookie : Int) (ht : Small ⟨nodes, next, cookie⟩) (M : AMem) : callOp (acall (tabX cLh)) 33 [.agg [eNodes nodes, .int .i64 next, .int .i64 cookie], .agg [eNodes nodes, .int .i64 next, .int .i64 cookie]] M = some (.bool true, M) := callOp0 (c33 ⟨nodes, next, cookie⟩ ht) rfl rfl rfl rfl rfl M
theorem doneN_refused {t : Tree} {dep : Int → Nat} (h : GInv t dep 0) (s : Step) (he : (doneN t s).2.2 ≠ 0) : (doneN t s).1 = t ∧ (doneN t s).2.1 = 0 := by
  unfold doneN at he ⊢
  split
  · rename_i h1
    rw [if_pos h1] at he
    unfold addN at he ⊢
    split
    · exact ⟨rfl, rfl⟩
    · rename_i a1
      rw [if_neg a1] at he
      split
      · exact ⟨rfl, rfl⟩
      · rename_i a2
        rw [if_neg a2] at he
        split
        · exact ⟨rfl, rfl⟩
        · rename_i a3
          rw [if_neg a3] at he
          exact absurd rfl he
  · rename_i h1
    rw [if_neg h1] at he
    split
    · rename_i h2
      rw [if_pos h2] at he
      unfold lnN at he ⊢
      refine ⟨?_, rfl⟩
      split
      · rfl
      · rename_i a1
        rw [if_neg a1] at he
        split
        · rfl
        · rename_i a2
          rw [if_neg a2] at he
          split
          · rfl
          · rename_i a3
            rw [if_neg a3] at he
            exact absurd rfl he
    · rename_i h2
      rw [if_neg h2] at he
      split
      · rename_i h3
        rw [if_pos h3] at he
        unfold unN at he ⊢
        split
        · exact ⟨rfl, rfl⟩
        · rename_i a1
          rw [if_neg a1] at he
          split
          · exact ⟨rfl, rfl⟩
          · rename_i a2
            rw [if_neg a2] at he
            exact absurd rfl he
      · rename_i h3
        rw [if_neg h3] at he
        split
        · rename_i h4
          rw [if_pos h4] at he
          rcases mvN_cases h (inoAt t s.a) (nameOf s.n) (inoAt t s.b) (nameOf s.m) with ⟨c1, c2, _⟩ | ⟨c1, _⟩ | ⟨_, _, _, _, _, _, _, c1⟩
          · exact ⟨c1, c2⟩
          · rw [c1]; exact ⟨rfl, rfl⟩
          · rw [c1] at he; exact absurd rfl he
        · rename_i h4
          rw [if_neg h4] at he
          split
          · rename_i h5
            rw [if_pos h5] at he
            unfold putN at he ⊢
            refine ⟨?_, rfl⟩
            split
            · rfl
            · rename_i a1
              rw [if_neg a1] at he
              split
              · rfl
              · rename_i a2
                rw [if_neg a2] at he
                split
                · rfl
                · rename_i a3
                  rw [if_neg a3] at he
                  exact absurd rfl he
          · rename_i h5
            rw [if_neg h5] at he
            unfold freeN at he ⊢
            refine ⟨?_, rfl⟩
            split
            · rfl
            · rename_i a1
              rw [if_neg a1] at he
              split
              · rfl
              · rename_i a2
                rw [if_neg a2] at he
                split
                · rfl
                · rename_i a3
                  rw [if_neg a3] at he
                  exact absurd rfl he
set_option maxHeartbeats 4000000 in
theorem c8 (l : List Step) (s : Step) (hl : ∀ s, s ∈ l → stepOk s) (hs : stepOk s) : acall (tabX cLh) 8 [eSteps l, eStep s] [] = some (.bool true, []) := by
  refine acall_ex rfl rfl rfl ?_
  simp only [fn8, E8, kHead xLh, kGreat xLh, eStep, eStepC, EVT, EVD, ↓reduceIte, Nat.reduceEqDiff, reduceCtorEq, Nat.reduceAdd, Nat.reduceLeDiff, ne_eq, Nat.reduceLT, Int.reduceLT, Int.reduceLE, Int.reduceNeg]
  refine guard_split (fun hg => ?_) (fun hg => ?_)
  rotate_left
  · simp only [E8, hg, EVT, EVD, ↓reduceIte, Nat.reduceEqDiff, reduceCtorEq, Nat.reduceAdd, Nat.reduceLeDiff, ne_eq, Nat.reduceLT, Int.reduceLT, Int.reduceLE, Int.reduceNeg]
  simp only [E8, hg, EVT, EVD, ↓reduceIte, Nat.reduceEqDiff, reduceCtorEq, Nat.reduceAdd, Nat.reduceLeDiff, ne_eq, Nat.reduceLT, Int.reduceLT, Int.reduceLE, Int.reduceNeg]
  refine fork_split (fun hd => ?_) (fun hd => ?_)
  · simp only [E8, EVT, EVD, ↓reduceIte, Nat.reduceEqDiff, reduceCtorEq, Nat.reduceAdd, Nat.reduceLeDiff, ne_eq, Nat.reduceLT, Int.reduceLT, Int.reduceLE, Int.reduceNeg]
  obtain ⟨hlen, hok⟩ := great_ok hg hl
  have hso : s.Ok := by
    obtain ⟨h1, h2, h3, h4, h5⟩ := hs
    exact ⟨h1, h2, h3, h4, h5, by simp at hd; omega⟩
  have hmade := fun M => kX xLh (k13 l (by omega) hok M)
  obtain ⟨dep, hinv⟩ := madeN_inv l
  have hz : Sz 1000 (madeN l) := (madeN_sz l hok).up (by omega)
  obtain ⟨dep', hinv'⟩ := doneN_inv hinv s
  have hz' : Sz 1000 (doneN (madeN l) s).1 := ((madeN_sz l hok).done s hso).up (by omega)
  have href := doneN_refused hinv s
  generalize madeN l = T at *
  obtain ⟨nodes, next, cookie⟩ := T
  have ht : Small ⟨nodes, next, cookie⟩ := hz.small (by omega)
  have q31 := fun M => k31 xLh rfl hinv s hz hso M
  have q32 := fun M => kX xLh (k32 hinv ht M)
  generalize hU : doneN ⟨nodes, next, cookie⟩ s = U at *
  obtain ⟨⟨un, ux, uc⟩, uy, ue⟩ := U
  have hsu : Small ⟨un, ux, uc⟩ := hz'.small (by omega)
  have p32 := fun M => kX xLh (k32 hinv' hsu M)
  simp only [eStepC] at q31
  simp only [E8, hmade, eTree, eTreeC, q31, q32, p32, EVT, EVD, ↓reduceIte, Nat.reduceEqDiff, reduceCtorEq, Nat.reduceAdd, Nat.reduceLeDiff, ne_eq, Nat.reduceLT, Int.reduceLT, Int.reduceLE, Int.reduceNeg]
  by_cases he : ue = 0
  · have hb : (ue == 0) = true := by simpa using he
    simp only [E8, hb, EVT, EVD, ↓reduceIte, Nat.reduceEqDiff, reduceCtorEq, Nat.reduceAdd, Nat.reduceLeDiff, ne_eq, Nat.reduceLT, Int.reduceLT, Int.reduceLE, Int.reduceNeg]
  · have hb : (ue == 0) = false := by simpa using he
    obtain ⟨r1, r2⟩ := href he
    simp only [Tree.mk.injEq] at r1 r2
    obtain ⟨rfl, rfl, rfl⟩ := r1
    subst r2
    have q33 := fun M => k33 un ux uc ht M
    simp only [E8, hb, q33, EVT, EVD, ↓reduceIte, Nat.reduceEqDiff, reduceCtorEq, Nat.reduceAdd, Nat.reduceLeDiff, ne_eq, Nat.reduceLT, Int.reduceLT, Int.reduceLE, Int.reduceNeg]
theorem treeRight_holds : Rows.TreeRightSaid := treeRight_of (soundX xLh) c8
end Go.Proofs.YtnapockikkbkcaaGreat
