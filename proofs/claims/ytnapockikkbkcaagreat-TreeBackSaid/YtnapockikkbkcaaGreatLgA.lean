/-
  TreeBack: proved of the given program, for every input that the row allows: see the last text of this claim. Conditions: none beside the row's own.
-/
import Derived.Test.YtnapockikkbkcaaGreatProg
import Derived.KernelRfl
import Derived.Test.YtnapockikkbkcaaGreatBaF
set_option linter.unusedSimpArgs false
set_option linter.unusedVariables false
namespace Go.Proofs.YtnapockikkbkcaaGreat
open Go Go.Abs
theorem look_of {nodes : List Node} {dir : Int} {s : Bytes} {d : Node} (hd : find nodes dir = some d) (hk : d.kind = 2) (hs : nameOk s = true) : lookN nodes dir s = match findE d.ents s with
    | none => (0, 70)
    | some e => (e.ino, 0) := by
  have : dirN nodes dir = (d, 0) := by simp [dirN, hd, hk]
  simp only [lookN, this, hs]
  cases findE d.ents s <;> simp
theorem ontoN_codes (x y : Node) : ontoN x y = 73 ∨ ontoN x y = 72 ∨ ontoN x y = 74 ∨ ontoN x y = 0 := by
  unfold ontoN
  split
  · simp
  split
  · simp
  split
  · simp
  · simp
theorem GInv.under {t : Tree} {dep : Int → Nat} (h : GInv t dep 0) {to : Int} {nm : Bytes} {dT : Node} (hT : find t.nodes to = some dT) : (nodeUnder t.nodes dT.ents nm).ino = underN dT.ents nm := by
  unfold nodeUnder underN
  cases he : findE dT.ents nm with
  | none => rfl
  | some e =>
    obtain ⟨_, _, _, _, m, hm, _⟩ := h.ent _ _ e hT (findE_mem he).1
    simp [nodeN, hm, (find_mem hm).2]
theorem loop_same {t : Tree} {dep : Int → Nat} (h : GInv t dep 0) {f to : Int} {s nm : Bytes} {dT : Node} (hl : (lookN t.nodes f s).2 = 0) (hT : find t.nodes to = some dT) (hTk : dT.kind = 2) (hn : nameOk nm = true)
    (h1 : (lookN t.nodes to nm).2 = 0) (h2 : (lookN t.nodes to nm).1 = (lookN t.nodes f s).1) : (mvW t f s to nm).2.2 = 0 := by
  have hd : dirN t.nodes to = (dT, 0) := by simp [dirN, hT, hTk]
  rw [look_of hT hTk hn] at h1 h2
  unfold mvW
  simp only [hl, hd, bne_self_eq_false, Bool.false_eq_true, ↓reduceIte, hn, Bool.not_true]
  cases he : findE dT.ents nm with
  | none => rw [he] at h1; cases h1
  | some e =>
    rw [he] at h2
    have hu : underN dT.ents nm = e.ino := by simp [underN, he]
    rw [h.under hT, hu]
    simp only at h2
    rw [h2]
    simp
theorem loop_else {t : Tree} {dep : Int → Nat} (h : GInv t dep 0) {f to : Int} {s nm : Bytes} {dT : Node} (hl : (lookN t.nodes f s).2 = 0) (hx : (find t.nodes (lookN t.nodes f s).1).isSome = true) (hk : (nodeN t.nodes (lookN t.nodes f s).1).kind = 2) (hT : find t.nodes to = some dT) (hTk : dT.kind = 2) (hn : nameOk nm = true)
    (h1 : (lookN t.nodes to nm).2 = 0 → (lookN t.nodes to nm).1 ≠ (lookN t.nodes f s).1) : ((mvW t f s to nm).2.2 == 75) = lbelowN t.nodes to (lookN t.nodes f s).1 := by
  have hd : dirN t.nodes to = (dT, 0) := by simp [dirN, hT, hTk]
  rw [look_of hT hTk hn] at h1
  generalize hxx : (lookN t.nodes f s).1 = x at *
  have hx1 : 1 ≤ x := by
    cases hf : find t.nodes x with
    | none => rw [hf] at hx; cases hx
    | some n => exact (h.num _ _ hf).1
  have hu : underN dT.ents nm ≠ x := by
    unfold underN
    cases he : findE dT.ents nm with
    | none => simp only; omega
    | some e => rw [he] at h1; exact h1 rfl
  rw [h.lbelowN_eq x hT hTk, ← h.upsN_contains x hT hTk]
  unfold mvW
  simp only [hl, hd, bne_self_eq_false, Bool.false_eq_true, ↓reduceIte, hn, Bool.not_true, h.under hT, hxx, hk, beq_self_eq_true, Bool.true_and]
  rw [if_neg (by simpa using hu)]
  split
  · rename_i hc; rw [hc]; rfl
  · rename_i hc
    have hc' : (upsN t.nodes to).contains x = false := by simpa using hc
    rw [hc']
    split
    · rcases ontoN_codes (nodeN t.nodes x) (nodeUnder t.nodes dT.ents nm) with h | h | h | h <;> simp [h]
    · split
      · rfl
      · rfl
end Go.Proofs.YtnapockikkbkcaaGreat
namespace Go.Proofs.YtnapockikkbkcaaGreat
open Go Go.Abs
theorem may_eq {t : Tree} {dep : Int → Nat} (h : GInv t dep 0) (dir : Int) (s : Bytes) : mayErr t dir s = enterErr t dir s := by
  unfold mayErr enterErr
  by_cases h0 : (dirN t.nodes dir).2 = 0
  · obtain ⟨d, d1, d2, d3⟩ := dir_ok h0
    have hf : fullN t d = (decide ((64 : Int) ≤ d.ents.length) || (decide ((12 : Int) ≤ upDepth t.nodes dir) || decide ((1099511627776 : Int) ≤ t.cookie))) := by
      unfold fullN
      rw [(find_mem d1).2, h.depthN_eq d1 d2, h.upDepth_eq d1 d2]
    simp only [d3, hf, bne_self_eq_false, Bool.false_eq_true, ↓reduceIte, ne_eq, not_true_eq_false]
    cases nameOk s <;> simp
  · rw [if_pos (by simpa using h0), if_pos h0]
theorem addW_eq {t : Tree} {dep : Int → Nat} (h : GInv t dep 0) (dir : Int) (s : Bytes) (kind : Int) : addW t dir s kind = addN t dir s kind := by
  unfold addW addN
  rw [may_eq h]
theorem lnW_eq {t : Tree} {dep : Int → Nat} (h : GInv t dep 0) (ino dir : Int) (s : Bytes) : lnW t ino dir s = lnN t ino dir s := by
  unfold lnW lnN
  rw [may_eq h]
theorem unnamedW_eq {nodes : List Node} {x : Int} {m : Node} (hx : find nodes x = some m) : unnamedW nodes m = unnamedN nodes x := by
  unfold unnamedW unnamedN
  simp only [nodeN, hx, Option.getD_some, (find_mem hx).2]
theorem unW_eq {t : Tree} {dep : Int → Nat} (h : GInv t dep 0) (dir : Int) (s : Bytes) : unW t dir s = unN t dir s := by
  unfold unW unN
  split
  · rfl
  · rename_i hl
    obtain ⟨d, e, d1, d2, d3, d4, d5⟩ := look_ok (by simpa using hl)
    simp only [d5]
    obtain ⟨_, _, _, _, m, hm, _⟩ := h.ent _ _ e d1 (findE_mem d4).1
    have hm' : find (leftN t.nodes dir s) e.ino = some m := by
      rw [find_leftN h.srt.asc d1, if_neg (h.ent_ne d1 (findE_mem d4).1)]; exact hm
    have hn : nodeN t.nodes e.ino = m := by simp [nodeN, hm]
    rw [hn, unnamedW_eq hm']
theorem highGo_ex (nodes : List Node) (ino at' d : Int) (b : Int) : ∀ (l : List Node) (most : Int), b < highGo nodes ino at' d l most → b < most ∨ ∃ n, n ∈ l ∧ (n.kind == 2 && belowN nodes n.ino ino) = true ∧ b < highAt nodes at' d n
  | [], most, h => .inl h
  | m :: l, most, h => by
    rw [highGo] at h
    rcases highGo_ex nodes ino at' d b l _ h with h1 | ⟨n, h1, h2, h3⟩
    · have e : highStep nodes ino at' d m most = if (m.kind == 2 && belowN nodes m.ino ino) = true then (if highAt nodes at' d m > most then highAt nodes at' d m else most) else most := rfl
      rw [e] at h1
      split at h1
      · rename_i hb
        split at h1
        · exact .inr ⟨m, List.mem_cons_self, hb, h1⟩
        · exact .inl h1
      · exact .inl h1
    · exact .inr ⟨n, List.mem_cons_of_mem _ h1, h2, h3⟩
theorem GInv.deep_eq {t : Tree} {dep : Int → Nat} (h : GInv t dep 0) {x to : Int} {m : Node} (hx : find t.nodes x = some m) (hk : m.kind = 2) (hd : dep to < 12) :
    deepN t.nodes x (((dep to + 1 : Nat) : Int)) = decide ((12 : Int) < highN t.nodes x (((dep to + 1 : Nat) : Int))) := by
  have key : ∀ n, n ∈ t.nodes → deepAt t.nodes (((dep to + 1 : Nat) : Int)) ((dep x : Nat) : Int) x n = ((n.kind == 2 && belowN t.nodes n.ino x) && decide ((12 : Int) < highAt t.nodes (((dep to + 1 : Nat) : Int)) ((dep x : Nat) : Int) n)) := by
    intro n hn
    have hi : find t.nodes n.ino = some n := (find_iff h.srt.asc).2 ⟨hn, rfl⟩
    unfold deepAt
    by_cases hk2 : n.kind = 2
    · rw [h.upsN_contains x hi hk2, h.upsN_len hi hk2]
      by_cases hb : belowN t.nodes n.ino x = true
      · rw [h.highAt_eq hx hk hd hi hk2 hb]
        have d1 := (h.deep _ _ hi hk2).1
        have d2 := (h.deep _ _ hx hk).1
        have d3 := h.below_dep _ _ n hi hk2 rfl hb
        have w1 : w64 ((((dep to + 1 : Nat) : Int)) + ((dep n.ino + 1 : Nat) : Int)) = (((dep to + 1 : Nat) : Int)) + ((dep n.ino + 1 : Nat) : Int) := wrap_small (by omega) (by omega)
        have w2 : w64 ((((dep to + 1 : Nat) : Int)) + ((dep n.ino + 1 : Nat) : Int) - 1) = (((dep to + 1 : Nat) : Int)) + ((dep n.ino + 1 : Nat) : Int) - 1 := wrap_small (by omega) (by omega)
        have w3 : w64 ((((dep to + 1 : Nat) : Int)) + ((dep n.ino + 1 : Nat) : Int) - 1 - (dep x : Nat)) = (((dep to + 1 : Nat) : Int)) + ((dep n.ino + 1 : Nat) : Int) - 1 - (dep x : Nat) := wrap_small (by omega) (by omega)
        rw [w1, w2, w3]
        unfold redep
        rw [if_pos hb, hb]
        simp only [hk2, beq_self_eq_true, Bool.true_and]
        rw [Bool.eq_iff_iff]
        simp only [Bool.or_eq_true, Bool.and_eq_true, decide_eq_true_eq, beq_iff_eq]
        split <;> omega
      · have : belowN t.nodes n.ino x = false := by simpa using hb
        simp [this]
    · have : (n.kind == 2) = false := by simpa using hk2
      simp [this]
  have hdx : (upDepth t.nodes x : Int) = ((dep x : Nat) : Int) := by rw [h.upDepth_eq hx hk]
  unfold deepN highN
  rw [h.depthN_eq hx hk, hdx]
  rw [Bool.eq_iff_iff]
  simp only [List.any_eq_true, decide_eq_true_eq]
  constructor
  · rintro ⟨n, hn, hp⟩
    rw [key n hn] at hp
    simp only [Bool.and_eq_true, decide_eq_true_eq] at hp
    have := (highGo_ge t.nodes x (((dep to + 1 : Nat) : Int)) ((dep x : Nat) : Int) t.nodes 0).2 n hn (by simp [hp.1.1, hp.1.2])
    omega
  · intro hh
    rcases highGo_ex t.nodes x _ _ 12 t.nodes 0 hh with h1 | ⟨n, h1, h2, h3⟩
    · omega
    · exact ⟨n, h1, by rw [key n h1, h2]; simpa using h3⟩
theorem mvW_eq {t : Tree} {dep : Int → Nat} (h : GInv t dep 0) (f : Int) (s : Bytes) (to : Int) (nm : Bytes) : mvW t f s to nm = mvN t f s to nm := by
  unfold mvW mvN
  split
  · rfl
  rename_i c1
  split
  · rfl
  rename_i c2
  split
  · rfl
  obtain ⟨dF, e, e1, e2, e3, e4, e5⟩ := look_ok (by simpa using c1)
  obtain ⟨dT, g1, g2, g3⟩ := dir_ok (show (dirN t.nodes to).2 = 0 by simpa using c2)
  have hem := (findE_mem e4).1
  obtain ⟨_, _, x1, _, m, hm, hup⟩ := h.ent _ _ e e1 hem
  have hnode : nodeN t.nodes e.ino = m := by simp [nodeN, hm]
  simp only [e5, g3, hnode, h.under g1, h.upsN_contains e.ino g1 g2]
  split
  · rfl
  rename_i c4
  split
  · rfl
  rename_i c5
  have hup' : underN dT.ents nm ≠ e.ino := by simpa using c4
  have hnf := h.ent_ne e1 hem
  have hne : e.ino ≠ to := fun hh => by
    rw [hh, g1] at hm; injection hm with hm; subst hm
    simp only [g2, beq_self_eq_true, Bool.true_and] at c5
    rw [hh, GInv.below_self] at c5
    exact c5 rfl
  have hmany : ∀ there : Bool, (underN dT.ents nm == 0) = !there → manyW t f to dT.ents there m.kind e.ino = manyN t f to dT.ents m.kind (underN dT.ents nm) e.ino := by
    intro there hth
    unfold manyW manyN
    rw [hth, h.upsN_len g1 g2, h.depthN_eq g1 g2]
    by_cases hd : dep to < 12
    · have hw : w64 (((dep to : Nat) : Int) + 1) = ((dep to + 1 : Nat) : Int) := by
        rw [show (((dep to : Nat) : Int) + 1) = ((dep to + 1 : Nat) : Int) by omega]
        exact wrap_small (by omega) (by omega)
      rw [hw]
      have hdd : decide ((12 : Int) < ((dep to + 1 : Nat) : Int)) = decide ((12 : Int) ≤ ((dep to : Nat) : Int)) := by
        rw [decide_eq_decide]; omega
      rw [hdd]
      rcases h.kind _ _ hm with hk | hk
      · simp [hk]
      · rw [h.deep_eq hm hk hd]
    · have h1 : decide ((12 : Int) < ((dep to + 1 : Nat) : Int)) = true := by rw [decide_eq_true_eq]; omega
      have h2 : decide ((12 : Int) ≤ ((dep to : Nat) : Int)) = true := by rw [decide_eq_true_eq]; omega
      rw [h1, h2]; simp
  cases hfr : findE dT.ents nm with
  | none =>
    have hu : underN dT.ents nm = 0 := by simp [underN, hfr]
    have hm1 := hmany false (by rw [hu]; rfl)
    rw [hu] at hm1 ⊢
    have hcl : clashN t.nodes m.kind 0 = 0 := by simp [clashN, h.zero]
    simp only [Option.isSome_none, Bool.false_and, Bool.false_eq_true, ↓reduceIte, hcl, bne_self_eq_false, hm1]
    split
    · rfl
    · unfold moveW moveN
      simp only [hnode, Bool.false_eq_true, ↓reduceIte, bne_self_eq_false]
  | some e2 =>
    have hu : underN dT.ents nm = e2.ino := by simp [underN, hfr]
    obtain ⟨_, _, _, _, y, hy, _⟩ := h.ent _ _ e2 g1 (findE_mem hfr).1
    have hny : nodeN t.nodes e2.ino = y := by simp [nodeN, hy]
    have hto := h.ent_ne g1 (findE_mem hfr).1
    have hy0 := (h.num _ _ hy).1
    have hm1 := hmany true (by rw [hu]; simp; omega)
    have hnu : nodeUnder t.nodes dT.ents nm = y := by simp [nodeUnder, hfr, hny]
    rw [hu] at hm1 ⊢
    have hcl : clashN t.nodes m.kind e2.ino = ontoN m y := by
      unfold clashN ontoN
      simp only [hy, Option.isSome_some, Bool.not_true, Bool.false_eq_true, ↓reduceIte, hny]
    rw [hnu, hcl]
    simp only [Option.isSome_some, Bool.true_and, hm1]
    split
    · rfl
    rename_i c6
    split
    · rfl
    have hy00 : y.ents = [] := by
      have : ontoN m y = 0 := by simpa using c6
      unfold ontoN at this
      split at this
      · cases this
      split at this
      · cases this
      split at this
      · cases this
      · rename_i k3; exact List.length_eq_zero_iff.1 (by simpa using k3)
    have hnf2 : e2.ino ≠ f := fun hh => by
      rw [hh, e1] at hy; injection hy with hy; subst hy
      rw [hy00] at hem; cases hem
    have hyl : find (leftN (leftN t.nodes f s) to nm) e2.ino = some y := by
      have f1 := find_leftN h.srt.asc e1 (s := s)
      obtain ⟨dT', hT'⟩ : ∃ dT', find (leftN t.nodes f s) to = some dT' := by rw [f1]; split <;> simp_all
      rw [find_leftN (leftN_asc h.srt.asc f s) hT', if_neg hto, f1, if_neg hnf2]
      exact hy
    have hb : (e2.ino != 0) = true := by simp; omega
    unfold moveW moveN
    simp only [hnode, ↓reduceIte, hb, unnamedW_eq hyl]
end Go.Proofs.YtnapockikkbkcaaGreat
namespace Go.Proofs.YtnapockikkbkcaaGreat
open Go Go.Abs
def mvA (t : Tree) (f : Int) (s : Bytes) (to : Int) (nm : Bytes) (y : Int) : List Node := if (y != 0) = true then unnamedN (leftN (leftN t.nodes f s) to nm) y else leftN t.nodes f s
def goneN (o : Option Node) : Option Node := match o with
  | some y => lessN y
  | none => none
theorem mvA_asc {t : Tree} {dep : Int → Nat} (h : GInv t dep 0) (f : Int) (s : Bytes) (to : Int) (nm : Bytes) (y : Int) : Asc (mvA t f s to nm y) := by
  unfold mvA
  split
  · exact unnamedN_asc (leftN_asc (leftN_asc h.srt.asc f s) to nm) y
  · exact leftN_asc h.srt.asc f s
theorem find_mvA {t : Tree} {dep : Int → Nat} (h : GInv t dep 0) {f : Int} {s : Bytes} {to : Int} {nm : Bytes} {dF dT m : Node} {e : Ent} (k : MvOk t dep f s to nm dF dT m e) (i : Int) :
    find (mvA t f s to nm (underN dT.ents nm)) i = if i = to then some { dT with ents := dropE (if to = f then dropE dT.ents s else dT.ents) nm }
      else if i = f then some { dF with ents := dropE dF.ents s } else if i = underN dT.ents nm then goneN (find t.nodes i) else find t.nodes i := by
  have f1 := find_leftN h.srt.asc k.hF (s := s)
  cases hfr : findE dT.ents nm with
  | none =>
    have hu : underN dT.ents nm = 0 := by simp [underN, hfr]
    have hdr : dropE (if to = f then dropE dT.ents s else dT.ents) nm = (if to = f then dropE dT.ents s else dT.ents) := by
      refine dropE_none ?_
      split
      · exact findE_dropE_none hfr
      · exact hfr
    rw [hu, hdr]
    simp only [mvA, bne_self_eq_false, Bool.false_eq_true, ↓reduceIte]
    rw [f1]
    by_cases i1 : i = to
    · rw [if_pos i1]
      subst i1
      by_cases i2 : i = f
      · subst i2
        have := k.hF; rw [k.hT] at this; injection this with this; subst this
        simp only [↓reduceIte]
      · simp only [i2, ↓reduceIte]; exact k.hT
    · rw [if_neg i1]
      by_cases i2 : i = f
      · simp only [i2, ↓reduceIte]
      · simp only [i2, ↓reduceIte]
        by_cases i3 : i = 0
        · subst i3; simp [h.zero, goneN]
        · simp only [i3, ↓reduceIte]
  | some e2 =>
    have hu : underN dT.ents nm = e2.ino := by simp [underN, hfr]
    obtain ⟨q1, y, q2, q3, q4, q5, q6⟩ := k.onto e2 hfr
    have hy0 := (h.num _ _ q2).1
    have hb : (e2.ino != 0) = true := by simp; omega
    rw [hu]
    simp only [mvA, hb, ↓reduceIte]
    have a1 := leftN_asc h.srt.asc f s
    obtain ⟨dT', hT', hd'⟩ : ∃ dT', find (leftN t.nodes f s) to = some dT' ∧ ({ dT' with ents := dropE dT'.ents nm } : Node) = { dT with ents := dropE (if to = f then dropE dT.ents s else dT.ents) nm } := by
      rw [f1]
      split
      · rename_i hh
        subst hh
        have := k.hF; rw [k.hT] at this; injection this with this; subst this
        exact ⟨_, rfl, rfl⟩
      · exact ⟨dT, k.hT, rfl⟩
    have f3 := find_leftN a1 hT' (s := nm)
    have hy3 : find (leftN (leftN t.nodes f s) to nm) e2.ino = some y := by rw [f3, if_neg q6, f1, if_neg q5]; exact q2
    rw [find_unnamedN (leftN_asc a1 to nm) hy3, f3, f1, hd']
    by_cases i1 : i = e2.ino
    · subst i1
      simp only [↓reduceIte, q5, q6, q2, goneN]
    · simp only [i1, ↓reduceIte]
theorem find_moveN {t : Tree} {dep : Int → Nat} (h : GInv t dep 0) {f : Int} {s : Bytes} {to : Int} {nm : Bytes} {dF dT m : Node} {e : Ent} (k : MvOk t dep f s to nm dF dT m e) (i : Int) :
    find (moveN t f s to nm e.ino (underN dT.ents nm)).nodes i = if i = to then some { dT with ents := insE (dropE (if to = f then dropE dT.ents s else dT.ents) nm) ⟨nm, e.ino, t.cookie⟩ }
      else if i = f then some { dF with ents := dropE dF.ents s } else if i = e.ino then some (if m.kind = 2 then { m with up := to } else m) else if i = underN dT.ents nm then goneN (find t.nodes i) else find t.nodes i := by
  have hA := find_mvA h k
  have aA := mvA_asc h f s to nm (underN dT.ents nm)
  have hmn : nodeN t.nodes e.ino = m := by simp [nodeN, k.hm]
  have hmi : m.ino = e.ino := (find_mem k.hm).2
  have hTi : dT.ino = to := (find_mem k.hT).2
  have hux : e.ino ≠ underN dT.ents nm := by
    cases hfr : findE dT.ents nm with
    | none => simp only [underN, hfr]; have := (h.num _ _ k.hm).1; omega
    | some e2 => simp only [underN, hfr]; exact fun hh => (k.onto e2 hfr).1 hh.symm
  obtain ⟨B, hB, aB, fB⟩ : ∃ B, (if (m.kind == 2) = true then withN (mvA t f s to nm (underN dT.ents nm)) { m with up := to } else mvA t f s to nm (underN dT.ents nm)) = B ∧ Asc B ∧
      ∀ i, find B i = if i = to then some { dT with ents := dropE (if to = f then dropE dT.ents s else dT.ents) nm }
        else if i = f then some { dF with ents := dropE dF.ents s } else if i = e.ino then some (if m.kind = 2 then { m with up := to } else m) else if i = underN dT.ents nm then goneN (find t.nodes i) else find t.nodes i := by
    refine ⟨_, rfl, ?_, ?_⟩
    · split
      · exact withN_asc aA _
      · exact aA
    · intro i
      split
      · rename_i hk
        have hk' : m.kind = 2 := by simpa using hk
        rw [find_withN aA, hA]
        simp only [hmi, hk', ↓reduceIte]
        by_cases i1 : i = e.ino
        · subst i1; simp only [↓reduceIte, k.ne, k.nf]
        · simp only [i1, ↓reduceIte]
      · rename_i hk
        have hk' : ¬ m.kind = 2 := by simpa using hk
        rw [hA]
        simp only [hk', ↓reduceIte]
        by_cases i1 : i = e.ino
        · subst i1; simp only [↓reduceIte, k.ne, k.nf, hux]; exact k.hm
        · simp only [i1, ↓reduceIte]
  have hmv : moveN t f s to nm e.ino (underN dT.ents nm) = enteredN ⟨B, t.next, t.cookie⟩ to nm e.ino := by
    rw [← hB]
    unfold moveN mvA
    simp only [hmn]
  rw [hmv]
  unfold enteredN
  simp only
  have hBt : find B to = some { dT with ents := dropE (if to = f then dropE dT.ents s else dT.ents) nm } := by rw [fB]; simp only [↓reduceIte]
  rw [find_withN aB, hBt]
  simp only [Option.getD_some, hTi]
  by_cases i1 : i = to
  · simp only [i1, ↓reduceIte]
  · simp only [i1, ↓reduceIte]
    rw [fB]
    simp only [i1, ↓reduceIte]
theorem moveN_next (t : Tree) (f : Int) (s : Bytes) (to : Int) (nm : Bytes) (x y : Int) : (moveN t f s to nm x y).next = t.next := rfl
theorem moveN_cookie {t : Tree} {dep : Int → Nat} (h : GInv t dep 0) (hc : t.cookie < 1099511627776) (f : Int) (s : Bytes) (to : Int) (nm : Bytes) (x y : Int) : (moveN t f s to nm x y).cookie = t.cookie + 1 := by
  show w64 (t.cookie + 1) = t.cookie + 1
  exact wrap_small (by have := h.cookie; omega) (by omega)
theorem asc_len {a b : List Node} (ha : Asc a) (h : ∀ n, n ∈ a → ∃ m, find b n.ino = some m) : a.length ≤ b.length := by
  have := nodup_le (a.map Node.ino) (b.map Node.ino) (by
    unfold List.Nodup
    rw [List.pairwise_map]
    exact List.Pairwise.imp (fun hab => by omega) ha) (by
    intro x hx
    obtain ⟨n, hn, rfl⟩ := List.mem_map.1 hx
    obtain ⟨m, hm⟩ := h n hn
    exact List.mem_map.2 ⟨m, (find_mem hm).1, (find_mem hm).2⟩)
  simpa using this
end Go.Proofs.YtnapockikkbkcaaGreat
namespace Go.Proofs.YtnapockikkbkcaaGreat
open Go Go.Abs
theorem findE_iff {l : List Ent} (h : AscE l) {s : Bytes} {e : Ent} : findE l s = some e ↔ e ∈ l ∧ e.name = s := by
  refine ⟨findE_mem, fun ⟨h1, h2⟩ => ?_⟩
  cases hf : findE l s with
  | none =>
    have := List.find?_eq_none.1 hf e h1
    simp [h2] at this
  | some x =>
    obtain ⟨x1, x2⟩ := findE_mem hf
    obtain ⟨i, hi⟩ := List.getElem?_of_mem h1
    obtain ⟨k, hk⟩ := List.getElem?_of_mem x1
    have hil := (List.getElem?_eq_some_iff.1 hi).1
    have hkl := (List.getElem?_eq_some_iff.1 hk).1
    have e1 : l[i] = e := by rw [List.getElem?_eq_getElem hil] at hi; injection hi
    have e2 : l[k] = x := by rw [List.getElem?_eq_getElem hkl] at hk; injection hk
    rcases Nat.lt_trichotomy i k with hlt | heq | hgt
    · have := List.pairwise_iff_getElem.1 h _ _ hil hkl hlt
      rw [e1, e2, h2, x2, strLt_irrefl] at this; cases this
    · subst heq; rw [← e1, ← e2]
    · have := List.pairwise_iff_getElem.1 h _ _ hkl hil hgt
      rw [e1, e2, h2, x2, strLt_irrefl] at this; cases this
theorem findE_insE {l : List Ent} (h : AscE l) {e : Ent} (hf : findE l e.name = none) (s : Bytes) : findE (insE l e) s = if s = e.name then some e else findE l s := by
  have ha := insE_asc h hf
  split
  · rename_i hs
    exact (findE_iff ha).2 ⟨(mem_insE h hf).2 (.inl rfl), hs.symm⟩
  · rename_i hs
    cases hq : findE l s with
    | none =>
      cases hr : findE (insE l e) s with
      | none => rfl
      | some x =>
        obtain ⟨x1, x2⟩ := findE_mem hr
        rcases (mem_insE h hf).1 x1 with rfl | x1
        · exact absurd x2.symm hs
        · rw [(findE_iff h).2 ⟨x1, x2⟩] at hq; cases hq
    | some x =>
      obtain ⟨x1, x2⟩ := findE_mem hq
      exact (findE_iff ha).2 ⟨(mem_insE h hf).2 (.inr x1), x2⟩
theorem nameOf_inj {n m : Nat} (h : n % 6 ≠ m % 6) : nameOf n ≠ nameOf m := by
  unfold nameOf
  have h1 : n % 6 < 6 := Nat.mod_lt _ (by omega)
  have h2 : m % 6 < 6 := Nat.mod_lt _ (by omega)
  generalize n % 6 = a at *
  generalize m % 6 = b at *
  match a, h1, b, h2 with
  | 0, _, 0, _ | 1, _, 1, _ | 2, _, 2, _ | 3, _, 3, _ | 4, _, 4, _ | 5, _, 5, _ => exact absurd rfl h
  | 0, _, 1, _ | 0, _, 2, _ | 0, _, 3, _ | 0, _, 4, _ | 0, _, 5, _ => decide
  | 1, _, 0, _ | 1, _, 2, _ | 1, _, 3, _ | 1, _, 4, _ | 1, _, 5, _ => decide
  | 2, _, 1, _ | 2, _, 0, _ | 2, _, 3, _ | 2, _, 4, _ | 2, _, 5, _ => decide
  | 3, _, 1, _ | 3, _, 2, _ | 3, _, 0, _ | 3, _, 4, _ | 3, _, 5, _ => decide
  | 4, _, 1, _ | 4, _, 2, _ | 4, _, 3, _ | 4, _, 0, _ | 4, _, 5, _ => decide
  | 5, _, 1, _ | 5, _, 2, _ | 5, _, 3, _ | 5, _, 4, _ | 5, _, 0, _ => decide
section
variable {t : Tree} {dep : Int → Nat} {f : Int} {s : Bytes} {to : Int} {nm : Bytes} {dF dT m : Node} {e : Ent}
theorem MvOk.base (h : GInv t dep 0) (k : MvOk t dep f s to nm dF dT m e) : AscE (dropE (if to = f then dropE dT.ents s else dT.ents) nm) ∧ findE (dropE (if to = f then dropE dT.ents s else dT.ents) nm) nm = none := by
  have hE : AscE dT.ents := h.srt.ents dT (find_mem k.hT).1
  refine ⟨dropE_asc ?_ nm, findE_dropE _ _⟩
  split
  · exact dropE_asc hE s
  · exact hE
theorem MvOk.look_to (h : GInv t dep 0) (k : MvOk t dep f s to nm dF dT m e) : lookN (moveN t f s to nm e.ino (underN dT.ents nm)).nodes to nm = (e.ino, 0) := by
  have hf := find_moveN h k to
  rw [if_pos rfl] at hf
  obtain ⟨b1, b2⟩ := k.base h
  rw [look_of hf k.kT k.hn]
  simp only
  rw [findE_insE b1 (e := ⟨nm, e.ino, t.cookie⟩) b2]
  simp
theorem MvOk.look_from (h : GInv t dep 0) (k : MvOk t dep f s to nm dF dT m e) (hs : nameOk s = true) (hne : ¬ (f = to ∧ s = nm)) : lookN (moveN t f s to nm e.ino (underN dT.ents nm)).nodes f s = (0, 70) := by
  have hf := find_moveN h k f
  obtain ⟨b1, b2⟩ := k.base h
  by_cases hft : f = to
  · rw [if_pos hft] at hf
    rw [look_of hf k.kT hs]
    simp only
    rw [findE_insE b1 (e := ⟨nm, e.ino, t.cookie⟩) b2]
    have hsn : s ≠ nm := fun hh => hne ⟨hft, hh⟩
    simp only [hsn, ↓reduceIte, hft.symm]
    rw [findE_dropE_none (findE_dropE _ _)]
  · rw [if_neg hft, if_pos rfl] at hf
    rw [look_of hf k.kF hs]
    simp only
    rw [findE_dropE]
theorem MvOk.under_ne (h : GInv t dep 0) (k : MvOk t dep f s to nm dF dT m e) : underN dT.ents nm ≠ e.ino := by
  cases hfr : findE dT.ents nm with
  | none => simp only [underN, hfr]; have := (h.num _ _ k.hm).1; omega
  | some e2 => simp only [underN, hfr]; exact (k.onto e2 hfr).1
theorem MvOk.other (h : GInv t dep 0) (k : MvOk t dep f s to nm dF dT m e) : t ≠ moveN t f s to nm e.ino (underN dT.ents nm) := by
  intro hh
  have := moveN_cookie h k.cookie f s to nm e.ino (underN dT.ents nm)
  rw [← hh] at this
  omega
theorem MvOk.len (h : GInv t dep 0) (k : MvOk t dep f s to nm dF dT m e) {dep' : Int → Nat} (h' : GInv (moveN t f s to nm e.ino (underN dT.ents nm)) dep' 0) : (moveN t f s to nm e.ino (underN dT.ents nm)).nodes.length ≤ t.nodes.length := by
  refine asc_len h'.srt.asc (fun n hn => ?_)
  have hf := (find_iff h'.srt.asc).2 ⟨hn, rfl⟩
  rw [find_moveN h k] at hf
  split at hf
  · rename_i hi; rw [hi]; exact ⟨dT, k.hT⟩
  split at hf
  · rename_i hi; rw [hi]; exact ⟨dF, k.hF⟩
  split at hf
  · rename_i hi; rw [hi]; exact ⟨m, k.hm⟩
  split at hf
  · cases hq : find t.nodes n.ino with
    | none => rw [hq] at hf; cases hf
    | some y => exact ⟨y, rfl⟩
  · exact ⟨n, hf⟩
end
end Go.Proofs.YtnapockikkbkcaaGreat
namespace Go.Proofs.YtnapockikkbkcaaGreat
open Go Go.Abs
theorem doneN_cookie {t : Tree} {dep : Int → Nat} (h : GInv t dep 0) (s : Step) : (doneN t s).1.cookie ≤ t.cookie + 1 := by
  have hc := h.cookie
  have hw : t.cookie < 1099511627776 → w64 (t.cookie + 1) = t.cookie + 1 := fun hl => wrap_small (by omega) (by omega)
  unfold doneN
  split
  · unfold addN
    split
    · simp only; omega
    split
    · simp only; omega
    · rename_i he
      split
      · simp only; omega
      · obtain ⟨_, _, _, _, _, _, _, d7⟩ := enter_ok (by simpa using he)
        show w64 (t.cookie + 1) ≤ t.cookie + 1
        rw [hw d7]; omega
  split
  · unfold lnN
    split
    · simp only; omega
    split
    · simp only; omega
    split
    · simp only; omega
    · rename_i he
      obtain ⟨_, _, _, _, _, _, _, d7⟩ := enter_ok (by simpa using he)
      show w64 (t.cookie + 1) ≤ t.cookie + 1
      rw [hw d7]; omega
  split
  · unfold unN
    split
    · simp only; omega
    split
    · simp only; omega
    · simp only; omega
  split
  · rcases mvN_cases h (inoAt t s.a) (nameOf s.n) (inoAt t s.b) (nameOf s.m) with ⟨c1, _⟩ | ⟨c1, _⟩ | ⟨_, _, _, _, k, _, _, c1⟩
    · rw [c1]; omega
    · rw [c1]; simp only; omega
    · rw [c1]
      simp only
      rw [moveN_cookie h k.cookie]; omega
  split
  · unfold putN
    split
    · simp only; omega
    split
    · simp only; omega
    split
    · simp only; omega
    · simp only; omega
  · unfold freeN
    split
    · simp only; omega
    split
    · simp only; omega
    split
    · simp only; omega
    · simp only; omega
theorem madeN_cookie (l : List Step) : (madeN l).cookie ≤ 1 + l.length := by
  have key : ∀ (l : List Step) (t : Tree), (∃ dep, GInv t dep 0) → (l.foldl (fun t s => (doneN t s).1) t).cookie ≤ t.cookie + l.length := by
    intro l
    induction l with
    | nil => intro t _; simp
    | cons s l ih =>
      rintro t ⟨dep, h⟩
      have h1 := ih _ (doneN_inv h s)
      have h2 := doneN_cookie h s
      simp only [List.foldl_cons, List.length_cons]
      omega
  have := key l newN ⟨_, newN_inv⟩
  simp only [madeN]
  have h1 : newN.cookie = 1 := rfl
  omega
theorem findE_ext : ∀ {a b : List Ent}, AscE a → AscE b → (∀ e, e ∈ a ↔ e ∈ b) → a = b
  | [], [], _, _, _ => rfl
  | [], y :: b, _, _, h => by have := (h y).2 List.mem_cons_self; cases this
  | x :: a, [], _, _, h => by have := (h x).1 List.mem_cons_self; cases this
  | x :: a, y :: b, ha, hb, h => by
    obtain ⟨a1, a2⟩ := List.pairwise_cons.1 ha
    obtain ⟨b1, b2⟩ := List.pairwise_cons.1 hb
    have hxy : x = y := by
      rcases List.mem_cons.1 ((h x).1 List.mem_cons_self) with h1 | h1
      · exact h1
      · rcases List.mem_cons.1 ((h y).2 List.mem_cons_self) with h2 | h2
        · exact h2.symm
        · have := strLt_asym (b1 x h1); rw [a1 y h2] at this; cases this
    subst hxy
    rw [findE_ext a2 b2 (fun m => ?_)]
    constructor
    · intro hm
      rcases List.mem_cons.1 ((h m).1 (List.mem_cons_of_mem _ hm)) with h1 | h1
      · subst h1; have := a1 m hm; rw [strLt_irrefl] at this; cases this
      · exact h1
    · intro hm
      rcases List.mem_cons.1 ((h m).2 (List.mem_cons_of_mem _ hm)) with h1 | h1
      · subst h1; have := b1 m hm; rw [strLt_irrefl] at this; cases this
      · exact h1
def bare (e : Ent) : Ent := ⟨e.name, e.ino, 0⟩
theorem bare_asc {l : List Ent} (h : AscE l) : AscE (l.map bare) := by
  unfold AscE
  rw [List.pairwise_map]
  exact h
theorem mem_bare {l : List Ent} {x : Ent} : x ∈ l.map bare ↔ ∃ e, e ∈ l ∧ bare e = x := List.mem_map
theorem bare_again {l : List Ent} (h : AscE l) {s : Bytes} {e : Ent} (he : findE l s = some e) (c : Int) : (insE (dropE l s) ⟨s, e.ino, c⟩).map bare = l.map bare := by
  have hd := dropE_asc h s
  have hn : findE (dropE l s) (Ent.mk s e.ino c).name = none := findE_dropE _ _
  obtain ⟨e1, e2⟩ := findE_mem he
  refine findE_ext (bare_asc (insE_asc hd hn)) (bare_asc h) (fun x => ?_)
  rw [mem_bare, mem_bare]
  constructor
  · rintro ⟨y, hy, rfl⟩
    rcases (mem_insE hd hn).1 hy with rfl | hy
    · exact ⟨e, e1, by simp [bare, e2]⟩
    · exact ⟨y, (mem_dropE.1 hy).1, rfl⟩
  · rintro ⟨y, hy, rfl⟩
    by_cases hys : y.name = s
    · have : y = e := by have := (findE_iff h).2 ⟨hy, hys⟩; rw [he] at this; injection this with this; exact this.symm
      subst this
      exact ⟨⟨s, y.ino, c⟩, (mem_insE hd hn).2 (.inl rfl), by simp [bare, hys]⟩
    · exact ⟨y, (mem_insE hd hn).2 (.inr (mem_dropE.2 ⟨hy, hys⟩)), rfl⟩
theorem drop_ins {l : List Ent} (h : AscE l) {e : Ent} (hf : findE l e.name = none) : dropE (insE l e) e.name = l := by
  have ha := insE_asc h hf
  refine findE_ext (dropE_asc ha _) h (fun x => ?_)
  rw [mem_dropE, mem_insE h hf]
  constructor
  · rintro ⟨rfl | h1, h2⟩
    · exact absurd rfl h2
    · exact h1
  · intro h1
    refine ⟨.inr h1, fun hh => ?_⟩
    rw [(findE_iff h).2 ⟨h1, hh⟩] at hf; cases hf
theorem dropE_self (l : List Ent) (s : Bytes) : dropE (dropE l s) s = dropE l s := dropE_none (findE_dropE l s)
structure Alike (p q : Node) : Prop where
  ino : p.ino = q.ino
  kind : p.kind = q.kind
  links : p.links = q.links
  up : p.up = q.up
  data : p.data = q.data
  ents : p.ents.map bare = q.ents.map bare
theorem Alike.refl (p : Node) : Alike p p := ⟨rfl, rfl, rfl, rfl, rfl, rfl⟩
theorem alike_rows : ∀ {a b : List Node}, Asc a → Asc b → (∀ i p, find a i = some p → ∃ q, find b i = some q ∧ Alike p q) → (∀ i q, find b i = some q → ∃ p, find a i = some p) → a.length = b.length ∧ ∀ (i : Nat) p, a[i]? = some p → ∃ q, b[i]? = some q ∧ Alike p q
  | [], [], _, _, _, _ => ⟨rfl, fun i p h => by simp at h⟩
  | [], y :: b, _, hb, _, h => by
    obtain ⟨p, hp⟩ := h y.ino y ((find_iff hb).2 ⟨List.mem_cons_self, rfl⟩)
    cases hp
  | x :: a, [], ha, _, h, _ => by
    obtain ⟨p, hp, _⟩ := h x.ino x ((find_iff ha).2 ⟨List.mem_cons_self, rfl⟩)
    cases hp
  | x :: a, y :: b, ha, hb, h, h' => by
    obtain ⟨a1, a2⟩ := List.pairwise_cons.1 ha
    obtain ⟨b1, b2⟩ := List.pairwise_cons.1 hb
    obtain ⟨q, hq, hal⟩ := h x.ino x ((find_iff ha).2 ⟨List.mem_cons_self, rfl⟩)
    obtain ⟨hq1, hq2⟩ := (find_iff hb).1 hq
    have hxy : y.ino = x.ino := by
      rcases List.mem_cons.1 hq1 with h1 | h1
      · rw [← h1]; exact hq2
      · obtain ⟨p, hp⟩ := h' y.ino y ((find_iff hb).2 ⟨List.mem_cons_self, rfl⟩)
        obtain ⟨hp1, hp2⟩ := (find_iff ha).1 hp
        rcases List.mem_cons.1 hp1 with h2 | h2
        · rw [← h2]; exact hp2.symm
        · have := b1 q h1; have := a1 p h2; omega
    have hqy : q = y := asc_unique hb hq1 List.mem_cons_self (by omega)
    subst hqy
    obtain ⟨r1, r2⟩ := alike_rows a2 b2 (fun i p hp => by
      obtain ⟨p1, p2⟩ := (find_iff a2).1 hp
      obtain ⟨q', hq', hal'⟩ := h i p ((find_iff ha).2 ⟨List.mem_cons_of_mem _ p1, p2⟩)
      obtain ⟨k1, k2⟩ := (find_iff hb).1 hq'
      rcases List.mem_cons.1 k1 with h1 | h1
      · subst h1; have := a1 p p1; omega
      · exact ⟨q', (find_iff b2).2 ⟨h1, k2⟩, hal'⟩) (fun i q' hq' => by
      obtain ⟨p1, p2⟩ := (find_iff b2).1 hq'
      obtain ⟨p, hp⟩ := h' i q' ((find_iff hb).2 ⟨List.mem_cons_of_mem _ p1, p2⟩)
      obtain ⟨k1, k2⟩ := (find_iff ha).1 hp
      rcases List.mem_cons.1 k1 with h1 | h1
      · subst h1; have := b1 q' p1; omega
      · exact ⟨p, (find_iff a2).2 ⟨h1, k2⟩⟩)
    refine ⟨by simp [r1], fun i p hp => ?_⟩
    cases i with
    | zero => simp at hp; subst hp; exact ⟨q, rfl, hal⟩
    | succ i => simpa using r2 i p (by simpa using hp)
theorem MvOk.run {t : Tree} {dep : Int → Nat} (h : GInv t dep 0) {f : Int} {s : Bytes} {to : Int} {nm : Bytes} {dF dT m : Node} {e : Ent} (k : MvOk t dep f s to nm dF dT m e) (hs : nameOk s = true) : mvN t f s to nm = (moveN t f s to nm e.ino (underN dT.ents nm), underN dT.ents nm, 0) := by
  have hl : lookN t.nodes f s = (e.ino, 0) := by rw [look_of k.hF k.kF hs, k.he]
  have hd : dirN t.nodes to = (dT, 0) := by simp [dirN, k.hT, k.kT]
  have hn : nodeN t.nodes e.ino = m := by simp [nodeN, k.hm]
  have hu := k.under_ne h
  have hw : w64 (((dep to : Nat) : Int) + 1) = ((dep to + 1 : Nat) : Int) := by
    have := k.deep
    rw [show (((dep to : Nat) : Int) + 1) = ((dep to + 1 : Nat) : Int) by omega]
    exact wrap_small (by omega) (by omega)
  have hloop : (m.kind == 2 && belowN t.nodes to e.ino) = false := by
    by_cases hk : m.kind = 2
    · rw [k.loop hk]; simp
    · have : (m.kind == 2) = false := by simpa using hk
      simp [this]
  have hclash : clashN t.nodes m.kind (underN dT.ents nm) = 0 := by
    cases hfr : findE dT.ents nm with
    | none => simp [underN, hfr, clashN, h.zero]
    | some e2 =>
      obtain ⟨_, y, q2, q3, q4, _, _⟩ := k.onto e2 hfr
      have hny : nodeN t.nodes e2.ino = y := by simp [nodeN, q2]
      simp only [underN, hfr, clashN, q2, Option.isSome_some, Bool.not_true, Bool.false_eq_true, ↓reduceIte, hny, q3, List.length_nil]
      rcases h.kind _ _ k.hm with hk | hk
      · have : ¬ y.kind = 2 := fun hy => by have := q4.2 hy; omega
        simp [hk, this]
      · simp [hk, q4.1 hk]
  have hmany : manyN t f to dT.ents m.kind (underN dT.ents nm) e.ino = false := by
    unfold manyN
    rw [h.depthN_eq k.hT k.kT, hw]
    have d1 : decide ((12 : Int) ≤ ((dep to : Nat) : Int)) = false := by have := k.deep; simp; omega
    have d2 : decide ((1099511627776 : Int) ≤ t.cookie) = false := by have := k.cookie; simp; omega
    have d3 : (m.kind == 2 && decide ((12 : Int) < highN t.nodes e.ino ((dep to + 1 : Nat) : Int))) = false := by
      by_cases hk : m.kind = 2
      · have := k.high hk
        have d4 : decide ((12 : Int) < highN t.nodes e.ino ((dep to + 1 : Nat) : Int)) = false := by rw [decide_eq_false_iff_not]; omega
        rw [d4]; simp
      · have : (m.kind == 2) = false := by simpa using hk
        simp [this]
    have d4 : ((underN dT.ents nm == 0 && to != f) && decide ((64 : Int) ≤ dT.ents.length)) = false := by
      have := h.few k.hT
      have d5 : decide ((64 : Int) ≤ dT.ents.length) = false := by rw [decide_eq_false_iff_not]; omega
      rw [d5]; simp
    rw [d1, d2, d3, d4]; rfl
  unfold mvN
  simp only [hl, hd, hn, k.hn, hloop, hclash, hmany, bne_self_eq_false, Bool.not_true, Bool.false_eq_true, ↓reduceIte]
  rw [if_neg (by simpa using hu)]
end Go.Proofs.YtnapockikkbkcaaGreat
namespace Go.Proofs.YtnapockikkbkcaaGreat
open Go Go.Abs
section
variable {t : Tree} {dep dep' : Int → Nat} {f : Int} {s : Bytes} {to : Int} {nm : Bytes} {dF dT m : Node} {e : Ent}
theorem GInv.below_file (h : GInv t dep 0) {x : Int} {m : Node} (hm : find t.nodes x = some m) (hk : m.kind = 1) : ∀ (d : Nat) (i : Int) (n : Node), find t.nodes i = some n → n.kind = 2 → dep i = d → belowN t.nodes i x = false := by
  have hx1 : x ≠ 1 := fun hh => by
    obtain ⟨r, r1, r2, _⟩ := h.root
    rw [hh, r1] at hm; injection hm with hm; subst hm; omega
  intro d
  induction d with
  | zero =>
    intro i n hi hk2 hd
    rcases Int.decEq i 1 with h1 | h1
    · have := (h.deps _ _ hi hk2 h1).1; omega
    · subst h1; exact GInv.below_root hx1
  | succ d ih =>
    intro i n hi hk2 hd
    have h1 : i ≠ 1 := fun hh => by subst hh; have := h.dep1; omega
    obtain ⟨a, p, b, c⟩ := h.deps _ _ hi hk2 h1
    rw [h.below_up hi hk2 h1 (fun hh => by rw [hh, hm] at hi; injection hi with hi; subst hi; omega)]
    exact ih _ p b c (by omega)
theorem MvOk.dirs (h : GInv t dep 0) (k : MvOk t dep f s to nm dF dT m e) (hfree : findE dT.ents nm = none) : ∀ i n, find t.nodes i = some n → ∃ n', find (moveN t f s to nm e.ino (underN dT.ents nm)).nodes i = some n' ∧ n'.kind = n.kind ∧ (i ≠ e.ino → n'.up = n.up) ∧ (i ≠ to → i ≠ f → n'.ents = n.ents) := by
  intro i n hi
  have hu : underN dT.ents nm = 0 := by simp [underN, hfree]
  rw [find_moveN h k i]
  split
  · rename_i hh
    rw [hh, k.hT] at hi; injection hi with hi; subst hi
    exact ⟨_, rfl, rfl, fun _ => rfl, fun h1 => absurd hh h1⟩
  split
  · rename_i hh
    rw [hh, k.hF] at hi; injection hi with hi; subst hi
    exact ⟨_, rfl, rfl, fun _ => rfl, fun _ h1 => absurd hh h1⟩
  split
  · rename_i hh
    rw [hh, k.hm] at hi; injection hi with hi; subst hi
    refine ⟨_, rfl, ?_, fun h1 => absurd hh h1, fun _ _ => ?_⟩ <;> split <;> rfl
  rw [hu]
  split
  · rename_i hh
    rw [hh, h.zero] at hi; cases hi
  · exact ⟨n, hi, rfl, fun _ => rfl, fun _ _ => rfl⟩
theorem MvOk.dirs' (h : GInv t dep 0) (k : MvOk t dep f s to nm dF dT m e) : ∀ i n', find (moveN t f s to nm e.ino (underN dT.ents nm)).nodes i = some n' → ∃ n, find t.nodes i = some n := by
  intro i n' hi
  rw [find_moveN h k i] at hi
  split at hi
  · rename_i hh; rw [hh]; exact ⟨_, k.hT⟩
  split at hi
  · rename_i hh; rw [hh]; exact ⟨_, k.hF⟩
  split at hi
  · rename_i hh; rw [hh]; exact ⟨_, k.hm⟩
  split at hi
  · cases hq : find t.nodes i with
    | none => rw [hq] at hi; cases hi
    | some y => exact ⟨y, rfl⟩
  · exact ⟨n', hi⟩
theorem MvOk.chain (h : GInv t dep 0) (k : MvOk t dep f s to nm dF dT m e) (hfree : findE dT.ents nm = none) (h' : GInv (moveN t f s to nm e.ino (underN dT.ents nm)) dep' 0) (hx1 : e.ino ≠ 1) :
    ∀ (d : Nat) (i : Int) (n : Node), find t.nodes i = some n → n.kind = 2 → dep i = d → (belowN t.nodes i e.ino = true → belowN (moveN t f s to nm e.ino (underN dT.ents nm)).nodes i e.ino = true ∧ dep' i + dep e.ino = dep i + dep' e.ino) ∧ (belowN t.nodes i e.ino = false → belowN (moveN t f s to nm e.ino (underN dT.ents nm)).nodes i e.ino = false ∧ dep' i = dep i) := by
  intro d
  induction d with
  | zero =>
    intro i n hi hk2 hd
    rcases Int.decEq i 1 with h1 | h1
    · have := (h.deps _ _ hi hk2 h1).1; omega
    · subst h1
      rw [GInv.below_root hx1, GInv.below_root hx1]
      exact ⟨fun hh => absurd hh (by simp), fun _ => ⟨rfl, by rw [h'.dep1, h.dep1]⟩⟩
  | succ d ih =>
    intro i n hi hk2 hd
    have h1 : i ≠ 1 := fun hh => by subst hh; have := h.dep1; omega
    obtain ⟨a, p, b, c⟩ := h.deps _ _ hi hk2 h1
    by_cases hix : i = e.ino
    · subst hix
      rw [GInv.below_self, GInv.below_self]
      exact ⟨fun _ => ⟨rfl, by omega⟩, fun hh => absurd hh (by simp)⟩
    · obtain ⟨n', n1, n2, n3, _⟩ := k.dirs h hfree i n hi
      rw [h.below_up hi hk2 h1 hix, h'.below_up n1 (by omega) h1 hix, n3 hix]
      obtain ⟨a', _⟩ := h'.deps _ _ n1 (by omega) h1
      rw [n3 hix] at a'
      obtain ⟨i1, i2⟩ := ih _ p b c (by omega)
      exact ⟨fun hb => ⟨(i1 hb).1, by have := (i1 hb).2; omega⟩, fun hb => ⟨(i2 hb).1, by have := (i2 hb).2; omega⟩⟩
theorem MvOk.back (h : GInv t dep 0) (k : MvOk t dep f s to nm dF dT m e) (hfree : findE dT.ents nm = none) (h' : GInv (moveN t f s to nm e.ino (underN dT.ents nm)) dep' 0) (hs : nameOk s = true) (hck : t.cookie + 1 < 1099511627776) :
    ∃ dT' dF' m', find (moveN t f s to nm e.ino (underN dT.ents nm)).nodes to = some dT' ∧ find (moveN t f s to nm e.ino (underN dT.ents nm)).nodes f = some dF' ∧ find (moveN t f s to nm e.ino (underN dT.ents nm)).nodes e.ino = some m' ∧ findE dF'.ents s = none ∧
      MvOk (moveN t f s to nm e.ino (underN dT.ents nm)) dep' to nm f s dT' dF' m' ⟨nm, e.ino, t.cookie⟩ := by
  have hem := (findE_mem k.he).1
  obtain ⟨_, _, hx1, _, m0, hm0, hup⟩ := h.ent _ _ e k.hF hem
  have hmm : m0 = m := by rw [k.hm] at hm0; injection hm0 with hm0; exact hm0.symm
  subst hmm
  have chain := k.chain h hfree h' hx1
  have hdir := k.dirs h hfree
  have hdir' := k.dirs' h
  obtain ⟨b1, b2⟩ := k.base h
  have fT := find_moveN h k to
  rw [if_pos rfl] at fT
  have fX := find_moveN h k e.ino
  rw [if_neg k.ne, if_neg k.nf, if_pos rfl] at fX
  obtain ⟨dF', fF, kF', eF'⟩ : ∃ dF', find (moveN t f s to nm e.ino (underN dT.ents nm)).nodes f = some dF' ∧ dF'.kind = 2 ∧ findE dF'.ents s = none := by
    have fF := find_moveN h k f
    by_cases hft : f = to
    · rw [if_pos hft] at fF
      refine ⟨_, fF, k.kT, ?_⟩
      simp only
      rw [findE_insE b1 (e := ⟨nm, e.ino, t.cookie⟩) b2]
      have hsn : s ≠ nm := fun hh => by
        subst hh; subst hft
        have := k.hF; rw [k.hT] at this; injection this with this; subst this
        rw [k.he] at hfree; cases hfree
      simp only [hsn, ↓reduceIte, hft.symm]
      exact findE_dropE_none (findE_dropE _ _)
    · rw [if_neg hft, if_pos rfl] at fF
      exact ⟨_, fF, k.kF, findE_dropE _ _⟩
  have hkm : ∀ n', some (if m0.kind = 2 then { m0 with up := to } else m0) = some n' → n'.kind = m0.kind := by
    intro n' hn; injection hn with hn; subst hn; split <;> rfl
  have hnb : belowN t.nodes f e.ino = false := by
    rcases h.kind _ _ k.hm with hk | hk
    · exact h.below_file k.hm hk _ f dF k.hF k.kF rfl
    · have hd := (h.deps _ _ k.hm hk hx1).1
      rw [hup hk] at hd
      cases hb : belowN t.nodes f e.ino with
      | false => rfl
      | true => have := h.below_dep _ f dF k.hF k.kF rfl hb; omega
  obtain ⟨cf1, cf2⟩ := (chain _ f dF k.hF k.kF rfl).2 hnb
  have hdf : dep f < 12 := by
    obtain ⟨d1, d2⟩ := h.deep _ _ k.hF k.kF
    rcases Nat.lt_or_ge (dep f) 12 with hl | hl
    · exact hl
    · have := d2 (by omega); rw [this] at hem; cases hem
  refine ⟨_, dF', _, fT, fF, fX, eF', fT, k.kT, ?_, fF, kF', hs, fX, k.nf, k.ne, fun _ => cf1, by omega, fun hk => ?_, ?_, fun _ _ => ?_, fun e2 he2 => ?_⟩
  · simp only
    rw [findE_insE b1 (e := ⟨nm, e.ino, t.cookie⟩) b2]
    simp
  · have hk2 : m0.kind = 2 := by rw [← hkm _ rfl]; exact hk
    have hdx := (h.deps _ _ k.hm hk2 hx1).1
    rw [hup hk2] at hdx
    rcases Int.lt_or_le 12 (highN (moveN t f s to nm e.ino (underN dT.ents nm)).nodes e.ino (((dep' f + 1 : Nat) : Int))) with hlt | hle
    · exfalso
      rcases highGo_ex _ _ _ _ 12 _ 0 hlt with hh | ⟨n', n1, n2, n3⟩
      · omega
      · simp only [Bool.and_eq_true, beq_iff_eq] at n2
        have hi' := (find_iff h'.srt.asc).2 ⟨n1, rfl⟩
        rw [h'.depthN_eq fX hk, h'.highAt_eq fX hk (by omega) hi' n2.1 n2.2] at n3
        unfold redep at n3
        rw [if_pos n2.2] at n3
        obtain ⟨n, hn⟩ := hdir' _ _ hi'
        obtain ⟨n'', q1, q2, _, q4⟩ := hdir _ _ hn
        rw [hi'] at q1; injection q1 with q1; subst q1
        have hnk : n.kind = 2 := by omega
        obtain ⟨ch1, ch2⟩ := chain _ n'.ino n hn hnk rfl
        have hbt : belowN t.nodes n'.ino e.ino = true := by
          cases hb : belowN t.nodes n'.ino e.ino with
          | true => rfl
          | false => have := (ch2 hb).1; rw [n2.2] at this; cases this
        have hd1 := (ch1 hbt).2
        have hnt : n'.ino ≠ to := fun hh => by rw [hh, k.loop hk2] at hbt; cases hbt
        have hnf : n'.ino ≠ f := fun hh => by rw [hh, hnb] at hbt; cases hbt
        have hents := q4 hnt hnf
        obtain ⟨dd1, dd2⟩ := h.deep _ _ hn hnk
        have hbd := h.below_dep _ _ n hn hnk rfl hbt
        rw [hents] at n3
        split at n3
        · rename_i hl
          by_cases h12 : dep n'.ino = 12
          · rw [dd2 h12] at hl; simp at hl
          · omega
        · omega
    · exact hle
  · rw [moveN_cookie h k.cookie]; exact hck
  · have := h'.few fF; omega
  · rw [eF'] at he2; cases he2
theorem MvOk.there_and_back (h : GInv t dep 0) (k : MvOk t dep f s to nm dF dT m e) (hfree : findE dT.ents nm = none) (h' : GInv (moveN t f s to nm e.ino (underN dT.ents nm)) dep' 0) (hs : nameOk s = true) (hsn : Nm s) (hck : t.cookie + 1 < 1099511627776) :
    ∃ V : Tree, mvN (moveN t f s to nm e.ino (underN dT.ents nm)) to nm f s = (V, 0, 0) ∧ V.next = t.next ∧ t.nodes.length = V.nodes.length ∧ ∀ (i : Nat) p, t.nodes[i]? = some p → ∃ q, V.nodes[i]? = some q ∧ Alike p q := by
  obtain ⟨dT', dF', m', fT, fF, fX, eF, kb⟩ := k.back h hfree h' hs hck
  have hem := (findE_mem k.he).1
  obtain ⟨_, _, hx1, _, m0, hm0, hup⟩ := h.ent _ _ e k.hF hem
  have hmm : m0 = m := by rw [k.hm] at hm0; injection hm0 with hm0; exact hm0.symm
  subst hmm
  have hu : underN dT.ents nm = 0 := by simp [underN, hfree]
  have hu' : underN dF'.ents s = 0 := by simp [underN, eF]
  have hrun := kb.run h' k.hn
  obtain ⟨dep'', h''⟩ := h'.mv (fun _ => hsn) kb
  have hfind := find_moveN h' kb
  simp only at hrun hfind h''
  rw [hu'] at hrun hfind h''
  have hdom := fun i n (hi : find t.nodes i = some n) => k.dirs h hfree i n hi
  have hdom' := k.dirs' h
  have cT := find_moveN h k to
  rw [if_pos rfl, fT] at cT
  injection cT with cT
  have cX := find_moveN h k e.ino
  rw [if_neg k.ne, if_neg k.nf, if_pos rfl, fX] at cX
  injection cX with cX
  have cF := find_moveN h k f
  rw [fF] at cF
  have hET : AscE dT.ents := h.srt.ents dT (find_mem k.hT).1
  have hEF : AscE dF.ents := h.srt.ents dF (find_mem k.hF).1
  have hcU := moveN_cookie h k.cookie f s to nm e.ino (underN dT.ents nm)
  have hbase : dropE (if to = f then dropE dT.ents s else dT.ents) nm = (if to = f then dropE dT.ents s else dT.ents) := by
    refine dropE_none ?_
    split
    · exact findE_dropE_none hfree
    · exact hfree
  rw [hbase] at cT
  refine ⟨_, hrun, rfl, alike_rows h.srt.asc h''.srt.asc (fun i p hp => ?_) (fun i q hq => ?_)⟩
  · rw [hfind i]
    by_cases i1 : i = f
    · rw [if_pos i1]
      rw [i1, k.hF] at hp; injection hp with hp; subst hp
      refine ⟨_, rfl, ?_⟩
      by_cases hft : f = to
      · subst hft
        have hTF := k.hF; rw [k.hT] at hTF; injection hTF with hTF; subst hTF
        rw [if_pos rfl] at cF
        injection cF with cF
        rw [hbase] at cF
        simp only [↓reduceIte] at cF cT ⊢
        have hn0 : findE (dropE dT.ents s) (Ent.mk nm e.ino t.cookie).name = none := findE_dropE_none hfree
        have hd : dropE dF'.ents nm = dropE dT.ents s := by
          rw [cF]
          exact drop_ins (dropE_asc hET s) hn0
        rw [hd, dropE_self]
        refine ⟨by rw [cF], by rw [cF], by rw [cF], by rw [cF], by rw [cF], ?_⟩
        simp only
        exact (bare_again hET k.he _).symm
      · rw [if_neg hft, if_pos rfl] at cF
        injection cF with cF
        simp only [hft, ↓reduceIte]
        refine ⟨by rw [cF], by rw [cF], by rw [cF], by rw [cF], by rw [cF], ?_⟩
        simp only
        rw [cF]
        simp only
        rw [dropE_self]
        exact (bare_again hEF k.he _).symm
    · rw [if_neg i1]
      by_cases i2 : i = to
      · rw [if_pos i2]
        rw [i2, k.hT] at hp; injection hp with hp; subst hp
        refine ⟨_, rfl, ?_⟩
        have hft : ¬ to = f := fun hh => i1 (by rw [i2, hh])
        simp only [hft, ↓reduceIte] at cT
        have hd : dropE dT'.ents nm = dT.ents := by
          rw [cT]
          exact drop_ins hET (e := ⟨nm, e.ino, t.cookie⟩) hfree
        refine ⟨by rw [cT], by rw [cT], by rw [cT], by rw [cT], by rw [cT], ?_⟩
        simp only
        rw [hd]
      · rw [if_neg i2]
        by_cases i3 : i = e.ino
        · rw [if_pos i3]
          rw [i3, k.hm] at hp; injection hp with hp; subst hp
          refine ⟨_, rfl, ?_⟩
          rw [cX]
          rcases h.kind _ _ k.hm with hk | hk
          · have hk2 : ¬ m0.kind = 2 := by omega
            simp only [hk2, ↓reduceIte]
            exact Alike.refl _
          · simp only [hk, ↓reduceIte]
            exact ⟨rfl, hk, rfl, hup hk, rfl, rfl⟩
        · rw [if_neg i3]
          have i4 : ¬ i = 0 := fun hh => by rw [hh, h.zero] at hp; cases hp
          rw [if_neg i4, find_moveN h k i, if_neg i2, if_neg i1, if_neg i3, hu, if_neg i4]
          exact ⟨p, hp, Alike.refl _⟩
  · obtain ⟨n, hn⟩ := kb.dirs' h' i q (by simp only; rw [hu']; exact hq)
    exact hdom' i n hn
end
end Go.Proofs.YtnapockikkbkcaaGreat
namespace Go.Proofs.YtnapockikkbkcaaGreat
open Go Go.Abs
attribute [local irreducible] exK opsK opK gK forkK kr acall callOp owhen obind
theorem bytes_of : ∀ (d : Bytes), bytesOf (d.map eByte) = some d
  | [] => rfl
  | b :: d => by
    rw [List.map_cons]
    show obind (bytesOf (d.map eByte)) (fun l => some (UInt8.ofNat ((b.toNat : Int)).toNat :: l)) = some (b :: d)
    rw [bytes_of d, obind_some]
    simp
theorem c53 (a b : Bytes) : acall tab 53 [eData a, eData b] [] = some (.bool (a == b), []) := by
  refine acall_ex rfl rfl rfl ?_
  simp only [fn53, E53, bytes_of, EVT, EVD, ↓reduceIte, Nat.reduceEqDiff, reduceCtorEq, Nat.reduceAdd, Nat.reduceLeDiff, ne_eq, Nat.reduceLT, Int.reduceLT, Int.reduceLE, Int.reduceNeg]
theorem k53 (a b : Bytes) (M : AMem) : callOp (acall tab) 53 [eData a, eData b] M = some (.bool (a == b), M) := callOp0 (c53 a b) rfl rfl rfl rfl rfl M
theorem entB (x y : Ent) : decide (x = y) = (x.name == y.name && (x.ino == y.ino && (x.cookie == y.cookie && true))) := by
  cases x; cases y
  simp only [Ent.mk.injEq, Bool.and_true]
  rw [Bool.eq_iff_iff]
  simp
theorem eqEnt (x y : Ent) : eqCells [.s, .i, .i] (eEntC x) (eEntC y) = some (decide (x = y)) := by
  rw [entB]
  simp only [eEntC, eqCells, eqCell, obind_some, ↓reduceIte]
theorem allE (x : Ent) : (eEntC x).all AVal.isCell = true := rfl
theorem allN (x : Node) : (eNodeC x).all AVal.isCell = true := rfl
theorem loop54 {a b : List Ent} (ha : a.length ≤ 100000) {k : List K} {R : Bool → Option (AVal × AMem)}
    (hx : ∀ e, kr (acall tab) [.tmp 4] 0 k ⟨.exit 0, e, []⟩ = R true) (hr : kr (acall tab) [.tmp 4] 0 k ⟨.ret, [(4, .bool false)], []⟩ = R false) :
    ∀ (l m pre pre' : List Ent), a = pre ++ l → b = pre' ++ m → pre.length = pre'.length → l.length = m.length → exK (acall tab) [.tmp 4] 0 k (.loop [0, 1, 12, 13] lb54_0) [(0, eEnts a), (1, eEnts b), (12, .int .i64 a.length), (13, .int .i64 pre.length)] [] = R (decide (l = m)) := by
  intro l
  induction l with
  | nil =>
    intro m pre pre' h h' hp hl
    have hm : m = [] := List.length_eq_zero_iff.1 hl.symm
    subst hm
    rw [exK_loop]
    simp only [E54, lt_end h, EVT, EVD, ↓reduceIte, Nat.reduceEqDiff, reduceCtorEq, Nat.reduceAdd, Nat.reduceLeDiff, ne_eq, Nat.reduceLT, Int.reduceLT, Int.reduceLE, Int.reduceNeg]
    exact hx _
  | cons n r ih =>
    intro m pre pre' h h' hp hl
    cases m with
    | nil => cases hl
    | cons n' m =>
    rw [exK_loop]
    have hlen : pre.length + 1 ≤ 100000 := by rw [h] at ha; simp at ha; omega
    have hw : IntKind.i64.wrap ((pre.length : Int) + 1) = ((pre ++ [n]).length : Int) := by rw [wrap_small (by omega) (by omega)]; exact step_len
    have hi := ih m (pre ++ [n]) (pre' ++ [n']) (by rw [h]; simp) (by rw [h']; simp) (by simp [hp]) (by simpa using hl)
    have ha2 : b[pre.length]? = some n' := by rw [hp]; exact at_mid h'
    have hdc : decide (n :: r = n' :: m) = (decide (n = n') && decide (r = m)) := by
      rw [Bool.eq_iff_iff]; simp
    rw [hdc]
    simp only [List.length_append, List.length_cons, List.length_nil] at hi
    simp only [E54, lt_mid h, at_mid h, ha2, tkE, shE, eqEnt, allE, EVT, EVD, ↓reduceIte, Nat.reduceEqDiff, reduceCtorEq, Nat.reduceAdd, Nat.reduceLeDiff, ne_eq, Nat.reduceLT, Int.reduceLT, Int.reduceLE, Int.reduceNeg]
    refine fork_split (fun hb => ?_) (fun hb => ?_)
    · have hb' : decide (n = n') = false := by simpa using hb
      simp only [E54, hb', Bool.false_and, EVT, EVD, ↓reduceIte, Nat.reduceEqDiff, reduceCtorEq, Nat.reduceAdd, Nat.reduceLeDiff, ne_eq, Nat.reduceLT, Int.reduceLT, Int.reduceLE, Int.reduceNeg]
      exact hr
    · have hb' : decide (n = n') = true := by simpa using hb
      simp only [E54, hb', Bool.true_and, hw, EVT, EVD, ↓reduceIte, Nat.reduceEqDiff, reduceCtorEq, Nat.reduceAdd, Nat.reduceLeDiff, ne_eq, Nat.reduceLT, Int.reduceLT, Int.reduceLE, Int.reduceNeg]
      exact hi
theorem c54 (a b : List Ent) (ha : a.length ≤ 100000) : acall tab 54 [eEnts a, eEnts b] [] = some (.bool (decide (a = b)), []) := by
  refine acall_ex rfl rfl rfl ?_
  simp only [fn54, E54, EVT, EVD, ↓reduceIte, Nat.reduceEqDiff, reduceCtorEq, Nat.reduceAdd, Nat.reduceLeDiff, ne_eq, Nat.reduceLT, Int.reduceLT, Int.reduceLE, Int.reduceNeg]
  refine fork_split (fun hb => ?_) (fun hb => ?_)
  · have : decide (a = b) = false := by
      simp at hb ⊢
      rintro rfl; exact hb rfl
    simp only [E54, this, EVT, EVD, ↓reduceIte, Nat.reduceEqDiff, reduceCtorEq, Nat.reduceAdd, Nat.reduceLeDiff, ne_eq, Nat.reduceLT, Int.reduceLT, Int.reduceLE, Int.reduceNeg]
  · simp only [E54, EVT, EVD, ↓reduceIte, Nat.reduceEqDiff, reduceCtorEq, Nat.reduceAdd, Nat.reduceLeDiff, ne_eq, Nat.reduceLT, Int.reduceLT, Int.reduceLE, Int.reduceNeg]
    exact loop54 (R := fun z => some (.bool z, [])) ha (fun e => by simp only [E54, EVT, EVD, ↓reduceIte, Nat.reduceEqDiff, reduceCtorEq, Nat.reduceAdd, Nat.reduceLeDiff, ne_eq, Nat.reduceLT, Int.reduceLT, Int.reduceLE, Int.reduceNeg]) (by simp only [E54, EVT, EVD, ↓reduceIte, Nat.reduceEqDiff, reduceCtorEq, Nat.reduceAdd, Nat.reduceLeDiff, ne_eq, Nat.reduceLT, Int.reduceLT, Int.reduceLE, Int.reduceNeg]) a b [] [] rfl rfl rfl (by simp at hb; omega)
theorem k54 (a b : List Ent) (ha : a.length ≤ 100000) (M : AMem) : callOp (acall tab) 54 [eEnts a, eEnts b] M = some (.bool (decide (a = b)), M) := callOp0 (c54 a b ha) rfl rfl rfl rfl rfl M
theorem nodeB (x y : Node) : decide (x = y) = (x.ino == y.ino && (x.kind == y.kind && (x.links == y.links && (x.up == y.up && (x.data == y.data && decide (x.ents = y.ents)))))) := by
  cases x; cases y
  simp only [Node.mk.injEq]
  rw [Bool.eq_iff_iff]
  simp only [decide_eq_true_eq, Bool.and_eq_true, beq_iff_eq]
  constructor
  · rintro ⟨h1, h2, h3, h4, h5, h6⟩; exact ⟨h1, h2, h3, h6, h4, h5⟩
  · rintro ⟨h1, h2, h3, h6, h4, h5⟩; exact ⟨h1, h2, h3, h4, h5, h6⟩
theorem c52 (x y : Node) (hx : x.ents.length ≤ 100000) : acall tab 52 [eNode x, eNode y] [] = some (.bool (decide (x = y)), []) := by
  rw [nodeB]
  refine acall_ex rfl rfl rfl ?_
  simp only [fn52, E52, eNode, eNodeC, EVT, EVD, ↓reduceIte, Nat.reduceEqDiff, reduceCtorEq, Nat.reduceAdd, Nat.reduceLeDiff, ne_eq, Nat.reduceLT, Int.reduceLT, Int.reduceLE, Int.reduceNeg]
  repeat' (first | (refine fork_split (fun hb => ?_) (fun hb => ?_) <;> simp only [hb, E52, k53, k54, hx, EVT, EVD, ↓reduceIte, Nat.reduceEqDiff, reduceCtorEq, Nat.reduceAdd, Nat.reduceLeDiff, ne_eq, Nat.reduceLT, Int.reduceLT, Int.reduceLE, Int.reduceNeg]) | (refine guard_split (fun hb => ?_) (fun hb => ?_) <;> simp only [hb, E52, k53, k54, hx, EVT, EVD, ↓reduceIte, Nat.reduceEqDiff, reduceCtorEq, Nat.reduceAdd, Nat.reduceLeDiff, ne_eq, Nat.reduceLT, Int.reduceLT, Int.reduceLE, Int.reduceNeg]) | (refine opK_pick (fun hb => ?_) (fun hb => ?_) <;> simp only [hb, E52, k53, k54, hx, EVT, EVD, ↓reduceIte, Nat.reduceEqDiff, reduceCtorEq, Nat.reduceAdd, Nat.reduceLeDiff, ne_eq, Nat.reduceLT, Int.reduceLT, Int.reduceLE, Int.reduceNeg]))
  all_goals simp_all only [BBT, ↓reduceIte, reduceCtorEq, bne_self_eq_false]
theorem k52 (x y : Node) (hx : x.ents.length ≤ 100000) (M : AMem) : callOp (acall tab) 52 [.agg (eNodeC x), .agg (eNodeC y)] M = some (.bool (decide (x = y)), M) := callOp0 (c52 x y hx) rfl rfl rfl rfl rfl M
theorem loop55 {a b : List Node} (ha : a.length ≤ 100000) (he : ∀ n, n ∈ a → n.ents.length ≤ 100000) {k : List K} {R : Bool → Option (AVal × AMem)}
    (hx : ∀ e, kr (acall tab) [.tmp 6] 0 k ⟨.exit 0, e, []⟩ = R true) (hr : ∀ M, kr (acall tab) [.tmp 6] 0 k ⟨.ret, [(6, .bool false)], M⟩ = R false) :
    ∀ (l m pre pre' : List Node), a = pre ++ l → b = pre' ++ m → pre.length = pre'.length → l.length = m.length → exK (acall tab) [.tmp 6] 0 k (.loop [1, 2, 15, 16, 17] lb55_0) [(1, eNodes b), (2, .func 52 []), (15, eNodes a), (16, .int .i64 a.length), (17, .int .i64 pre.length)] [] = R (decide (l = m)) := by
  intro l
  induction l with
  | nil =>
    intro m pre pre' h h' hp hl
    have hm : m = [] := List.length_eq_zero_iff.1 hl.symm
    subst hm
    rw [exK_loop]
    simp only [E55, lt_end h, EVT, EVD, ↓reduceIte, Nat.reduceEqDiff, reduceCtorEq, Nat.reduceAdd, Nat.reduceLeDiff, ne_eq, Nat.reduceLT, Int.reduceLT, Int.reduceLE, Int.reduceNeg]
    exact hx _
  | cons n r ih =>
    intro m pre pre' h h' hp hl
    cases m with
    | nil => cases hl
    | cons n' m =>
    rw [exK_loop]
    have hlen : pre.length + 1 ≤ 100000 := by rw [h] at ha; simp at ha; omega
    have hw : IntKind.i64.wrap ((pre.length : Int) + 1) = ((pre ++ [n]).length : Int) := by rw [wrap_small (by omega) (by omega)]; exact step_len
    have hi := ih m (pre ++ [n]) (pre' ++ [n']) (by rw [h]; simp) (by rw [h']; simp) (by simp [hp]) (by simpa using hl)
    have ha2 : b[pre.length]? = some n' := by rw [hp]; exact at_mid h'
    have hen := he n (by rw [h]; simp)
    have hdc : decide (n :: r = n' :: m) = (decide (n = n') && decide (r = m)) := by
      rw [Bool.eq_iff_iff]; simp
    have hfl : List.flatMap AVal.ids1 (eNodeC n) = [] := rfl
    have hfl' : List.flatMap AVal.ids1 (eNodeC n') = [] := rfl
    rw [hdc]
    simp only [List.length_append, List.length_cons, List.length_nil] at hi
    simp only [E55, lt_mid h, at_mid h, ha2, tkN, shN, allN, k52, hen, hfl, hfl', EVT, EVD, ↓reduceIte, Nat.reduceEqDiff, reduceCtorEq, Nat.reduceAdd, Nat.reduceLeDiff, ne_eq, Nat.reduceLT, Int.reduceLT, Int.reduceLE, Int.reduceNeg]
    refine fork_split (fun hb => ?_) (fun hb => ?_)
    · have hb' : decide (n = n') = false := by simpa using hb
      simp only [E55, hb', Bool.false_and, EVT, EVD, ↓reduceIte, Nat.reduceEqDiff, reduceCtorEq, Nat.reduceAdd, Nat.reduceLeDiff, ne_eq, Nat.reduceLT, Int.reduceLT, Int.reduceLE, Int.reduceNeg]
      exact hr _
    · have hb' : decide (n = n') = true := by simpa using hb
      simp only [E55, hb', Bool.true_and, hw, EVT, EVD, ↓reduceIte, Nat.reduceEqDiff, reduceCtorEq, Nat.reduceAdd, Nat.reduceLeDiff, ne_eq, Nat.reduceLT, Int.reduceLT, Int.reduceLE, Int.reduceNeg]
      exact hi
theorem c55 (a b : List Node) (ha : a.length ≤ 100000) (he : ∀ n, n ∈ a → n.ents.length ≤ 100000) : acall tab 55 [eNodes a, eNodes b, .func 52 []] [] = some (.bool (decide (a = b)), []) := by
  refine acall_ex rfl rfl rfl ?_
  simp only [fn55, E55, EVT, EVD, ↓reduceIte, Nat.reduceEqDiff, reduceCtorEq, Nat.reduceAdd, Nat.reduceLeDiff, ne_eq, Nat.reduceLT, Int.reduceLT, Int.reduceLE, Int.reduceNeg]
  refine fork_split (fun hb => ?_) (fun hb => ?_)
  · have : decide (a = b) = false := by
      simp at hb ⊢
      rintro rfl; exact hb rfl
    simp only [E55, this, EVT, EVD, ↓reduceIte, Nat.reduceEqDiff, reduceCtorEq, Nat.reduceAdd, Nat.reduceLeDiff, ne_eq, Nat.reduceLT, Int.reduceLT, Int.reduceLE, Int.reduceNeg]
  · simp only [E55, EVT, EVD, ↓reduceIte, Nat.reduceEqDiff, reduceCtorEq, Nat.reduceAdd, Nat.reduceLeDiff, ne_eq, Nat.reduceLT, Int.reduceLT, Int.reduceLE, Int.reduceNeg]
    exact loop55 (R := fun z => some (.bool z, [])) ha he (fun e => by simp only [E55, EVT, EVD, ↓reduceIte, Nat.reduceEqDiff, reduceCtorEq, Nat.reduceAdd, Nat.reduceLeDiff, ne_eq, Nat.reduceLT, Int.reduceLT, Int.reduceLE, Int.reduceNeg]) (fun M => by simp only [E55, EVT, EVD, ↓reduceIte, Nat.reduceEqDiff, reduceCtorEq, Nat.reduceAdd, Nat.reduceLeDiff, ne_eq, Nat.reduceLT, Int.reduceLT, Int.reduceLE, Int.reduceNeg]) a b [] [] rfl rfl rfl (by simp at hb; omega)
theorem k55 (a b : List Node) (ha : a.length ≤ 100000) (he : ∀ n, n ∈ a → n.ents.length ≤ 100000) (M : AMem) : callOp (acall tab) 55 [eNodes a, eNodes b, .func 52 []] M = some (.bool (decide (a = b)), M) := callOp0 (c55 a b ha he) rfl rfl rfl rfl rfl M
theorem treeB (x y : Tree) : decide (x = y) = (x.next == y.next && (x.cookie == y.cookie && decide (x.nodes = y.nodes))) := by
  cases x; cases y
  simp only [Tree.mk.injEq]
  rw [Bool.eq_iff_iff]
  simp only [decide_eq_true_eq, Bool.and_eq_true, beq_iff_eq]
  constructor
  · rintro ⟨h1, h2, h3⟩; exact ⟨h2, h3, h1⟩
  · rintro ⟨h2, h3, h1⟩; exact ⟨h1, h2, h3⟩
theorem c18 (a b : Tree) (ha : Small a) : acall tab 18 [eTree a, eTree b] [] = some (.bool (decide (a = b)), []) := by
  rw [treeB]
  have h1 := ha.nodes
  have h2 := ha.ents
  refine acall_ex rfl rfl rfl ?_
  simp only [fn18, E18, eTree, eTreeC, EVT, EVD, ↓reduceIte, Nat.reduceEqDiff, reduceCtorEq, Nat.reduceAdd, Nat.reduceLeDiff, ne_eq, Nat.reduceLT, Int.reduceLT, Int.reduceLE, Int.reduceNeg]
  repeat' (first | (refine fork_split (fun hb => ?_) (fun hb => ?_) <;> simp only [hb, E18, k55 _ _ h1 h2, EVT, EVD, ↓reduceIte, Nat.reduceEqDiff, reduceCtorEq, Nat.reduceAdd, Nat.reduceLeDiff, ne_eq, Nat.reduceLT, Int.reduceLT, Int.reduceLE, Int.reduceNeg]) | (refine guard_split (fun hb => ?_) (fun hb => ?_) <;> simp only [hb, E18, k55 _ _ h1 h2, EVT, EVD, ↓reduceIte, Nat.reduceEqDiff, reduceCtorEq, Nat.reduceAdd, Nat.reduceLeDiff, ne_eq, Nat.reduceLT, Int.reduceLT, Int.reduceLE, Int.reduceNeg]) | (refine opK_pick (fun hb => ?_) (fun hb => ?_) <;> simp only [hb, E18, k55 _ _ h1 h2, EVT, EVD, ↓reduceIte, Nat.reduceEqDiff, reduceCtorEq, Nat.reduceAdd, Nat.reduceLeDiff, ne_eq, Nat.reduceLT, Int.reduceLT, Int.reduceLE, Int.reduceNeg]))
  all_goals simp_all only [BBT, ↓reduceIte, reduceCtorEq, bne_self_eq_false]
theorem k18 (a b : Tree) (ha : Small a) (M : AMem) : callOp (acall tab) 18 [.agg [eNodes a.nodes, .int .i64 a.next, .int .i64 a.cookie], .agg [eNodes b.nodes, .int .i64 b.next, .int .i64 b.cookie]] M = some (.bool (decide (a = b)), M) := callOp0 (c18 a b ha) rfl rfl rfl rfl rfl M
end Go.Proofs.YtnapockikkbkcaaGreat
set_option linter.defProp false
namespace Go.Proofs.YtnapockikkbkcaaGreat
open Go Go.Abs
def q7_0 : ACode :=
 (.seq (.region [
 ob 28 (.mv (.tmp 11)),
 ob 10 (.mv (.tmp 28))] false [10]) (.ret))
def q7_1 : ACode :=
 (.seq (.region [
 ob 60 (.mv (.tmp 11)),
 ob 10 (.mv (.tmp 60))] false [10]) (.ret))
def q7_2 : ACode :=
 (.seq (.region [
 ob 10 (.mv (.cst (.bool false)))] false [10]) (.ret))
def q7_3 : ACode :=
 (.seq (.region [
 ob 10 (.mv (.cst (.bool false)))] false [10]) (.ret))
def q7_4 : ACode :=
 (.seq (.region [
 ob 10 (.mv (.cst (.bool false)))] false [10]) (.ret))
def q7_5 : ACode :=
 (.region [
 ob 161 (.mv (.tmp 24)),
 ob 162 (.bin .add (.tmp 161) (.cst (.int .i64 1))),
 ob 24 (.mv (.tmp 162))] false [11, 12, 18, 21, 22, 23, 24])
def q7_6 : ACode :=
 (.seq (.block 3 (.seq (.region [
 ob 163 (.faddr 4 (.tmp 22)),
 ob 164 (.load1 (.tmp 163)),
 ob 165 (.mv (.tmp 24)),
 ob 166 (.iaddr 3 (.tmp 164) (.tmp 165)),
 ob 167 (.faddr 0 (.tmp 166)),
 ob 168 (.load1 (.tmp 167)),
 ob 169 (.faddr 4 (.tmp 23)),
 ob 170 (.load1 (.tmp 169)),
 ob 171 (.mv (.tmp 24)),
 ob 172 (.iaddr 3 (.tmp 170) (.tmp 171)),
 ob 173 (.faddr 0 (.tmp 172)),
 ob 174 (.load1 (.tmp 173)),
 ob 175 (.bin .neq (.tmp 168) (.tmp 174)),
 ob 176 (.mv (.tmp 175)),
 og 177 176 false (.faddr 4 (.tmp 22)),
 og 178 176 false (.load1 (.tmp 177)),
 og 179 176 false (.mv (.tmp 24)),
 og 180 176 false (.iaddr 3 (.tmp 178) (.tmp 179)),
 og 181 176 false (.faddr 1 (.tmp 180)),
 og 182 176 false (.load1 (.tmp 181)),
 og 183 176 false (.faddr 4 (.tmp 23)),
 og 184 176 false (.load1 (.tmp 183)),
 og 185 176 false (.mv (.tmp 24)),
 og 186 176 false (.iaddr 3 (.tmp 184) (.tmp 185)),
 og 187 176 false (.faddr 1 (.tmp 186)),
 og 188 176 false (.load1 (.tmp 187)),
 og 189 176 false (.bin .neq (.tmp 182) (.tmp 188)),
 ob 190 (.pick (.tmp 176) (.cst (.bool true)) (.tmp 189))] true [11, 12, 18, 21, 22, 23, 24, 190]) (.cond (.tmp 190) q7_4 (.skip)))) q7_5)
def lb7_0 : ACode :=
 (.seq (.seq (.region [
 ob 156 (.mv (.tmp 24)),
 ob 157 (.faddr 4 (.tmp 22)),
 ob 158 (.load1 (.tmp 157)),
 ob 159 (.lenV (.tmp 158)),
 ob 160 (.bin .lss (.tmp 156) (.tmp 159))] false [11, 12, 18, 21, 22, 23, 24, 160]) (.cond (.tmp 160) (.skip) (.exit 2))) q7_6)
def q7_7 : ACode :=
 (.block 2 (.loop [11, 12, 18, 21, 22, 23, 24] lb7_0))
def q7_8 : ACode :=
 (.seq (.region [
 ob 24 (.mv (.cst (.int .i64 0)))] false [11, 12, 18, 21, 22, 23, 24]) q7_7)
def q7_9 : ACode :=
 (.seq (.seq (.region [
 ob 112 (.faddr 0 (.tmp 22)),
 ob 113 (.load1 (.tmp 112)),
 ob 114 (.faddr 0 (.tmp 23)),
 ob 115 (.load1 (.tmp 114)),
 ob 116 (.bin .neq (.tmp 113) (.tmp 115)),
 ob 117 (.mv (.tmp 116)),
 og 118 117 false (.faddr 1 (.tmp 22)),
 og 119 117 false (.load1 (.tmp 118)),
 og 120 117 false (.faddr 1 (.tmp 23)),
 og 121 117 false (.load1 (.tmp 120)),
 og 122 117 false (.bin .neq (.tmp 119) (.tmp 121)),
 ob 123 (.pick (.tmp 117) (.cst (.bool true)) (.tmp 122)),
 ob 124 (.mv (.tmp 123)),
 og 125 124 false (.faddr 2 (.tmp 22)),
 og 126 124 false (.load1 (.tmp 125)),
 og 127 124 false (.faddr 2 (.tmp 23)),
 og 128 124 false (.load1 (.tmp 127)),
 og 129 124 false (.bin .neq (.tmp 126) (.tmp 128)),
 ob 130 (.pick (.tmp 124) (.cst (.bool true)) (.tmp 129)),
 ob 131 (.mv (.tmp 130)),
 og 132 131 false (.faddr 5 (.tmp 22)),
 og 133 131 false (.load1 (.tmp 132)),
 og 134 131 false (.faddr 5 (.tmp 23)),
 og 135 131 false (.load1 (.tmp 134)),
 og 136 131 false (.bin .neq (.tmp 133) (.tmp 135)),
 ob 137 (.pick (.tmp 131) (.cst (.bool true)) (.tmp 136)),
 ob 138 (.mv (.tmp 137)),
 og 139 138 false (.faddr 3 (.tmp 22)),
 og 140 138 false (.load1 (.tmp 139)),
 og 141 138 false (.b2s (.tmp 140)),
 og 142 138 false (.faddr 3 (.tmp 23)),
 og 143 138 false (.load1 (.tmp 142)),
 og 144 138 false (.b2s (.tmp 143)),
 og 145 138 false (.bin .neq (.tmp 141) (.tmp 144)),
 ob 146 (.pick (.tmp 138) (.cst (.bool true)) (.tmp 145)),
 ob 147 (.mv (.tmp 146)),
 og 148 147 false (.faddr 4 (.tmp 22)),
 og 149 147 false (.load1 (.tmp 148)),
 og 150 147 false (.lenV (.tmp 149)),
 og 151 147 false (.faddr 4 (.tmp 23)),
 og 152 147 false (.load1 (.tmp 151)),
 og 153 147 false (.lenV (.tmp 152)),
 og 154 147 false (.bin .neq (.tmp 150) (.tmp 153)),
 ob 155 (.pick (.tmp 147) (.cst (.bool true)) (.tmp 154))] false [11, 12, 18, 21, 22, 23, 155]) (.cond (.tmp 155) q7_3 (.skip))) q7_8)
def q7_10 : ACode :=
 (.seq (.region [
 ob 107 (.faddr 0 (.tmp 18)),
 ob 108 (.load1 (.tmp 107)),
 ob 109 (.mv (.tmp 21)),
 ob 110 (.iaddr 6 (.tmp 108) (.tmp 109)),
 ob 111 (.loadA 6 (.tmp 110)),
 ob 23 (.box0 [(.int .i64 0), (.int .i64 0), (.int .i64 0), (.slice .c0 []), (.slice .c0 []), (.int .i64 0)]),
 ox (.store 6 (.tmp 23) (.tmp 111))] false [11, 12, 18, 21, 22, 23]) q7_9)
def q7_11 : ACode :=
 (.region [
 ob 100 (.mv (.tmp 21)),
 ob 101 (.bin .add (.tmp 100) (.cst (.int .i64 1))),
 ob 21 (.mv (.tmp 101))] false [11, 12, 18, 21])
def q7_12 : ACode :=
 (.seq (.block 1 (.seq (.region [
 ob 102 (.faddr 0 (.tmp 12)),
 ob 103 (.load1 (.tmp 102)),
 ob 104 (.mv (.tmp 21)),
 ob 105 (.iaddr 6 (.tmp 103) (.tmp 104)),
 ob 106 (.loadA 6 (.tmp 105)),
 ob 22 (.box0 [(.int .i64 0), (.int .i64 0), (.int .i64 0), (.slice .c0 []), (.slice .c0 []), (.int .i64 0)]),
 ox (.store 6 (.tmp 22) (.tmp 106))] false [11, 12, 18, 21, 22]) q7_10)) q7_11)
def lb7_1 : ACode :=
 (.seq (.seq (.region [
 ob 95 (.mv (.tmp 21)),
 ob 96 (.faddr 0 (.tmp 12)),
 ob 97 (.load1 (.tmp 96)),
 ob 98 (.lenV (.tmp 97)),
 ob 99 (.bin .lss (.tmp 95) (.tmp 98))] false [11, 12, 18, 21, 99]) (.cond (.tmp 99) (.skip) (.exit 0))) q7_12)
def q7_13 : ACode :=
 (.seq (.region [
 ob 191 (.mv (.tmp 11)),
 ob 10 (.mv (.tmp 191))] false [10]) (.ret))
def q7_14 : ACode :=
 (.seq (.seq (.region [
 ob 21 (.mv (.cst (.int .i64 0)))] false [11, 12, 18, 21]) (.block 0 (.loop [11, 12, 18, 21] lb7_1))) q7_13)
def q7_15 : ACode :=
 (.seq (.seq (.region [
 ob 73 (.mv (.tmp 20)),
 ob 74 (.bin .neq (.tmp 73) (.cst (.int .i64 0))),
 ob 75 (.mv (.tmp 74)),
 og 76 75 false (.mv (.tmp 19)),
 og 77 75 false (.bin .neq (.tmp 76) (.cst (.int .i64 0))),
 ob 78 (.pick (.tmp 75) (.cst (.bool true)) (.tmp 77)),
 ob 79 (.mv (.tmp 78)),
 og 80 79 false (.faddr 0 (.tmp 18)),
 og 81 79 false (.load1 (.tmp 80)),
 og 82 79 false (.lenV (.tmp 81)),
 og 83 79 false (.faddr 0 (.tmp 12)),
 og 84 79 false (.load1 (.tmp 83)),
 og 85 79 false (.lenV (.tmp 84)),
 og 86 79 false (.bin .neq (.tmp 82) (.tmp 85)),
 ob 87 (.pick (.tmp 79) (.cst (.bool true)) (.tmp 86)),
 ob 88 (.mv (.tmp 87)),
 og 89 88 false (.faddr 1 (.tmp 18)),
 og 90 88 false (.load1 (.tmp 89)),
 og 91 88 false (.faddr 1 (.tmp 12)),
 og 92 88 false (.load1 (.tmp 91)),
 og 93 88 false (.bin .neq (.tmp 90) (.tmp 92)),
 ob 94 (.pick (.tmp 88) (.cst (.bool true)) (.tmp 93))] false [11, 12, 18, 94]) (.cond (.tmp 94) q7_2 (.skip))) q7_14)
def q7_16 : ACode :=
 (.seq (.region [
 ob 62 (.loadA 3 (.tmp 15)),
 ob 63 (.mv (.tmp 14)),
 ob 64 (.mv (.tmp 4)),
 ⟨(some 65), .call 16 [(.tmp 64)], none, false, true, []⟩,
 ob 66 (.mv (.tmp 13)),
 ob 67 (.mv (.tmp 2)),
 ⟨(some 68), .call 16 [(.tmp 67)], none, false, true, []⟩,
 ⟨(some 69), .call 17 [(.tmp 62), (.tmp 63), (.tmp 65), (.tmp 66), (.tmp 68)], none, false, true, []⟩,
 ob 61 (.mv (.tmp 69)),
 ob 70 (.extract (.tmp 61) 0),
 ob 71 (.extract (.tmp 61) 1),
 ob 72 (.extract (.tmp 61) 2),
 ⟨(some 18), .box0 [(.slice .c0 []), (.int .i64 0), (.int .i64 0)], none, true, false, []⟩,
 ox (.store 3 (.tmp 18) (.tmp 70)),
 ob 19 (.mv (.tmp 71)),
 ob 20 (.mv (.tmp 72))] true [11, 12, 18, 19, 20]) q7_15)
def q7_17 : ACode :=
 (.seq (.seq (.region [
 ob 49 (.mv (.tmp 17)),
 ob 50 (.bin .neq (.tmp 49) (.cst (.int .i64 0))),
 ob 51 (.mv (.tmp 50)),
 og 52 51 false (.mv (.tmp 16)),
 og 53 51 false (.bin .neq (.tmp 52) (.cst (.int .i64 0))),
 ob 54 (.pick (.tmp 51) (.cst (.bool true)) (.tmp 53)),
 ob 55 (.mv (.tmp 54)),
 og 56 55 false (.loadA 3 (.tmp 12)),
 og 57 55 false (.loadA 3 (.tmp 15)),
 og 58 55 false (.call 18 [(.tmp 56), (.tmp 57)]),
 ob 59 (.pick (.tmp 55) (.cst (.bool true)) (.tmp 58))] false [2, 4, 11, 12, 13, 14, 15, 59]) (.cond (.tmp 59) q7_1 (.skip))) q7_16)
def q7_18 : ACode :=
 (.seq (.region [
 ob 38 (.loadA 3 (.tmp 12)),
 ob 39 (.mv (.tmp 13)),
 ob 40 (.mv (.tmp 2)),
 ⟨(some 41), .call 16 [(.tmp 40)], none, false, true, []⟩,
 ob 42 (.mv (.tmp 14)),
 ob 43 (.mv (.tmp 4)),
 ⟨(some 44), .call 16 [(.tmp 43)], none, false, true, []⟩,
 ⟨(some 45), .call 17 [(.tmp 38), (.tmp 39), (.tmp 41), (.tmp 42), (.tmp 44)], none, false, true, []⟩,
 ob 37 (.mv (.tmp 45)),
 ob 46 (.extract (.tmp 37) 0),
 ob 47 (.extract (.tmp 37) 1),
 ob 48 (.extract (.tmp 37) 2),
 ⟨(some 15), .box0 [(.slice .c0 []), (.int .i64 0), (.int .i64 0)], none, true, false, []⟩,
 ox (.store 3 (.tmp 15) (.tmp 46)),
 ob 16 (.mv (.tmp 47)),
 ob 17 (.mv (.tmp 48))] true [2, 4, 11, 12, 13, 14, 15, 16, 17]) q7_17)
def q7_19 : ACode :=
 (.seq (.region [
 ob 34 (.loadA 3 (.tmp 12)),
 ob 35 (.mv (.tmp 3)),
 ob 36 (.call 14 [(.tmp 34), (.tmp 35)]),
 ob 14 (.mv (.tmp 36))] false [2, 4, 11, 12, 13, 14]) q7_18)
def q7_20 : ACode :=
 (.seq (.region [
 ob 31 (.loadA 3 (.tmp 12)),
 ob 32 (.mv (.tmp 1)),
 ob 33 (.call 14 [(.tmp 31), (.tmp 32)]),
 ob 13 (.mv (.tmp 33))] false [2, 3, 4, 11, 12, 13]) q7_19)
def q7_21 : ACode :=
 (.seq (.region [
 ob 29 (.mv (.tmp 0)),
 ob 30 (.call 13 [(.tmp 29)]),
 ob 12 (.box0 [(.slice .c0 []), (.int .i64 0), (.int .i64 0)]),
 ox (.store 3 (.tmp 12) (.tmp 30))] false [1, 2, 3, 4, 11, 12]) q7_20)
def q7_22 : ACode :=
 (.seq (.seq (.region [
 ob 26 (.mv (.tmp 0)),
 ob 27 (.call 12 [(.tmp 26)])] false [0, 1, 2, 3, 4, 11, 27]) (.cond (.tmp 27) q7_0 (.skip))) q7_21)
def q7_23 : ACode :=
 (.seq (.region [
 ob 25 (.call 11 []),
 ob 11 (.mv (.tmp 25))] false [0, 1, 2, 3, 4, 11]) q7_22)
def E7 := And.intro (exK_head q7_0.eq_1) (And.intro (exK_head q7_1.eq_1) (And.intro (exK_head q7_2.eq_1) (And.intro (exK_head q7_3.eq_1) (And.intro (exK_head q7_4.eq_1) (And.intro (exK_head q7_5.eq_1) (And.intro (exK_head q7_6.eq_1) (And.intro (exK_head lb7_0.eq_1) (And.intro (exK_head q7_7.eq_1) (And.intro (exK_head q7_8.eq_1) (And.intro (exK_head q7_9.eq_1) (And.intro (exK_head q7_10.eq_1) (And.intro (exK_head q7_11.eq_1) (And.intro (exK_head q7_12.eq_1) (And.intro (exK_head lb7_1.eq_1) (And.intro (exK_head q7_13.eq_1) (And.intro (exK_head q7_14.eq_1) (And.intro (exK_head q7_15.eq_1) (And.intro (exK_head q7_16.eq_1) (And.intro (exK_head q7_17.eq_1) (And.intro (exK_head q7_18.eq_1) (And.intro (exK_head q7_19.eq_1) (And.intro (exK_head q7_20.eq_1) (And.intro (exK_head q7_21.eq_1) (And.intro (exK_head q7_22.eq_1) (exK_head q7_23.eq_1)))))))))))))))))))))))))
def ann7 : Ann := { n := 192, own := [], lv := [(0, [0, 1, 2, 3, 4]), (1, [0, 1, 2, 3, 4, 11]), (2, [0, 1, 2, 3, 4, 11, 27]), (3, [10]), (4, [1, 2, 3, 4, 11, 12]), (5, [2, 3, 4, 11, 12, 13]), (6, [2, 4, 11, 12, 13, 14]), (7, [2, 4, 11, 12, 13, 14, 15, 16, 17]), (8, [2, 4, 11, 12, 13, 14, 15, 59]), (9, [10]), (10, [11, 12, 18, 19, 20]), (11, [11, 12, 18, 94]), (12, [10]), (13, [11, 12, 18, 21]), (14, [11, 12, 18, 21, 99]), (15, [11, 12, 18, 21]), (16, [11, 12, 18, 21, 22]), (17, [11, 12, 18, 21, 22, 23]), (18, [11, 12, 18, 21, 22, 23, 155]), (19, [10]), (20, [11, 12, 18, 21, 22, 23, 24]), (21, [11, 12, 18, 21, 22, 23, 24, 160]), (22, [11, 12, 18, 21, 22, 23, 24]), (23, [11, 12, 18, 21, 22, 23, 24, 190]), (24, [10]), (25, [10])], lp := [(14, [11, 12, 18, 21]), (21, [11, 12, 18, 21, 22, 23, 24])] }
def fn7 : AFn := AFn.mk 5 [.tmp 10]
  (.seq (.region [
  ob 10 (.mv (.cst (.bool false)))] false [0, 1, 2, 3, 4]) q7_23)
theorem ok7 : compFn Tryz.prog ann7 Tryz.f7 = some fn7 := by kernel_rfl
end Go.Proofs.YtnapockikkbkcaaGreat
namespace Go.Proofs.YtnapockikkbkcaaGreat
open Go Go.Abs Go.ChangeShapes Go.WideShapes Go.RowKit Go.Deep
set_option maxRecDepth 100000 in
theorem treeBack_lifted {T : Tab} (hT : SoundC Tryz.prog (acall T)) (K : ∀ (x0 : List Step) (x1 : Nat) (x2 : Nat) (x3 : Nat) (x4 : Nat), (∀ s, s ∈ x0 → stepOk s) → x1 < 256 → x2 < 256 → x3 < 256 → x4 < 256 → acall T 7 [eSteps x0, eU x1, eU x2, eU x3, eU x4] [] = some (.bool true, []))
    (os : Os) (started : os.Started) (H : Type) (enc : TypeId × Value → H) :
    ReturnsInHanded {} Tryz.checked os 7 .any (Rows.treeBackSpec.pre6 enc Tryz.prog Tryz.f7 Rows.treeBackRow.domain false) (Rows.treeBackSpec.post enc Tryz.prog Tryz.f7 false Rows.treeBackRow.fresh Rows.treeBackRow.handsOn Rows.treeBackRow.again) := by
  refine returnsInHanded_of_change (C := Tryz.checked) ownK started (by kernel_rfl) Tryz.func7
    (ChangeSpec.witness6 (enc := enc) (C := Tryz.checked) false ⟨#[], #[.slice none 0 0, .int .u8 0, .int .u8 0, .int .u8 0, .int .u8 0], []⟩ 8 (by kernel_rfl) (by kernel_rfl) (by kernel_rfl) (by kernel_rfl)) ?_
  intro W base args ds gs before hval0 hW _ _
  have hval : ∀ (j : Nat) t v, Tryz.f7.params[j]? = some t → args[j]? = some v → Value.okWide Tryz.prog W .any base t v := hval0
  have hW' := hW
  obtain ⟨p, q, hA0, hV, rfl, _, _⟩ := hW
  have hA : DataW.TrodAll enc Tryz.prog W 0 (fun _ => true) true Tryz.f7.params.toList args.toList ds p := hA0
  have hA1 := hA
  rw [Tryz.params7] at hA hval
  obtain ⟨v0, vs1, d0, ds1, p0, q0, hvs0, rfl, rfl, h0, hA⟩ := trodAll_cons hA
  obtain ⟨v1, vs2, d1, ds2, p1, q1, rfl, rfl, rfl, h1, hA⟩ := trodAll_cons hA
  obtain ⟨v2, vs3, d2, ds3, p2, q2, rfl, rfl, rfl, h2, hA⟩ := trodAll_cons hA
  obtain ⟨v3, vs4, d3, ds4, p3, q3, rfl, rfl, rfl, h3, hA⟩ := trodAll_cons hA
  obtain ⟨v4, vs5, d4, ds5, p4, q4, rfl, rfl, rfl, h4, hA⟩ := trodAll_cons hA
  obtain ⟨rfl, rfl, rfl⟩ := trodAll_nil hA
  obtain rfl := two_of hvs0
  obtain ⟨rfl, rfl⟩ := trodVars_none hV
  obtain ⟨m0, l0, r0⟩ := steps_rep h0 (steps_cells Tryz.underlying22 (hval 0 22 _ rfl rfl))
  obtain ⟨n1, rfl, rfl, _, w1⟩ := open_int Tryz.underlying5 (hval 1 5 _ rfl rfl) h1
  obtain ⟨m1, rfl, l1⟩ := u8_nat w1
  obtain ⟨n2, rfl, rfl, _, w2⟩ := open_int Tryz.underlying5 (hval 2 5 _ rfl rfl) h2
  obtain ⟨m2, rfl, l2⟩ := u8_nat w2
  obtain ⟨n3, rfl, rfl, _, w3⟩ := open_int Tryz.underlying5 (hval 3 5 _ rfl rfl) h3
  obtain ⟨m3, rfl, l3⟩ := u8_nat w3
  obtain ⟨n4, rfl, rfl, _, w4⟩ := open_int Tryz.underlying5 (hval 4 5 _ rfl rfl) h4
  obtain ⟨m4, rfl, l4⟩ := u8_nat w4
  have hlt : ∀ x ∈ (p0 ++ (p1 ++ (p2 ++ (p3 ++ (p4 ++ []))))), x.block < W.heap.size := fun x hx => hW'.lt x (by simpa using hx)
  refine (plain_callS hT (K m0 m1 m2 m3 m4 l0 l1 l2 l3 l4) W _ rfl ?_).mono ?_
  · intro i c v hc hv
    match i with
    | 0 => cases hc; cases hv; exact .plain r0
    | 1 => cases hc; cases hv; exact .plain (.int _ _)
    | 2 => cases hc; cases hv; exact .plain (.int _ _)
    | 3 => cases hc; cases hv; exact .plain (.int _ _)
    | 4 => cases hc; cases hv; exact .plain (.int _ _)
    | i + 5 => cases hc
  · rintro e W' ⟨v, j', rfl, hb, hrep⟩
    obtain rfl := hrep.bool_inv
    exact ⟨_, rfl, ⟨_, _, _, [], _, [], hW', trodAll_mk1 (shut_bool Tryz.underlying4 true), trodAll_stays hb hA1 (by rw [Tryz.params7]; intro t ht; simp at ht; rcases ht with rfl | rfl <;> exact ⟨by kernel_rfl, of_decide_eq_true (by kernel_rfl)⟩) hlt, rfl, hb.frame _, fun h => by cases h⟩⟩
theorem treeBack_of {T : Tab} (hT : SoundC Tryz.prog (acall T)) (K : ∀ (x0 : List Step) (x1 : Nat) (x2 : Nat) (x3 : Nat) (x4 : Nat), (∀ s, s ∈ x0 → stepOk s) → x1 < 256 → x2 < 256 → x3 < 256 → x4 < 256 → acall T 7 [eSteps x0, eU x1, eU x2, eU x3, eU x4] [] = some (.bool true, [])) : Rows.TreeBackSaid :=
  OpenClaim.holds_of_wide 7 Tryz.f7 rfl rfl rfl rfl rfl rfl rfl ⟨rfl, rfl, rfl, rfl, rfl⟩ rfl rfl rfl rfl rfl (by kernel_rfl) Tryz.func7 (by kernel_rfl)
    (of_decide_eq_true (by kernel_rfl)) (by unfold Func.isWrapper; rw [if_neg (by decide +kernel)]; exact ⟨rfl, rfl⟩)
    (fun os started H enc _ => treeBack_lifted hT K os started H enc)
end Go.Proofs.YtnapockikkbkcaaGreat
namespace Go.Proofs.YtnapockikkbkcaaGreat
open Go Go.Abs
attribute [local irreducible] exK opsK opK gK forkK kr acall callOp owhen obind
def cLg : Nat → Option AFn
  | 7 => some fn7
  | _ => none
theorem xLg : ExtOk cLg := by
  refine ⟨fun f fn h => ?_, fun f fn h => ?_⟩
  · unfold cLg at h
    split at h
    · injection h with h; subst h; exact ⟨_, _, Tryz.func7, ok7⟩
    · cases h
  · unfold cLg at h
    split at h
    · exact ⟨rfl, rfl⟩
    · cases h
theorem loop7a {tn un vn : List Node} {tx tc ux uc vx vc : Int} {i : Nat} {p q : Node} (he : p.ents.length ≤ 100000) {k : List K} {r : Option (AVal × AMem)}
    (hx : ∀ v w, kr (acall (tabX cLg)) [.tmp 10] 0 k ⟨.exit 2, [(11, .bool true), (12, .ptr 0 0), (18, .ptr 2 0), (21, .int .i64 i), (22, .ptr 3 0), (23, .ptr 4 0), (24, v), (160, w)], [.cells [eNodes tn, .int .i64 tx, .int .i64 tc], .cells [eNodes un, .int .i64 ux, .int .i64 uc], .cells [eNodes vn, .int .i64 vx, .int .i64 vc], .cells (eNodeC p), .cells (eNodeC q)]⟩ = r) :
    ∀ (l m pre pre' : List Ent), p.ents = pre ++ l → q.ents = pre' ++ m → pre.length = pre'.length → l.map bare = m.map bare → exK (acall (tabX cLg)) [.tmp 10] 0 k (.loop [11, 12, 18, 21, 22, 23, 24] lb7_0) [(11, .bool true), (12, .ptr 0 0), (18, .ptr 2 0), (21, .int .i64 i), (22, .ptr 3 0), (23, .ptr 4 0), (24, .int .i64 pre.length)] [.cells [eNodes tn, .int .i64 tx, .int .i64 tc], .cells [eNodes un, .int .i64 ux, .int .i64 uc], .cells [eNodes vn, .int .i64 vx, .int .i64 vc], .cells (eNodeC p), .cells (eNodeC q)] = r := by
  simp only [eNodeC] at hx ⊢
  intro l
  induction l with
  | nil =>
    intro m pre pre' h h' hp hb
    rw [exK_loop]
    simp only [E7, lt_end h, EVT, EVD, ↓reduceIte, Nat.reduceEqDiff, reduceCtorEq, Nat.reduceAdd, Nat.reduceLeDiff, ne_eq, Nat.reduceLT, Int.reduceLT, Int.reduceLE, Int.reduceNeg]
    exact hx _ _
  | cons x rest ih =>
    intro m pre pre' h h' hp hb
    cases m with
    | nil => simp at hb
    | cons y m =>
    rw [exK_loop]
    have hlen : pre.length + 1 ≤ 100000 := by rw [h] at he; simp at he; omega
    have hw : IntKind.i64.wrap ((pre.length : Int) + 1) = ((pre ++ [x]).length : Int) := by rw [wrap_small (by omega) (by omega)]; exact step_len
    simp only [List.map_cons, List.cons.injEq, bare, Ent.mk.injEq, and_true] at hb
    obtain ⟨⟨hb1, hb2⟩, hb3⟩ := hb
    have hh := ih m (pre ++ [x]) (pre' ++ [y]) (by rw [h]; simp) (by rw [h']; simp) (by simp [hp]) hb3
    simp only [List.length_append, List.length_cons, List.length_nil] at hh
    have ha2 : q.ents[pre.length]? = some y := by rw [hp]; exact at_mid h'
    simp only [E7, lt_mid h, at_mid h, ha2, eEntC, hw, hb1, hb2, bne_self_eq_false, EVT, EVD, ↓reduceIte, Nat.reduceEqDiff, reduceCtorEq, Nat.reduceAdd, Nat.reduceLeDiff, ne_eq, Nat.reduceLT, Int.reduceLT, Int.reduceLE, Int.reduceNeg]
    exact hh
set_option maxHeartbeats 1000000 in
theorem loop7b {tn un vn : List Node} {tx tc ux uc vx vc : Int} (hn : tn.length ≤ 1000) (he : ∀ n, n ∈ tn → n.ents.length ≤ 1000) (hal : ∀ (i : Nat) p, tn[i]? = some p → ∃ q, vn[i]? = some q ∧ Alike p q) {k : List K} {r : Option (AVal × AMem)}
    (hx : ∀ v w, kr (acall (tabX cLg)) [.tmp 10] 0 k ⟨.exit 0, [(11, .bool true), (12, .ptr 0 0), (18, .ptr 2 0), (21, v), (99, w)], [.cells [eNodes tn, .int .i64 tx, .int .i64 tc], .cells [eNodes un, .int .i64 ux, .int .i64 uc], .cells [eNodes vn, .int .i64 vx, .int .i64 vc]]⟩ = r) :
    ∀ (l pre : List Node), tn = pre ++ l → exK (acall (tabX cLg)) [.tmp 10] 0 k (.loop [11, 12, 18, 21] lb7_1) [(11, .bool true), (12, .ptr 0 0), (18, .ptr 2 0), (21, .int .i64 pre.length)] [.cells [eNodes tn, .int .i64 tx, .int .i64 tc], .cells [eNodes un, .int .i64 ux, .int .i64 uc], .cells [eNodes vn, .int .i64 vx, .int .i64 vc]] = r := by
  intro l
  induction l with
  | nil =>
    intro pre h
    rw [exK_loop]
    simp only [E7, lt_end h, EVT, EVD, ↓reduceIte, Nat.reduceEqDiff, reduceCtorEq, Nat.reduceAdd, Nat.reduceLeDiff, ne_eq, Nat.reduceLT, Int.reduceLT, Int.reduceLE, Int.reduceNeg]
    exact hx _ _
  | cons x rest ih =>
    intro pre h
    have hlen : pre.length + 1 ≤ 1000 := by rw [h] at hn; simp at hn; omega
    have hw : IntKind.i64.wrap ((pre.length : Int) + 1) = ((pre ++ [x]).length : Int) := by rw [wrap_small (by omega) (by omega)]; exact step_len
    have hh := ih (pre ++ [x]) (by rw [h]; simp)
    simp only [List.length_append, List.length_cons, List.length_nil] at hh
    have hmem : x ∈ tn := by rw [h]; simp
    obtain ⟨q, q1, a1, a2, a3, a4, a5, a6⟩ := hal pre.length x (at_mid h)
    have hle : (x.ents.length : Int) = (q.ents.length : Int) := by
      have := congrArg List.length a6
      simp at this; omega
    have hla := fun k r hx => loop7a (tn := tn) (un := un) (vn := vn) (tx := tx) (tc := tc) (ux := ux) (uc := uc) (vx := vx) (vc := vc) (i := pre.length) (p := x) (q := q) (by have := he x hmem; omega) (k := k) (r := r) hx x.ents q.ents [] [] rfl rfl rfl a6
    simp only [eNodeC] at hla
    rw [exK_loop]
    simp only [E7, lt_mid h, at_mid h, q1, eNodeC, bytes_of, a1, a2, a3, a4, a5, hle, bne_self_eq_false, EVT, EVD, ↓reduceIte, Nat.reduceEqDiff, reduceCtorEq, Nat.reduceAdd, Nat.reduceLeDiff, ne_eq, Nat.reduceLT, Int.reduceLT, Int.reduceLE, Int.reduceNeg]
    simp only [a1, a2, a3, a4, a5, hle] at hla
    refine hla _ _ (fun v w => ?_)
    simp only [E7, hw, EVT, EVD, ↓reduceIte, Nat.reduceEqDiff, reduceCtorEq, Nat.reduceAdd, Nat.reduceLeDiff, ne_eq, Nat.reduceLT, Int.reduceLT, Int.reduceLE, Int.reduceNeg]
    exact hh
set_option maxHeartbeats 4000000 in
theorem c7 (l : List Step) (a n b m : Nat) (hl : ∀ s, s ∈ l → stepOk s) (ha : a < 256) (hn : n < 256) (hb : b < 256) (hm : m < 256) : acall (tabX cLg) 7 [eSteps l, eU a, eU n, eU b, eU m] [] = some (.bool true, []) := by
  refine acall_ex rfl rfl rfl ?_
  simp only [fn7, E7, kHead xLg, kGreat xLg, EVT, EVD, ↓reduceIte, Nat.reduceEqDiff, reduceCtorEq, Nat.reduceAdd, Nat.reduceLeDiff, ne_eq, Nat.reduceLT, Int.reduceLT, Int.reduceLE, Int.reduceNeg]
  refine fork_split (fun hg => ?_) (fun hg => ?_)
  · simp only [E7, EVT, EVD, ↓reduceIte, Nat.reduceEqDiff, reduceCtorEq, Nat.reduceAdd, Nat.reduceLeDiff, ne_eq, Nat.reduceLT, Int.reduceLT, Int.reduceLE, Int.reduceNeg]
  obtain ⟨hlen, hok⟩ := great_ok hg hl
  have hmade := fun M => kX xLg (k13 l (by omega) hok M)
  obtain ⟨dep, hinv⟩ := madeN_inv l
  have hck := madeN_cookie l
  have hz : Sz 1000 (madeN l) := (madeN_sz l hok).up (by omega)
  have hzm := fun f s to nm => (madeN_sz l hok).mv f s to nm
  have hzm1 := fun f s to nm => ((madeN_sz l hok).mv f s to nm).up (show 1 + 5 * l.length + 5 ≤ 1000 by omega)
  generalize madeN l = T at *
  obtain ⟨nodes, next, cookie⟩ := T
  have ht : Small ⟨nodes, next, cookie⟩ := hz.small (by omega)
  have hr := hinv.srt
  have hn0 : nodes.length ≤ 100000 := ht.nodes
  have q14 := fun i hi M => kX xLg (k14 nodes next cookie i hi hn0 M)
  have q16 := fun i hi M => kX xLg (k16 i hi M)
  have q17 := fun dir i to j M => k17 xLg nodes next cookie dir (nameOf i) to (nameOf j) hz hr (nameOf_len i) (nameOf_ascii i) (nameOf_len j) (nameOf_ascii j) (hinv.hun to (nameOf j)) M
  simp only [mvW_eq hinv] at q17
  simp only [E7, hmade, eTree, eTreeC, q14, q16, q17, ha, hb, hn, hm, EVT, EVD, ↓reduceIte, Nat.reduceEqDiff, reduceCtorEq, Nat.reduceAdd, Nat.reduceLeDiff, ne_eq, Nat.reduceLT, Int.reduceLT, Int.reduceLE, Int.reduceNeg]
  generalize inoAt ⟨nodes, next, cookie⟩ a = f at *
  generalize inoAt ⟨nodes, next, cookie⟩ b = to at *
  rcases mvN_cases hinv f (nameOf n) to (nameOf m) with ⟨_, c2, c3⟩ | ⟨c1, _⟩ | ⟨dF, dT, mm, e, k, d3, d5, hmv⟩
  · have hbb : ((mvN ⟨nodes, next, cookie⟩ f (nameOf n) to (nameOf m)).2.2 != 0) = true := by simpa using c3
    simp only [E7, hbb, c2, EVT, EVD, ↓reduceIte, Nat.reduceEqDiff, reduceCtorEq, Nat.reduceAdd, Nat.reduceLeDiff, ne_eq, Nat.reduceLT, Int.reduceLT, Int.reduceLE, Int.reduceNeg]
  · have q18 := fun M => kX xLg (k18 ⟨nodes, next, cookie⟩ ⟨nodes, next, cookie⟩ ht M)
    simp only [E7, c1, q18, bne_self_eq_false, EVT, EVD, ↓reduceIte, Nat.reduceEqDiff, reduceCtorEq, Nat.reduceAdd, Nat.reduceLeDiff, ne_eq, Nat.reduceLT, Int.reduceLT, Int.reduceLE, Int.reduceNeg]
  · by_cases hy : underN dT.ents (nameOf m) = 0
    · have hfree : findE dT.ents (nameOf m) = none := by
        cases hfr : findE dT.ents (nameOf m) with
        | none => rfl
        | some e2 =>
          obtain ⟨_, y, q2, _⟩ := k.onto e2 hfr
          simp only [underN, hfr] at hy
          have := (hinv.num _ _ q2).1; omega
      obtain ⟨dep', hinv'⟩ := hinv.mv (nameOf_nm m) k
      have hz' := hzm1 f (nameOf n) to (nameOf m)
      rw [hmv] at hz'
      simp only at hz' hck
      obtain ⟨V, v1, v2, v3, v4⟩ := k.there_and_back hinv hfree hinv' d3 (nameOf_nm n d3) (by simp only; omega)
      have f4 := k.other hinv
      simp only [hmv]
      simp only [hy] at *
      generalize moveN ⟨nodes, next, cookie⟩ f (nameOf n) to (nameOf m) e.ino 0 = U at *
      obtain ⟨un, ux, uc⟩ := U
      obtain ⟨vn, vx, vc⟩ := V
      have hsu : Small ⟨un, ux, uc⟩ := hz'.small (by omega)
      have hru := hinv'.srt
      have p17 := fun dir i to j M => k17 xLg un ux uc dir (nameOf i) to (nameOf j) hz' hru (nameOf_len i) (nameOf_ascii i) (nameOf_len j) (nameOf_ascii j) (hinv'.hun to (nameOf j)) M
      simp only [mvW_eq hinv'] at p17
      have p18 := fun M => kX xLg (k18 ⟨nodes, next, cookie⟩ ⟨un, ux, uc⟩ ht M)
      have hd : decide (Tree.mk nodes next cookie = Tree.mk un ux uc) = false := by simpa using f4
      have hlp := fun k r hx => loop7b (tn := nodes) (un := un) (vn := vn) (tx := next) (tc := cookie) (ux := ux) (uc := uc) (vx := vx) (vc := vc) hz.nodes hz.ents v4 (k := k) (r := r) hx nodes [] rfl
      have hl1 : ((vn.length : Int) != (nodes.length : Int)) = false := by simp only at v3; simp; omega
      have hl2 : (vx != next) = false := by simp only at v2; simp; omega
      simp only [E7, p18, hd, q16, hm, hn, p17, v1, eTree, eTreeC, hl1, hl2, bne_self_eq_false, EVT, EVD, ↓reduceIte, Nat.reduceEqDiff, reduceCtorEq, Nat.reduceAdd, Nat.reduceLeDiff, ne_eq, Nat.reduceLT, Int.reduceLT, Int.reduceLE, Int.reduceNeg]
      refine hlp _ _ (fun v w => ?_)
      simp only [E7, EVT, EVD, ↓reduceIte, Nat.reduceEqDiff, reduceCtorEq, Nat.reduceAdd, Nat.reduceLeDiff, ne_eq, Nat.reduceLT, Int.reduceLT, Int.reduceLE, Int.reduceNeg]
    · have hyb : (underN dT.ents (nameOf m) != 0) = true := by simpa using hy
      simp only [E7, hmv, hyb, bne_self_eq_false, EVT, EVD, ↓reduceIte, Nat.reduceEqDiff, reduceCtorEq, Nat.reduceAdd, Nat.reduceLeDiff, ne_eq, Nat.reduceLT, Int.reduceLT, Int.reduceLE, Int.reduceNeg]
theorem treeBack_holds : Rows.TreeBackSaid := treeBack_of (soundX xLg) c7
end Go.Proofs.YtnapockikkbkcaaGreat
