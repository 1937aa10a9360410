/-
  TreeMoves: proved of the given program, for every input that the row allows: see the last text of this claim. Conditions: none beside the row's own.
-/
import Derived.Test.YtnapockikkbkcaaGreatProg
import Derived.KernelRfl
import Derived.Test.YtnapockikkbkcaaGreatBaF
set_option linter.unusedSimpArgs false
set_option linter.unusedVariables false
namespace Go.Proofs.YtnapockikkbkcaaGreat
open Go Go.Abs
theorem look_of {nodes : List Node} {dir : Int} {s : Bytes} {d : Node} (hd : find nodes dir = some d) (hk : d.kind = 2) (hs : nameOk s = true) : lookN nodes dir s = match findE d.ents s with
    | none => (0, 70)
    | some e => (e.ino, 0) := by
  have : dirN nodes dir = (d, 0) := by simp [dirN, hd, hk]
  simp only [lookN, this, hs]
  cases findE d.ents s <;> simp
theorem ontoN_codes (x y : Node) : ontoN x y = 73 ∨ ontoN x y = 72 ∨ ontoN x y = 74 ∨ ontoN x y = 0 := by
  unfold ontoN
  split
  · simp
  split
  · simp
  split
  · simp
  · simp
theorem GInv.under {t : Tree} {dep : Int → Nat} (h : GInv t dep 0) {to : Int} {nm : Bytes} {dT : Node} (hT : find t.nodes to = some dT) : (nodeUnder t.nodes dT.ents nm).ino = underN dT.ents nm := by
  unfold nodeUnder underN
  cases he : findE dT.ents nm with
  | none => rfl
  | some e =>
    obtain ⟨_, _, _, _, m, hm, _⟩ := h.ent _ _ e hT (findE_mem he).1
    simp [nodeN, hm, (find_mem hm).2]
theorem loop_same {t : Tree} {dep : Int → Nat} (h : GInv t dep 0) {f to : Int} {s nm : Bytes} {dT : Node} (hl : (lookN t.nodes f s).2 = 0) (hT : find t.nodes to = some dT) (hTk : dT.kind = 2) (hn : nameOk nm = true)
    (h1 : (lookN t.nodes to nm).2 = 0) (h2 : (lookN t.nodes to nm).1 = (lookN t.nodes f s).1) : (mvW t f s to nm).2.2 = 0 := by
  have hd : dirN t.nodes to = (dT, 0) := by simp [dirN, hT, hTk]
  rw [look_of hT hTk hn] at h1 h2
  unfold mvW
  simp only [hl, hd, bne_self_eq_false, Bool.false_eq_true, ↓reduceIte, hn, Bool.not_true]
  cases he : findE dT.ents nm with
  | none => rw [he] at h1; cases h1
  | some e =>
    rw [he] at h2
    have hu : underN dT.ents nm = e.ino := by simp [underN, he]
    rw [h.under hT, hu]
    simp only at h2
    rw [h2]
    simp
theorem loop_else {t : Tree} {dep : Int → Nat} (h : GInv t dep 0) {f to : Int} {s nm : Bytes} {dT : Node} (hl : (lookN t.nodes f s).2 = 0) (hx : (find t.nodes (lookN t.nodes f s).1).isSome = true) (hk : (nodeN t.nodes (lookN t.nodes f s).1).kind = 2) (hT : find t.nodes to = some dT) (hTk : dT.kind = 2) (hn : nameOk nm = true)
    (h1 : (lookN t.nodes to nm).2 = 0 → (lookN t.nodes to nm).1 ≠ (lookN t.nodes f s).1) : ((mvW t f s to nm).2.2 == 75) = lbelowN t.nodes to (lookN t.nodes f s).1 := by
  have hd : dirN t.nodes to = (dT, 0) := by simp [dirN, hT, hTk]
  rw [look_of hT hTk hn] at h1
  generalize hxx : (lookN t.nodes f s).1 = x at *
  have hx1 : 1 ≤ x := by
    cases hf : find t.nodes x with
    | none => rw [hf] at hx; cases hx
    | some n => exact (h.num _ _ hf).1
  have hu : underN dT.ents nm ≠ x := by
    unfold underN
    cases he : findE dT.ents nm with
    | none => simp only; omega
    | some e => rw [he] at h1; exact h1 rfl
  rw [h.lbelowN_eq x hT hTk, ← h.upsN_contains x hT hTk]
  unfold mvW
  simp only [hl, hd, bne_self_eq_false, Bool.false_eq_true, ↓reduceIte, hn, Bool.not_true, h.under hT, hxx, hk, beq_self_eq_true, Bool.true_and]
  rw [if_neg (by simpa using hu)]
  split
  · rename_i hc; rw [hc]; rfl
  · rename_i hc
    have hc' : (upsN t.nodes to).contains x = false := by simpa using hc
    rw [hc']
    split
    · rcases ontoN_codes (nodeN t.nodes x) (nodeUnder t.nodes dT.ents nm) with h | h | h | h <;> simp [h]
    · split
      · rfl
      · rfl
end Go.Proofs.YtnapockikkbkcaaGreat
namespace Go.Proofs.YtnapockikkbkcaaGreat
open Go Go.Abs
theorem may_eq {t : Tree} {dep : Int → Nat} (h : GInv t dep 0) (dir : Int) (s : Bytes) : mayErr t dir s = enterErr t dir s := by
  unfold mayErr enterErr
  by_cases h0 : (dirN t.nodes dir).2 = 0
  · obtain ⟨d, d1, d2, d3⟩ := dir_ok h0
    have hf : fullN t d = (decide ((64 : Int) ≤ d.ents.length) || (decide ((12 : Int) ≤ upDepth t.nodes dir) || decide ((1099511627776 : Int) ≤ t.cookie))) := by
      unfold fullN
      rw [(find_mem d1).2, h.depthN_eq d1 d2, h.upDepth_eq d1 d2]
    simp only [d3, hf, bne_self_eq_false, Bool.false_eq_true, ↓reduceIte, ne_eq, not_true_eq_false]
    cases nameOk s <;> simp
  · rw [if_pos (by simpa using h0), if_pos h0]
theorem addW_eq {t : Tree} {dep : Int → Nat} (h : GInv t dep 0) (dir : Int) (s : Bytes) (kind : Int) : addW t dir s kind = addN t dir s kind := by
  unfold addW addN
  rw [may_eq h]
theorem lnW_eq {t : Tree} {dep : Int → Nat} (h : GInv t dep 0) (ino dir : Int) (s : Bytes) : lnW t ino dir s = lnN t ino dir s := by
  unfold lnW lnN
  rw [may_eq h]
theorem unnamedW_eq {nodes : List Node} {x : Int} {m : Node} (hx : find nodes x = some m) : unnamedW nodes m = unnamedN nodes x := by
  unfold unnamedW unnamedN
  simp only [nodeN, hx, Option.getD_some, (find_mem hx).2]
theorem unW_eq {t : Tree} {dep : Int → Nat} (h : GInv t dep 0) (dir : Int) (s : Bytes) : unW t dir s = unN t dir s := by
  unfold unW unN
  split
  · rfl
  · rename_i hl
    obtain ⟨d, e, d1, d2, d3, d4, d5⟩ := look_ok (by simpa using hl)
    simp only [d5]
    obtain ⟨_, _, _, _, m, hm, _⟩ := h.ent _ _ e d1 (findE_mem d4).1
    have hm' : find (leftN t.nodes dir s) e.ino = some m := by
      rw [find_leftN h.srt.asc d1, if_neg (h.ent_ne d1 (findE_mem d4).1)]; exact hm
    have hn : nodeN t.nodes e.ino = m := by simp [nodeN, hm]
    rw [hn, unnamedW_eq hm']
theorem highGo_ex (nodes : List Node) (ino at' d : Int) (b : Int) : ∀ (l : List Node) (most : Int), b < highGo nodes ino at' d l most → b < most ∨ ∃ n, n ∈ l ∧ (n.kind == 2 && belowN nodes n.ino ino) = true ∧ b < highAt nodes at' d n
  | [], most, h => .inl h
  | m :: l, most, h => by
    rw [highGo] at h
    rcases highGo_ex nodes ino at' d b l _ h with h1 | ⟨n, h1, h2, h3⟩
    · have e : highStep nodes ino at' d m most = if (m.kind == 2 && belowN nodes m.ino ino) = true then (if highAt nodes at' d m > most then highAt nodes at' d m else most) else most := rfl
      rw [e] at h1
      split at h1
      · rename_i hb
        split at h1
        · exact .inr ⟨m, List.mem_cons_self, hb, h1⟩
        · exact .inl h1
      · exact .inl h1
    · exact .inr ⟨n, List.mem_cons_of_mem _ h1, h2, h3⟩
theorem GInv.deep_eq {t : Tree} {dep : Int → Nat} (h : GInv t dep 0) {x to : Int} {m : Node} (hx : find t.nodes x = some m) (hk : m.kind = 2) (hd : dep to < 12) :
    deepN t.nodes x (((dep to + 1 : Nat) : Int)) = decide ((12 : Int) < highN t.nodes x (((dep to + 1 : Nat) : Int))) := by
  have key : ∀ n, n ∈ t.nodes → deepAt t.nodes (((dep to + 1 : Nat) : Int)) ((dep x : Nat) : Int) x n = ((n.kind == 2 && belowN t.nodes n.ino x) && decide ((12 : Int) < highAt t.nodes (((dep to + 1 : Nat) : Int)) ((dep x : Nat) : Int) n)) := by
    intro n hn
    have hi : find t.nodes n.ino = some n := (find_iff h.srt.asc).2 ⟨hn, rfl⟩
    unfold deepAt
    by_cases hk2 : n.kind = 2
    · rw [h.upsN_contains x hi hk2, h.upsN_len hi hk2]
      by_cases hb : belowN t.nodes n.ino x = true
      · rw [h.highAt_eq hx hk hd hi hk2 hb]
        have d1 := (h.deep _ _ hi hk2).1
        have d2 := (h.deep _ _ hx hk).1
        have d3 := h.below_dep _ _ n hi hk2 rfl hb
        have w1 : w64 ((((dep to + 1 : Nat) : Int)) + ((dep n.ino + 1 : Nat) : Int)) = (((dep to + 1 : Nat) : Int)) + ((dep n.ino + 1 : Nat) : Int) := wrap_small (by omega) (by omega)
        have w2 : w64 ((((dep to + 1 : Nat) : Int)) + ((dep n.ino + 1 : Nat) : Int) - 1) = (((dep to + 1 : Nat) : Int)) + ((dep n.ino + 1 : Nat) : Int) - 1 := wrap_small (by omega) (by omega)
        have w3 : w64 ((((dep to + 1 : Nat) : Int)) + ((dep n.ino + 1 : Nat) : Int) - 1 - (dep x : Nat)) = (((dep to + 1 : Nat) : Int)) + ((dep n.ino + 1 : Nat) : Int) - 1 - (dep x : Nat) := wrap_small (by omega) (by omega)
        rw [w1, w2, w3]
        unfold redep
        rw [if_pos hb, hb]
        simp only [hk2, beq_self_eq_true, Bool.true_and]
        rw [Bool.eq_iff_iff]
        simp only [Bool.or_eq_true, Bool.and_eq_true, decide_eq_true_eq, beq_iff_eq]
        split <;> omega
      · have : belowN t.nodes n.ino x = false := by simpa using hb
        simp [this]
    · have : (n.kind == 2) = false := by simpa using hk2
      simp [this]
  have hdx : (upDepth t.nodes x : Int) = ((dep x : Nat) : Int) := by rw [h.upDepth_eq hx hk]
  unfold deepN highN
  rw [h.depthN_eq hx hk, hdx]
  rw [Bool.eq_iff_iff]
  simp only [List.any_eq_true, decide_eq_true_eq]
  constructor
  · rintro ⟨n, hn, hp⟩
    rw [key n hn] at hp
    simp only [Bool.and_eq_true, decide_eq_true_eq] at hp
    have := (highGo_ge t.nodes x (((dep to + 1 : Nat) : Int)) ((dep x : Nat) : Int) t.nodes 0).2 n hn (by simp [hp.1.1, hp.1.2])
    omega
  · intro hh
    rcases highGo_ex t.nodes x _ _ 12 t.nodes 0 hh with h1 | ⟨n, h1, h2, h3⟩
    · omega
    · exact ⟨n, h1, by rw [key n h1, h2]; simpa using h3⟩
theorem mvW_eq {t : Tree} {dep : Int → Nat} (h : GInv t dep 0) (f : Int) (s : Bytes) (to : Int) (nm : Bytes) : mvW t f s to nm = mvN t f s to nm := by
  unfold mvW mvN
  split
  · rfl
  rename_i c1
  split
  · rfl
  rename_i c2
  split
  · rfl
  obtain ⟨dF, e, e1, e2, e3, e4, e5⟩ := look_ok (by simpa using c1)
  obtain ⟨dT, g1, g2, g3⟩ := dir_ok (show (dirN t.nodes to).2 = 0 by simpa using c2)
  have hem := (findE_mem e4).1
  obtain ⟨_, _, x1, _, m, hm, hup⟩ := h.ent _ _ e e1 hem
  have hnode : nodeN t.nodes e.ino = m := by simp [nodeN, hm]
  simp only [e5, g3, hnode, h.under g1, h.upsN_contains e.ino g1 g2]
  split
  · rfl
  rename_i c4
  split
  · rfl
  rename_i c5
  have hup' : underN dT.ents nm ≠ e.ino := by simpa using c4
  have hnf := h.ent_ne e1 hem
  have hne : e.ino ≠ to := fun hh => by
    rw [hh, g1] at hm; injection hm with hm; subst hm
    simp only [g2, beq_self_eq_true, Bool.true_and] at c5
    rw [hh, GInv.below_self] at c5
    exact c5 rfl
  have hmany : ∀ there : Bool, (underN dT.ents nm == 0) = !there → manyW t f to dT.ents there m.kind e.ino = manyN t f to dT.ents m.kind (underN dT.ents nm) e.ino := by
    intro there hth
    unfold manyW manyN
    rw [hth, h.upsN_len g1 g2, h.depthN_eq g1 g2]
    by_cases hd : dep to < 12
    · have hw : w64 (((dep to : Nat) : Int) + 1) = ((dep to + 1 : Nat) : Int) := by
        rw [show (((dep to : Nat) : Int) + 1) = ((dep to + 1 : Nat) : Int) by omega]
        exact wrap_small (by omega) (by omega)
      rw [hw]
      have hdd : decide ((12 : Int) < ((dep to + 1 : Nat) : Int)) = decide ((12 : Int) ≤ ((dep to : Nat) : Int)) := by
        rw [decide_eq_decide]; omega
      rw [hdd]
      rcases h.kind _ _ hm with hk | hk
      · simp [hk]
      · rw [h.deep_eq hm hk hd]
    · have h1 : decide ((12 : Int) < ((dep to + 1 : Nat) : Int)) = true := by rw [decide_eq_true_eq]; omega
      have h2 : decide ((12 : Int) ≤ ((dep to : Nat) : Int)) = true := by rw [decide_eq_true_eq]; omega
      rw [h1, h2]; simp
  cases hfr : findE dT.ents nm with
  | none =>
    have hu : underN dT.ents nm = 0 := by simp [underN, hfr]
    have hm1 := hmany false (by rw [hu]; rfl)
    rw [hu] at hm1 ⊢
    have hcl : clashN t.nodes m.kind 0 = 0 := by simp [clashN, h.zero]
    simp only [Option.isSome_none, Bool.false_and, Bool.false_eq_true, ↓reduceIte, hcl, bne_self_eq_false, hm1]
    split
    · rfl
    · unfold moveW moveN
      simp only [hnode, Bool.false_eq_true, ↓reduceIte, bne_self_eq_false]
  | some e2 =>
    have hu : underN dT.ents nm = e2.ino := by simp [underN, hfr]
    obtain ⟨_, _, _, _, y, hy, _⟩ := h.ent _ _ e2 g1 (findE_mem hfr).1
    have hny : nodeN t.nodes e2.ino = y := by simp [nodeN, hy]
    have hto := h.ent_ne g1 (findE_mem hfr).1
    have hy0 := (h.num _ _ hy).1
    have hm1 := hmany true (by rw [hu]; simp; omega)
    have hnu : nodeUnder t.nodes dT.ents nm = y := by simp [nodeUnder, hfr, hny]
    rw [hu] at hm1 ⊢
    have hcl : clashN t.nodes m.kind e2.ino = ontoN m y := by
      unfold clashN ontoN
      simp only [hy, Option.isSome_some, Bool.not_true, Bool.false_eq_true, ↓reduceIte, hny]
    rw [hnu, hcl]
    simp only [Option.isSome_some, Bool.true_and, hm1]
    split
    · rfl
    rename_i c6
    split
    · rfl
    have hy00 : y.ents = [] := by
      have : ontoN m y = 0 := by simpa using c6
      unfold ontoN at this
      split at this
      · cases this
      split at this
      · cases this
      split at this
      · cases this
      · rename_i k3; exact List.length_eq_zero_iff.1 (by simpa using k3)
    have hnf2 : e2.ino ≠ f := fun hh => by
      rw [hh, e1] at hy; injection hy with hy; subst hy
      rw [hy00] at hem; cases hem
    have hyl : find (leftN (leftN t.nodes f s) to nm) e2.ino = some y := by
      have f1 := find_leftN h.srt.asc e1 (s := s)
      obtain ⟨dT', hT'⟩ : ∃ dT', find (leftN t.nodes f s) to = some dT' := by rw [f1]; split <;> simp_all
      rw [find_leftN (leftN_asc h.srt.asc f s) hT', if_neg hto, f1, if_neg hnf2]
      exact hy
    have hb : (e2.ino != 0) = true := by simp; omega
    unfold moveW moveN
    simp only [hnode, ↓reduceIte, hb, unnamedW_eq hyl]
end Go.Proofs.YtnapockikkbkcaaGreat
namespace Go.Proofs.YtnapockikkbkcaaGreat
open Go Go.Abs
def mvA (t : Tree) (f : Int) (s : Bytes) (to : Int) (nm : Bytes) (y : Int) : List Node := if (y != 0) = true then unnamedN (leftN (leftN t.nodes f s) to nm) y else leftN t.nodes f s
def goneN (o : Option Node) : Option Node := match o with
  | some y => lessN y
  | none => none
theorem mvA_asc {t : Tree} {dep : Int → Nat} (h : GInv t dep 0) (f : Int) (s : Bytes) (to : Int) (nm : Bytes) (y : Int) : Asc (mvA t f s to nm y) := by
  unfold mvA
  split
  · exact unnamedN_asc (leftN_asc (leftN_asc h.srt.asc f s) to nm) y
  · exact leftN_asc h.srt.asc f s
theorem find_mvA {t : Tree} {dep : Int → Nat} (h : GInv t dep 0) {f : Int} {s : Bytes} {to : Int} {nm : Bytes} {dF dT m : Node} {e : Ent} (k : MvOk t dep f s to nm dF dT m e) (i : Int) :
    find (mvA t f s to nm (underN dT.ents nm)) i = if i = to then some { dT with ents := dropE (if to = f then dropE dT.ents s else dT.ents) nm }
      else if i = f then some { dF with ents := dropE dF.ents s } else if i = underN dT.ents nm then goneN (find t.nodes i) else find t.nodes i := by
  have f1 := find_leftN h.srt.asc k.hF (s := s)
  cases hfr : findE dT.ents nm with
  | none =>
    have hu : underN dT.ents nm = 0 := by simp [underN, hfr]
    have hdr : dropE (if to = f then dropE dT.ents s else dT.ents) nm = (if to = f then dropE dT.ents s else dT.ents) := by
      refine dropE_none ?_
      split
      · exact findE_dropE_none hfr
      · exact hfr
    rw [hu, hdr]
    simp only [mvA, bne_self_eq_false, Bool.false_eq_true, ↓reduceIte]
    rw [f1]
    by_cases i1 : i = to
    · rw [if_pos i1]
      subst i1
      by_cases i2 : i = f
      · subst i2
        have := k.hF; rw [k.hT] at this; injection this with this; subst this
        simp only [↓reduceIte]
      · simp only [i2, ↓reduceIte]; exact k.hT
    · rw [if_neg i1]
      by_cases i2 : i = f
      · simp only [i2, ↓reduceIte]
      · simp only [i2, ↓reduceIte]
        by_cases i3 : i = 0
        · subst i3; simp [h.zero, goneN]
        · simp only [i3, ↓reduceIte]
  | some e2 =>
    have hu : underN dT.ents nm = e2.ino := by simp [underN, hfr]
    obtain ⟨q1, y, q2, q3, q4, q5, q6⟩ := k.onto e2 hfr
    have hy0 := (h.num _ _ q2).1
    have hb : (e2.ino != 0) = true := by simp; omega
    rw [hu]
    simp only [mvA, hb, ↓reduceIte]
    have a1 := leftN_asc h.srt.asc f s
    obtain ⟨dT', hT', hd'⟩ : ∃ dT', find (leftN t.nodes f s) to = some dT' ∧ ({ dT' with ents := dropE dT'.ents nm } : Node) = { dT with ents := dropE (if to = f then dropE dT.ents s else dT.ents) nm } := by
      rw [f1]
      split
      · rename_i hh
        subst hh
        have := k.hF; rw [k.hT] at this; injection this with this; subst this
        exact ⟨_, rfl, rfl⟩
      · exact ⟨dT, k.hT, rfl⟩
    have f3 := find_leftN a1 hT' (s := nm)
    have hy3 : find (leftN (leftN t.nodes f s) to nm) e2.ino = some y := by rw [f3, if_neg q6, f1, if_neg q5]; exact q2
    rw [find_unnamedN (leftN_asc a1 to nm) hy3, f3, f1, hd']
    by_cases i1 : i = e2.ino
    · subst i1
      simp only [↓reduceIte, q5, q6, q2, goneN]
    · simp only [i1, ↓reduceIte]
theorem find_moveN {t : Tree} {dep : Int → Nat} (h : GInv t dep 0) {f : Int} {s : Bytes} {to : Int} {nm : Bytes} {dF dT m : Node} {e : Ent} (k : MvOk t dep f s to nm dF dT m e) (i : Int) :
    find (moveN t f s to nm e.ino (underN dT.ents nm)).nodes i = if i = to then some { dT with ents := insE (dropE (if to = f then dropE dT.ents s else dT.ents) nm) ⟨nm, e.ino, t.cookie⟩ }
      else if i = f then some { dF with ents := dropE dF.ents s } else if i = e.ino then some (if m.kind = 2 then { m with up := to } else m) else if i = underN dT.ents nm then goneN (find t.nodes i) else find t.nodes i := by
  have hA := find_mvA h k
  have aA := mvA_asc h f s to nm (underN dT.ents nm)
  have hmn : nodeN t.nodes e.ino = m := by simp [nodeN, k.hm]
  have hmi : m.ino = e.ino := (find_mem k.hm).2
  have hTi : dT.ino = to := (find_mem k.hT).2
  have hux : e.ino ≠ underN dT.ents nm := by
    cases hfr : findE dT.ents nm with
    | none => simp only [underN, hfr]; have := (h.num _ _ k.hm).1; omega
    | some e2 => simp only [underN, hfr]; exact fun hh => (k.onto e2 hfr).1 hh.symm
  obtain ⟨B, hB, aB, fB⟩ : ∃ B, (if (m.kind == 2) = true then withN (mvA t f s to nm (underN dT.ents nm)) { m with up := to } else mvA t f s to nm (underN dT.ents nm)) = B ∧ Asc B ∧
      ∀ i, find B i = if i = to then some { dT with ents := dropE (if to = f then dropE dT.ents s else dT.ents) nm }
        else if i = f then some { dF with ents := dropE dF.ents s } else if i = e.ino then some (if m.kind = 2 then { m with up := to } else m) else if i = underN dT.ents nm then goneN (find t.nodes i) else find t.nodes i := by
    refine ⟨_, rfl, ?_, ?_⟩
    · split
      · exact withN_asc aA _
      · exact aA
    · intro i
      split
      · rename_i hk
        have hk' : m.kind = 2 := by simpa using hk
        rw [find_withN aA, hA]
        simp only [hmi, hk', ↓reduceIte]
        by_cases i1 : i = e.ino
        · subst i1; simp only [↓reduceIte, k.ne, k.nf]
        · simp only [i1, ↓reduceIte]
      · rename_i hk
        have hk' : ¬ m.kind = 2 := by simpa using hk
        rw [hA]
        simp only [hk', ↓reduceIte]
        by_cases i1 : i = e.ino
        · subst i1; simp only [↓reduceIte, k.ne, k.nf, hux]; exact k.hm
        · simp only [i1, ↓reduceIte]
  have hmv : moveN t f s to nm e.ino (underN dT.ents nm) = enteredN ⟨B, t.next, t.cookie⟩ to nm e.ino := by
    rw [← hB]
    unfold moveN mvA
    simp only [hmn]
  rw [hmv]
  unfold enteredN
  simp only
  have hBt : find B to = some { dT with ents := dropE (if to = f then dropE dT.ents s else dT.ents) nm } := by rw [fB]; simp only [↓reduceIte]
  rw [find_withN aB, hBt]
  simp only [Option.getD_some, hTi]
  by_cases i1 : i = to
  · simp only [i1, ↓reduceIte]
  · simp only [i1, ↓reduceIte]
    rw [fB]
    simp only [i1, ↓reduceIte]
theorem moveN_next (t : Tree) (f : Int) (s : Bytes) (to : Int) (nm : Bytes) (x y : Int) : (moveN t f s to nm x y).next = t.next := rfl
theorem moveN_cookie {t : Tree} {dep : Int → Nat} (h : GInv t dep 0) (hc : t.cookie < 1099511627776) (f : Int) (s : Bytes) (to : Int) (nm : Bytes) (x y : Int) : (moveN t f s to nm x y).cookie = t.cookie + 1 := by
  show w64 (t.cookie + 1) = t.cookie + 1
  exact wrap_small (by have := h.cookie; omega) (by omega)
theorem asc_len {a b : List Node} (ha : Asc a) (h : ∀ n, n ∈ a → ∃ m, find b n.ino = some m) : a.length ≤ b.length := by
  have := nodup_le (a.map Node.ino) (b.map Node.ino) (by
    unfold List.Nodup
    rw [List.pairwise_map]
    exact List.Pairwise.imp (fun hab => by omega) ha) (by
    intro x hx
    obtain ⟨n, hn, rfl⟩ := List.mem_map.1 hx
    obtain ⟨m, hm⟩ := h n hn
    exact List.mem_map.2 ⟨m, (find_mem hm).1, (find_mem hm).2⟩)
  simpa using this
end Go.Proofs.YtnapockikkbkcaaGreat
namespace Go.Proofs.YtnapockikkbkcaaGreat
open Go Go.Abs
theorem findE_iff {l : List Ent} (h : AscE l) {s : Bytes} {e : Ent} : findE l s = some e ↔ e ∈ l ∧ e.name = s := by
  refine ⟨findE_mem, fun ⟨h1, h2⟩ => ?_⟩
  cases hf : findE l s with
  | none =>
    have := List.find?_eq_none.1 hf e h1
    simp [h2] at this
  | some x =>
    obtain ⟨x1, x2⟩ := findE_mem hf
    obtain ⟨i, hi⟩ := List.getElem?_of_mem h1
    obtain ⟨k, hk⟩ := List.getElem?_of_mem x1
    have hil := (List.getElem?_eq_some_iff.1 hi).1
    have hkl := (List.getElem?_eq_some_iff.1 hk).1
    have e1 : l[i] = e := by rw [List.getElem?_eq_getElem hil] at hi; injection hi
    have e2 : l[k] = x := by rw [List.getElem?_eq_getElem hkl] at hk; injection hk
    rcases Nat.lt_trichotomy i k with hlt | heq | hgt
    · have := List.pairwise_iff_getElem.1 h _ _ hil hkl hlt
      rw [e1, e2, h2, x2, strLt_irrefl] at this; cases this
    · subst heq; rw [← e1, ← e2]
    · have := List.pairwise_iff_getElem.1 h _ _ hkl hil hgt
      rw [e1, e2, h2, x2, strLt_irrefl] at this; cases this
theorem findE_insE {l : List Ent} (h : AscE l) {e : Ent} (hf : findE l e.name = none) (s : Bytes) : findE (insE l e) s = if s = e.name then some e else findE l s := by
  have ha := insE_asc h hf
  split
  · rename_i hs
    exact (findE_iff ha).2 ⟨(mem_insE h hf).2 (.inl rfl), hs.symm⟩
  · rename_i hs
    cases hq : findE l s with
    | none =>
      cases hr : findE (insE l e) s with
      | none => rfl
      | some x =>
        obtain ⟨x1, x2⟩ := findE_mem hr
        rcases (mem_insE h hf).1 x1 with rfl | x1
        · exact absurd x2.symm hs
        · rw [(findE_iff h).2 ⟨x1, x2⟩] at hq; cases hq
    | some x =>
      obtain ⟨x1, x2⟩ := findE_mem hq
      exact (findE_iff ha).2 ⟨(mem_insE h hf).2 (.inr x1), x2⟩
theorem nameOf_inj {n m : Nat} (h : n % 6 ≠ m % 6) : nameOf n ≠ nameOf m := by
  unfold nameOf
  have h1 : n % 6 < 6 := Nat.mod_lt _ (by omega)
  have h2 : m % 6 < 6 := Nat.mod_lt _ (by omega)
  generalize n % 6 = a at *
  generalize m % 6 = b at *
  match a, h1, b, h2 with
  | 0, _, 0, _ | 1, _, 1, _ | 2, _, 2, _ | 3, _, 3, _ | 4, _, 4, _ | 5, _, 5, _ => exact absurd rfl h
  | 0, _, 1, _ | 0, _, 2, _ | 0, _, 3, _ | 0, _, 4, _ | 0, _, 5, _ => decide
  | 1, _, 0, _ | 1, _, 2, _ | 1, _, 3, _ | 1, _, 4, _ | 1, _, 5, _ => decide
  | 2, _, 1, _ | 2, _, 0, _ | 2, _, 3, _ | 2, _, 4, _ | 2, _, 5, _ => decide
  | 3, _, 1, _ | 3, _, 2, _ | 3, _, 0, _ | 3, _, 4, _ | 3, _, 5, _ => decide
  | 4, _, 1, _ | 4, _, 2, _ | 4, _, 3, _ | 4, _, 0, _ | 4, _, 5, _ => decide
  | 5, _, 1, _ | 5, _, 2, _ | 5, _, 3, _ | 5, _, 4, _ | 5, _, 0, _ => decide
section
variable {t : Tree} {dep : Int → Nat} {f : Int} {s : Bytes} {to : Int} {nm : Bytes} {dF dT m : Node} {e : Ent}
theorem MvOk.base (h : GInv t dep 0) (k : MvOk t dep f s to nm dF dT m e) : AscE (dropE (if to = f then dropE dT.ents s else dT.ents) nm) ∧ findE (dropE (if to = f then dropE dT.ents s else dT.ents) nm) nm = none := by
  have hE : AscE dT.ents := h.srt.ents dT (find_mem k.hT).1
  refine ⟨dropE_asc ?_ nm, findE_dropE _ _⟩
  split
  · exact dropE_asc hE s
  · exact hE
theorem MvOk.look_to (h : GInv t dep 0) (k : MvOk t dep f s to nm dF dT m e) : lookN (moveN t f s to nm e.ino (underN dT.ents nm)).nodes to nm = (e.ino, 0) := by
  have hf := find_moveN h k to
  rw [if_pos rfl] at hf
  obtain ⟨b1, b2⟩ := k.base h
  rw [look_of hf k.kT k.hn]
  simp only
  rw [findE_insE b1 (e := ⟨nm, e.ino, t.cookie⟩) b2]
  simp
theorem MvOk.look_from (h : GInv t dep 0) (k : MvOk t dep f s to nm dF dT m e) (hs : nameOk s = true) (hne : ¬ (f = to ∧ s = nm)) : lookN (moveN t f s to nm e.ino (underN dT.ents nm)).nodes f s = (0, 70) := by
  have hf := find_moveN h k f
  obtain ⟨b1, b2⟩ := k.base h
  by_cases hft : f = to
  · rw [if_pos hft] at hf
    rw [look_of hf k.kT hs]
    simp only
    rw [findE_insE b1 (e := ⟨nm, e.ino, t.cookie⟩) b2]
    have hsn : s ≠ nm := fun hh => hne ⟨hft, hh⟩
    simp only [hsn, ↓reduceIte, hft.symm]
    rw [findE_dropE_none (findE_dropE _ _)]
  · rw [if_neg hft, if_pos rfl] at hf
    rw [look_of hf k.kF hs]
    simp only
    rw [findE_dropE]
theorem MvOk.under_ne (h : GInv t dep 0) (k : MvOk t dep f s to nm dF dT m e) : underN dT.ents nm ≠ e.ino := by
  cases hfr : findE dT.ents nm with
  | none => simp only [underN, hfr]; have := (h.num _ _ k.hm).1; omega
  | some e2 => simp only [underN, hfr]; exact (k.onto e2 hfr).1
theorem MvOk.other (h : GInv t dep 0) (k : MvOk t dep f s to nm dF dT m e) : t ≠ moveN t f s to nm e.ino (underN dT.ents nm) := by
  intro hh
  have := moveN_cookie h k.cookie f s to nm e.ino (underN dT.ents nm)
  rw [← hh] at this
  omega
theorem MvOk.len (h : GInv t dep 0) (k : MvOk t dep f s to nm dF dT m e) {dep' : Int → Nat} (h' : GInv (moveN t f s to nm e.ino (underN dT.ents nm)) dep' 0) : (moveN t f s to nm e.ino (underN dT.ents nm)).nodes.length ≤ t.nodes.length := by
  refine asc_len h'.srt.asc (fun n hn => ?_)
  have hf := (find_iff h'.srt.asc).2 ⟨hn, rfl⟩
  rw [find_moveN h k] at hf
  split at hf
  · rename_i hi; rw [hi]; exact ⟨dT, k.hT⟩
  split at hf
  · rename_i hi; rw [hi]; exact ⟨dF, k.hF⟩
  split at hf
  · rename_i hi; rw [hi]; exact ⟨m, k.hm⟩
  split at hf
  · cases hq : find t.nodes n.ino with
    | none => rw [hq] at hf; cases hf
    | some y => exact ⟨y, rfl⟩
  · exact ⟨n, hf⟩
end
end Go.Proofs.YtnapockikkbkcaaGreat
namespace Go.Proofs.YtnapockikkbkcaaGreat
open Go Go.Abs
attribute [local irreducible] exK opsK opK gK forkK kr acall callOp owhen obind
theorem bytes_of : ∀ (d : Bytes), bytesOf (d.map eByte) = some d
  | [] => rfl
  | b :: d => by
    rw [List.map_cons]
    show obind (bytesOf (d.map eByte)) (fun l => some (UInt8.ofNat ((b.toNat : Int)).toNat :: l)) = some (b :: d)
    rw [bytes_of d, obind_some]
    simp
theorem c53 (a b : Bytes) : acall tab 53 [eData a, eData b] [] = some (.bool (a == b), []) := by
  refine acall_ex rfl rfl rfl ?_
  simp only [fn53, E53, bytes_of, EVT, EVD, ↓reduceIte, Nat.reduceEqDiff, reduceCtorEq, Nat.reduceAdd, Nat.reduceLeDiff, ne_eq, Nat.reduceLT, Int.reduceLT, Int.reduceLE, Int.reduceNeg]
theorem k53 (a b : Bytes) (M : AMem) : callOp (acall tab) 53 [eData a, eData b] M = some (.bool (a == b), M) := callOp0 (c53 a b) rfl rfl rfl rfl rfl M
theorem entB (x y : Ent) : decide (x = y) = (x.name == y.name && (x.ino == y.ino && (x.cookie == y.cookie && true))) := by
  cases x; cases y
  simp only [Ent.mk.injEq, Bool.and_true]
  rw [Bool.eq_iff_iff]
  simp
theorem eqEnt (x y : Ent) : eqCells [.s, .i, .i] (eEntC x) (eEntC y) = some (decide (x = y)) := by
  rw [entB]
  simp only [eEntC, eqCells, eqCell, obind_some, ↓reduceIte]
theorem allE (x : Ent) : (eEntC x).all AVal.isCell = true := rfl
theorem allN (x : Node) : (eNodeC x).all AVal.isCell = true := rfl
theorem loop54 {a b : List Ent} (ha : a.length ≤ 100000) {k : List K} {R : Bool → Option (AVal × AMem)}
    (hx : ∀ e, kr (acall tab) [.tmp 4] 0 k ⟨.exit 0, e, []⟩ = R true) (hr : kr (acall tab) [.tmp 4] 0 k ⟨.ret, [(4, .bool false)], []⟩ = R false) :
    ∀ (l m pre pre' : List Ent), a = pre ++ l → b = pre' ++ m → pre.length = pre'.length → l.length = m.length → exK (acall tab) [.tmp 4] 0 k (.loop [0, 1, 12, 13] lb54_0) [(0, eEnts a), (1, eEnts b), (12, .int .i64 a.length), (13, .int .i64 pre.length)] [] = R (decide (l = m)) := by
  intro l
  induction l with
  | nil =>
    intro m pre pre' h h' hp hl
    have hm : m = [] := List.length_eq_zero_iff.1 hl.symm
    subst hm
    rw [exK_loop]
    simp only [E54, lt_end h, EVT, EVD, ↓reduceIte, Nat.reduceEqDiff, reduceCtorEq, Nat.reduceAdd, Nat.reduceLeDiff, ne_eq, Nat.reduceLT, Int.reduceLT, Int.reduceLE, Int.reduceNeg]
    exact hx _
  | cons n r ih =>
    intro m pre pre' h h' hp hl
    cases m with
    | nil => cases hl
    | cons n' m =>
    rw [exK_loop]
    have hlen : pre.length + 1 ≤ 100000 := by rw [h] at ha; simp at ha; omega
    have hw : IntKind.i64.wrap ((pre.length : Int) + 1) = ((pre ++ [n]).length : Int) := by rw [wrap_small (by omega) (by omega)]; exact step_len
    have hi := ih m (pre ++ [n]) (pre' ++ [n']) (by rw [h]; simp) (by rw [h']; simp) (by simp [hp]) (by simpa using hl)
    have ha2 : b[pre.length]? = some n' := by rw [hp]; exact at_mid h'
    have hdc : decide (n :: r = n' :: m) = (decide (n = n') && decide (r = m)) := by
      rw [Bool.eq_iff_iff]; simp
    rw [hdc]
    simp only [List.length_append, List.length_cons, List.length_nil] at hi
    simp only [E54, lt_mid h, at_mid h, ha2, tkE, shE, eqEnt, allE, EVT, EVD, ↓reduceIte, Nat.reduceEqDiff, reduceCtorEq, Nat.reduceAdd, Nat.reduceLeDiff, ne_eq, Nat.reduceLT, Int.reduceLT, Int.reduceLE, Int.reduceNeg]
    refine fork_split (fun hb => ?_) (fun hb => ?_)
    · have hb' : decide (n = n') = false := by simpa using hb
      simp only [E54, hb', Bool.false_and, EVT, EVD, ↓reduceIte, Nat.reduceEqDiff, reduceCtorEq, Nat.reduceAdd, Nat.reduceLeDiff, ne_eq, Nat.reduceLT, Int.reduceLT, Int.reduceLE, Int.reduceNeg]
      exact hr
    · have hb' : decide (n = n') = true := by simpa using hb
      simp only [E54, hb', Bool.true_and, hw, EVT, EVD, ↓reduceIte, Nat.reduceEqDiff, reduceCtorEq, Nat.reduceAdd, Nat.reduceLeDiff, ne_eq, Nat.reduceLT, Int.reduceLT, Int.reduceLE, Int.reduceNeg]
      exact hi
theorem c54 (a b : List Ent) (ha : a.length ≤ 100000) : acall tab 54 [eEnts a, eEnts b] [] = some (.bool (decide (a = b)), []) := by
  refine acall_ex rfl rfl rfl ?_
  simp only [fn54, E54, EVT, EVD, ↓reduceIte, Nat.reduceEqDiff, reduceCtorEq, Nat.reduceAdd, Nat.reduceLeDiff, ne_eq, Nat.reduceLT, Int.reduceLT, Int.reduceLE, Int.reduceNeg]
  refine fork_split (fun hb => ?_) (fun hb => ?_)
  · have : decide (a = b) = false := by
      simp at hb ⊢
      rintro rfl; exact hb rfl
    simp only [E54, this, EVT, EVD, ↓reduceIte, Nat.reduceEqDiff, reduceCtorEq, Nat.reduceAdd, Nat.reduceLeDiff, ne_eq, Nat.reduceLT, Int.reduceLT, Int.reduceLE, Int.reduceNeg]
  · simp only [E54, EVT, EVD, ↓reduceIte, Nat.reduceEqDiff, reduceCtorEq, Nat.reduceAdd, Nat.reduceLeDiff, ne_eq, Nat.reduceLT, Int.reduceLT, Int.reduceLE, Int.reduceNeg]
    exact loop54 (R := fun z => some (.bool z, [])) ha (fun e => by simp only [E54, EVT, EVD, ↓reduceIte, Nat.reduceEqDiff, reduceCtorEq, Nat.reduceAdd, Nat.reduceLeDiff, ne_eq, Nat.reduceLT, Int.reduceLT, Int.reduceLE, Int.reduceNeg]) (by simp only [E54, EVT, EVD, ↓reduceIte, Nat.reduceEqDiff, reduceCtorEq, Nat.reduceAdd, Nat.reduceLeDiff, ne_eq, Nat.reduceLT, Int.reduceLT, Int.reduceLE, Int.reduceNeg]) a b [] [] rfl rfl rfl (by simp at hb; omega)
theorem k54 (a b : List Ent) (ha : a.length ≤ 100000) (M : AMem) : callOp (acall tab) 54 [eEnts a, eEnts b] M = some (.bool (decide (a = b)), M) := callOp0 (c54 a b ha) rfl rfl rfl rfl rfl M
theorem nodeB (x y : Node) : decide (x = y) = (x.ino == y.ino && (x.kind == y.kind && (x.links == y.links && (x.up == y.up && (x.data == y.data && decide (x.ents = y.ents)))))) := by
  cases x; cases y
  simp only [Node.mk.injEq]
  rw [Bool.eq_iff_iff]
  simp only [decide_eq_true_eq, Bool.and_eq_true, beq_iff_eq]
  constructor
  · rintro ⟨h1, h2, h3, h4, h5, h6⟩; exact ⟨h1, h2, h3, h6, h4, h5⟩
  · rintro ⟨h1, h2, h3, h6, h4, h5⟩; exact ⟨h1, h2, h3, h4, h5, h6⟩
theorem c52 (x y : Node) (hx : x.ents.length ≤ 100000) : acall tab 52 [eNode x, eNode y] [] = some (.bool (decide (x = y)), []) := by
  rw [nodeB]
  refine acall_ex rfl rfl rfl ?_
  simp only [fn52, E52, eNode, eNodeC, EVT, EVD, ↓reduceIte, Nat.reduceEqDiff, reduceCtorEq, Nat.reduceAdd, Nat.reduceLeDiff, ne_eq, Nat.reduceLT, Int.reduceLT, Int.reduceLE, Int.reduceNeg]
  repeat' (first | (refine fork_split (fun hb => ?_) (fun hb => ?_) <;> simp only [hb, E52, k53, k54, hx, EVT, EVD, ↓reduceIte, Nat.reduceEqDiff, reduceCtorEq, Nat.reduceAdd, Nat.reduceLeDiff, ne_eq, Nat.reduceLT, Int.reduceLT, Int.reduceLE, Int.reduceNeg]) | (refine guard_split (fun hb => ?_) (fun hb => ?_) <;> simp only [hb, E52, k53, k54, hx, EVT, EVD, ↓reduceIte, Nat.reduceEqDiff, reduceCtorEq, Nat.reduceAdd, Nat.reduceLeDiff, ne_eq, Nat.reduceLT, Int.reduceLT, Int.reduceLE, Int.reduceNeg]) | (refine opK_pick (fun hb => ?_) (fun hb => ?_) <;> simp only [hb, E52, k53, k54, hx, EVT, EVD, ↓reduceIte, Nat.reduceEqDiff, reduceCtorEq, Nat.reduceAdd, Nat.reduceLeDiff, ne_eq, Nat.reduceLT, Int.reduceLT, Int.reduceLE, Int.reduceNeg]))
  all_goals simp_all only [BBT, ↓reduceIte, reduceCtorEq, bne_self_eq_false]
theorem k52 (x y : Node) (hx : x.ents.length ≤ 100000) (M : AMem) : callOp (acall tab) 52 [.agg (eNodeC x), .agg (eNodeC y)] M = some (.bool (decide (x = y)), M) := callOp0 (c52 x y hx) rfl rfl rfl rfl rfl M
theorem loop55 {a b : List Node} (ha : a.length ≤ 100000) (he : ∀ n, n ∈ a → n.ents.length ≤ 100000) {k : List K} {R : Bool → Option (AVal × AMem)}
    (hx : ∀ e, kr (acall tab) [.tmp 6] 0 k ⟨.exit 0, e, []⟩ = R true) (hr : ∀ M, kr (acall tab) [.tmp 6] 0 k ⟨.ret, [(6, .bool false)], M⟩ = R false) :
    ∀ (l m pre pre' : List Node), a = pre ++ l → b = pre' ++ m → pre.length = pre'.length → l.length = m.length → exK (acall tab) [.tmp 6] 0 k (.loop [1, 2, 15, 16, 17] lb55_0) [(1, eNodes b), (2, .func 52 []), (15, eNodes a), (16, .int .i64 a.length), (17, .int .i64 pre.length)] [] = R (decide (l = m)) := by
  intro l
  induction l with
  | nil =>
    intro m pre pre' h h' hp hl
    have hm : m = [] := List.length_eq_zero_iff.1 hl.symm
    subst hm
    rw [exK_loop]
    simp only [E55, lt_end h, EVT, EVD, ↓reduceIte, Nat.reduceEqDiff, reduceCtorEq, Nat.reduceAdd, Nat.reduceLeDiff, ne_eq, Nat.reduceLT, Int.reduceLT, Int.reduceLE, Int.reduceNeg]
    exact hx _
  | cons n r ih =>
    intro m pre pre' h h' hp hl
    cases m with
    | nil => cases hl
    | cons n' m =>
    rw [exK_loop]
    have hlen : pre.length + 1 ≤ 100000 := by rw [h] at ha; simp at ha; omega
    have hw : IntKind.i64.wrap ((pre.length : Int) + 1) = ((pre ++ [n]).length : Int) := by rw [wrap_small (by omega) (by omega)]; exact step_len
    have hi := ih m (pre ++ [n]) (pre' ++ [n']) (by rw [h]; simp) (by rw [h']; simp) (by simp [hp]) (by simpa using hl)
    have ha2 : b[pre.length]? = some n' := by rw [hp]; exact at_mid h'
    have hen := he n (by rw [h]; simp)
    have hdc : decide (n :: r = n' :: m) = (decide (n = n') && decide (r = m)) := by
      rw [Bool.eq_iff_iff]; simp
    have hfl : List.flatMap AVal.ids1 (eNodeC n) = [] := rfl
    have hfl' : List.flatMap AVal.ids1 (eNodeC n') = [] := rfl
    rw [hdc]
    simp only [List.length_append, List.length_cons, List.length_nil] at hi
    simp only [E55, lt_mid h, at_mid h, ha2, tkN, shN, allN, k52, hen, hfl, hfl', EVT, EVD, ↓reduceIte, Nat.reduceEqDiff, reduceCtorEq, Nat.reduceAdd, Nat.reduceLeDiff, ne_eq, Nat.reduceLT, Int.reduceLT, Int.reduceLE, Int.reduceNeg]
    refine fork_split (fun hb => ?_) (fun hb => ?_)
    · have hb' : decide (n = n') = false := by simpa using hb
      simp only [E55, hb', Bool.false_and, EVT, EVD, ↓reduceIte, Nat.reduceEqDiff, reduceCtorEq, Nat.reduceAdd, Nat.reduceLeDiff, ne_eq, Nat.reduceLT, Int.reduceLT, Int.reduceLE, Int.reduceNeg]
      exact hr _
    · have hb' : decide (n = n') = true := by simpa using hb
      simp only [E55, hb', Bool.true_and, hw, EVT, EVD, ↓reduceIte, Nat.reduceEqDiff, reduceCtorEq, Nat.reduceAdd, Nat.reduceLeDiff, ne_eq, Nat.reduceLT, Int.reduceLT, Int.reduceLE, Int.reduceNeg]
      exact hi
theorem c55 (a b : List Node) (ha : a.length ≤ 100000) (he : ∀ n, n ∈ a → n.ents.length ≤ 100000) : acall tab 55 [eNodes a, eNodes b, .func 52 []] [] = some (.bool (decide (a = b)), []) := by
  refine acall_ex rfl rfl rfl ?_
  simp only [fn55, E55, EVT, EVD, ↓reduceIte, Nat.reduceEqDiff, reduceCtorEq, Nat.reduceAdd, Nat.reduceLeDiff, ne_eq, Nat.reduceLT, Int.reduceLT, Int.reduceLE, Int.reduceNeg]
  refine fork_split (fun hb => ?_) (fun hb => ?_)
  · have : decide (a = b) = false := by
      simp at hb ⊢
      rintro rfl; exact hb rfl
    simp only [E55, this, EVT, EVD, ↓reduceIte, Nat.reduceEqDiff, reduceCtorEq, Nat.reduceAdd, Nat.reduceLeDiff, ne_eq, Nat.reduceLT, Int.reduceLT, Int.reduceLE, Int.reduceNeg]
  · simp only [E55, EVT, EVD, ↓reduceIte, Nat.reduceEqDiff, reduceCtorEq, Nat.reduceAdd, Nat.reduceLeDiff, ne_eq, Nat.reduceLT, Int.reduceLT, Int.reduceLE, Int.reduceNeg]
    exact loop55 (R := fun z => some (.bool z, [])) ha he (fun e => by simp only [E55, EVT, EVD, ↓reduceIte, Nat.reduceEqDiff, reduceCtorEq, Nat.reduceAdd, Nat.reduceLeDiff, ne_eq, Nat.reduceLT, Int.reduceLT, Int.reduceLE, Int.reduceNeg]) (fun M => by simp only [E55, EVT, EVD, ↓reduceIte, Nat.reduceEqDiff, reduceCtorEq, Nat.reduceAdd, Nat.reduceLeDiff, ne_eq, Nat.reduceLT, Int.reduceLT, Int.reduceLE, Int.reduceNeg]) a b [] [] rfl rfl rfl (by simp at hb; omega)
theorem k55 (a b : List Node) (ha : a.length ≤ 100000) (he : ∀ n, n ∈ a → n.ents.length ≤ 100000) (M : AMem) : callOp (acall tab) 55 [eNodes a, eNodes b, .func 52 []] M = some (.bool (decide (a = b)), M) := callOp0 (c55 a b ha he) rfl rfl rfl rfl rfl M
theorem treeB (x y : Tree) : decide (x = y) = (x.next == y.next && (x.cookie == y.cookie && decide (x.nodes = y.nodes))) := by
  cases x; cases y
  simp only [Tree.mk.injEq]
  rw [Bool.eq_iff_iff]
  simp only [decide_eq_true_eq, Bool.and_eq_true, beq_iff_eq]
  constructor
  · rintro ⟨h1, h2, h3⟩; exact ⟨h2, h3, h1⟩
  · rintro ⟨h2, h3, h1⟩; exact ⟨h1, h2, h3⟩
theorem c18 (a b : Tree) (ha : Small a) : acall tab 18 [eTree a, eTree b] [] = some (.bool (decide (a = b)), []) := by
  rw [treeB]
  have h1 := ha.nodes
  have h2 := ha.ents
  refine acall_ex rfl rfl rfl ?_
  simp only [fn18, E18, eTree, eTreeC, EVT, EVD, ↓reduceIte, Nat.reduceEqDiff, reduceCtorEq, Nat.reduceAdd, Nat.reduceLeDiff, ne_eq, Nat.reduceLT, Int.reduceLT, Int.reduceLE, Int.reduceNeg]
  repeat' (first | (refine fork_split (fun hb => ?_) (fun hb => ?_) <;> simp only [hb, E18, k55 _ _ h1 h2, EVT, EVD, ↓reduceIte, Nat.reduceEqDiff, reduceCtorEq, Nat.reduceAdd, Nat.reduceLeDiff, ne_eq, Nat.reduceLT, Int.reduceLT, Int.reduceLE, Int.reduceNeg]) | (refine guard_split (fun hb => ?_) (fun hb => ?_) <;> simp only [hb, E18, k55 _ _ h1 h2, EVT, EVD, ↓reduceIte, Nat.reduceEqDiff, reduceCtorEq, Nat.reduceAdd, Nat.reduceLeDiff, ne_eq, Nat.reduceLT, Int.reduceLT, Int.reduceLE, Int.reduceNeg]) | (refine opK_pick (fun hb => ?_) (fun hb => ?_) <;> simp only [hb, E18, k55 _ _ h1 h2, EVT, EVD, ↓reduceIte, Nat.reduceEqDiff, reduceCtorEq, Nat.reduceAdd, Nat.reduceLeDiff, ne_eq, Nat.reduceLT, Int.reduceLT, Int.reduceLE, Int.reduceNeg]))
  all_goals simp_all only [BBT, ↓reduceIte, reduceCtorEq, bne_self_eq_false]
theorem k18 (a b : Tree) (ha : Small a) (M : AMem) : callOp (acall tab) 18 [.agg [eNodes a.nodes, .int .i64 a.next, .int .i64 a.cookie], .agg [eNodes b.nodes, .int .i64 b.next, .int .i64 b.cookie]] M = some (.bool (decide (a = b)), M) := callOp0 (c18 a b ha) rfl rfl rfl rfl rfl M
end Go.Proofs.YtnapockikkbkcaaGreat
set_option linter.defProp false
namespace Go.Proofs.YtnapockikkbkcaaGreat
open Go Go.Abs
def q20_0 : ACode :=
 (.seq (.region [
 ob 4 (.mv (.cst (.bool false)))] false [4]) (.ret))
def q20_1 : ACode :=
 (.seq (.region [
 ob 40 (.faddr 4 (.tmp 2)),
 ob 41 (.load1 (.tmp 40)),
 ob 42 (.faddr 4 (.tmp 3)),
 ob 43 (.load1 (.tmp 42)),
 ob 44 (.call 21 [(.tmp 41), (.tmp 43)]),
 ob 4 (.mv (.tmp 44))] false [4]) (.ret))
def q20_2 : ACode :=
 (.seq (.seq (.region [
 ob 5 (.faddr 0 (.tmp 2)),
 ob 6 (.load1 (.tmp 5)),
 ob 7 (.faddr 0 (.tmp 3)),
 ob 8 (.load1 (.tmp 7)),
 ob 9 (.bin .neq (.tmp 6) (.tmp 8)),
 ob 10 (.mv (.tmp 9)),
 og 11 10 false (.faddr 1 (.tmp 2)),
 og 12 10 false (.load1 (.tmp 11)),
 og 13 10 false (.faddr 1 (.tmp 3)),
 og 14 10 false (.load1 (.tmp 13)),
 og 15 10 false (.bin .neq (.tmp 12) (.tmp 14)),
 ob 16 (.pick (.tmp 10) (.cst (.bool true)) (.tmp 15)),
 ob 17 (.mv (.tmp 16)),
 og 18 17 false (.faddr 2 (.tmp 2)),
 og 19 17 false (.load1 (.tmp 18)),
 og 20 17 false (.faddr 2 (.tmp 3)),
 og 21 17 false (.load1 (.tmp 20)),
 og 22 17 false (.bin .neq (.tmp 19) (.tmp 21)),
 ob 23 (.pick (.tmp 17) (.cst (.bool true)) (.tmp 22)),
 ob 24 (.mv (.tmp 23)),
 og 25 24 false (.faddr 5 (.tmp 2)),
 og 26 24 false (.load1 (.tmp 25)),
 og 27 24 false (.faddr 5 (.tmp 3)),
 og 28 24 false (.load1 (.tmp 27)),
 og 29 24 false (.bin .neq (.tmp 26) (.tmp 28)),
 ob 30 (.pick (.tmp 24) (.cst (.bool true)) (.tmp 29)),
 ob 31 (.mv (.tmp 30)),
 og 32 31 false (.faddr 3 (.tmp 2)),
 og 33 31 false (.load1 (.tmp 32)),
 og 34 31 false (.b2s (.tmp 33)),
 og 35 31 false (.faddr 3 (.tmp 3)),
 og 36 31 false (.load1 (.tmp 35)),
 og 37 31 false (.b2s (.tmp 36)),
 og 38 31 false (.bin .neq (.tmp 34) (.tmp 37)),
 ob 39 (.pick (.tmp 31) (.cst (.bool true)) (.tmp 38))] false [2, 3, 39]) (.cond (.tmp 39) q20_0 (.skip))) q20_1)
def E20 := And.intro (exK_head q20_0.eq_1) (And.intro (exK_head q20_1.eq_1) (exK_head q20_2.eq_1))
def ann20 : Ann := { n := 45, own := [], lv := [(0, [2, 3]), (1, [2, 3, 39]), (2, [4]), (3, [4])], lp := [] }
def fn20 : AFn := AFn.mk 2 [.tmp 4]
  (.seq (.region [
  ob 2 (.box (.tmp 0)),
  ob 3 (.box (.tmp 1)),
  ob 4 (.mv (.cst (.bool false)))] false [2, 3]) q20_2)
theorem ok20 : compFn Tryz.prog ann20 Tryz.f20 = some fn20 := by kernel_rfl
def q21_0 : ACode :=
 (.seq (.region [
 ob 4 (.mv (.cst (.bool false)))] false [4]) (.ret))
def q21_1 : ACode :=
 (.seq (.region [
 ob 4 (.mv (.cst (.bool false)))] false [4]) (.ret))
def q21_2 : ACode :=
 (.region [
 ob 15 (.mv (.tmp 5)),
 ob 16 (.bin .add (.tmp 15) (.cst (.int .i64 1))),
 ob 5 (.mv (.tmp 16))] false [0, 1, 5])
def q21_3 : ACode :=
 (.seq (.block 1 (.seq (.region [
 ob 17 (.mv (.tmp 0)),
 ob 18 (.mv (.tmp 5)),
 ob 19 (.iaddr 3 (.tmp 17) (.tmp 18)),
 ob 20 (.loadA 3 (.tmp 19)),
 ob 21 (.mv (.tmp 1)),
 ob 22 (.mv (.tmp 5)),
 ob 23 (.iaddr 3 (.tmp 21) (.tmp 22)),
 ob 24 (.loadA 3 (.tmp 23)),
 ob 25 (.eqA [.s, .i, .i] true (.tmp 20) (.tmp 24))] true [0, 1, 5, 25]) (.cond (.tmp 25) q21_1 (.skip)))) q21_2)
def lb21_0 : ACode :=
 (.seq (.seq (.region [
 ob 11 (.mv (.tmp 5)),
 ob 12 (.mv (.tmp 0)),
 ob 13 (.lenV (.tmp 12)),
 ob 14 (.bin .lss (.tmp 11) (.tmp 13))] false [0, 1, 5, 14]) (.cond (.tmp 14) (.skip) (.exit 0))) q21_3)
def q21_4 : ACode :=
 (.seq (.region [
 ob 4 (.mv (.cst (.bool true)))] false [4]) (.ret))
def q21_5 : ACode :=
 (.seq (.seq (.region [
 ob 5 (.mv (.cst (.int .i64 0)))] false [0, 1, 5]) (.block 0 (.loop [0, 1, 5] lb21_0))) q21_4)
def q21_6 : ACode :=
 (.seq (.seq (.region [
 ob 6 (.mv (.tmp 0)),
 ob 7 (.lenV (.tmp 6)),
 ob 8 (.mv (.tmp 1)),
 ob 9 (.lenV (.tmp 8)),
 ob 10 (.bin .neq (.tmp 7) (.tmp 9))] false [0, 1, 10]) (.cond (.tmp 10) q21_0 (.skip))) q21_5)
def E21 := And.intro (exK_head q21_0.eq_1) (And.intro (exK_head q21_1.eq_1) (And.intro (exK_head q21_2.eq_1) (And.intro (exK_head q21_3.eq_1) (And.intro (exK_head lb21_0.eq_1) (And.intro (exK_head q21_4.eq_1) (And.intro (exK_head q21_5.eq_1) (exK_head q21_6.eq_1)))))))
def ann21 : Ann := { n := 26, own := [], lv := [(0, [0, 1]), (1, [0, 1, 10]), (2, [4]), (3, [0, 1, 5]), (4, [0, 1, 5, 14]), (5, [0, 1, 5]), (6, [0, 1, 5, 25]), (7, [4]), (8, [4])], lp := [(4, [0, 1, 5])] }
def fn21 : AFn := AFn.mk 2 [.tmp 4]
  (.seq (.region [
  ob 4 (.mv (.cst (.bool false)))] false [0, 1]) q21_6)
theorem ok21 : compFn Tryz.prog ann21 Tryz.f21 = some fn21 := by kernel_rfl
end Go.Proofs.YtnapockikkbkcaaGreat
namespace Go.Proofs.YtnapockikkbkcaaGreat
open Go Go.Abs
attribute [local irreducible] exK opsK opK gK forkK kr acall callOp owhen obind
variable {T : Tab}
theorem loop21 {a b : List Ent} (ha : a.length ≤ 100000) {k : List K} {R : Bool → Option (AVal × AMem)}
    (hx : ∀ e, kr (acall T) [.tmp 4] 0 k ⟨.exit 0, e, []⟩ = R true) (hr : kr (acall T) [.tmp 4] 0 k ⟨.ret, [(4, .bool false)], []⟩ = R false) :
    ∀ (l m pre pre' : List Ent), a = pre ++ l → b = pre' ++ m → pre.length = pre'.length → l.length = m.length → exK (acall T) [.tmp 4] 0 k (.loop [0, 1, 5] lb21_0) [(0, eEnts a), (1, eEnts b), (5, .int .i64 pre.length)] [] = R (decide (l = m)) := by
  intro l
  induction l with
  | nil =>
    intro m pre pre' h h' hp hl
    have hm : m = [] := List.length_eq_zero_iff.1 hl.symm
    subst hm
    rw [exK_loop]
    simp only [E21, lt_end h, EVT, EVD, ↓reduceIte, Nat.reduceEqDiff, reduceCtorEq, Nat.reduceAdd, Nat.reduceLeDiff, ne_eq, Nat.reduceLT, Int.reduceLT, Int.reduceLE, Int.reduceNeg]
    exact hx _
  | cons n r ih =>
    intro m pre pre' h h' hp hl
    cases m with
    | nil => cases hl
    | cons n' m =>
    rw [exK_loop]
    have hlen : pre.length + 1 ≤ 100000 := by rw [h] at ha; simp at ha; omega
    have hw : IntKind.i64.wrap ((pre.length : Int) + 1) = ((pre ++ [n]).length : Int) := by rw [wrap_small (by omega) (by omega)]; exact step_len
    have hi := ih m (pre ++ [n]) (pre' ++ [n']) (by rw [h]; simp) (by rw [h']; simp) (by simp [hp]) (by simpa using hl)
    have ha2 : b[pre.length]? = some n' := by rw [hp]; exact at_mid h'
    have hdc : decide (n :: r = n' :: m) = (decide (n = n') && decide (r = m)) := by
      rw [Bool.eq_iff_iff]; simp
    rw [hdc]
    simp only [List.length_append, List.length_cons, List.length_nil] at hi
    simp only [E21, lt_mid h, at_mid h, ha2, tkE, shE, eqEnt, allE, EVT, EVD, ↓reduceIte, Nat.reduceEqDiff, reduceCtorEq, Nat.reduceAdd, Nat.reduceLeDiff, ne_eq, Nat.reduceLT, Int.reduceLT, Int.reduceLE, Int.reduceNeg]
    refine fork_split (fun hb => ?_) (fun hb => ?_)
    · have hb' : decide (n = n') = false := by simpa using hb
      simp only [E21, hb', Bool.false_and, EVT, EVD, ↓reduceIte, Nat.reduceEqDiff, reduceCtorEq, Nat.reduceAdd, Nat.reduceLeDiff, ne_eq, Nat.reduceLT, Int.reduceLT, Int.reduceLE, Int.reduceNeg]
      exact hr
    · have hb' : decide (n = n') = true := by simpa using hb
      simp only [E21, hb', Bool.true_and, hw, EVT, EVD, ↓reduceIte, Nat.reduceEqDiff, reduceCtorEq, Nat.reduceAdd, Nat.reduceLeDiff, ne_eq, Nat.reduceLT, Int.reduceLT, Int.reduceLE, Int.reduceNeg]
      exact hi
theorem c21 (hp : T.prim 21 = none) (hc : T.code 21 = some fn21) (a b : List Ent) (ha : a.length ≤ 100000) : acall T 21 [eEnts a, eEnts b] [] = some (.bool (decide (a = b)), []) := by
  refine acall_ex hp hc rfl ?_
  simp only [fn21, E21, EVT, EVD, ↓reduceIte, Nat.reduceEqDiff, reduceCtorEq, Nat.reduceAdd, Nat.reduceLeDiff, ne_eq, Nat.reduceLT, Int.reduceLT, Int.reduceLE, Int.reduceNeg]
  refine fork_split (fun hb => ?_) (fun hb => ?_)
  · have : decide (a = b) = false := by
      simp at hb ⊢
      rintro rfl; exact hb rfl
    simp only [E21, this, EVT, EVD, ↓reduceIte, Nat.reduceEqDiff, reduceCtorEq, Nat.reduceAdd, Nat.reduceLeDiff, ne_eq, Nat.reduceLT, Int.reduceLT, Int.reduceLE, Int.reduceNeg]
  · simp only [E21, EVT, EVD, ↓reduceIte, Nat.reduceEqDiff, reduceCtorEq, Nat.reduceAdd, Nat.reduceLeDiff, ne_eq, Nat.reduceLT, Int.reduceLT, Int.reduceLE, Int.reduceNeg]
    exact loop21 (R := fun z => some (.bool z, [])) ha (fun e => by simp only [E21, EVT, EVD, ↓reduceIte, Nat.reduceEqDiff, reduceCtorEq, Nat.reduceAdd, Nat.reduceLeDiff, ne_eq, Nat.reduceLT, Int.reduceLT, Int.reduceLE, Int.reduceNeg]) (by simp only [E21, EVT, EVD, ↓reduceIte, Nat.reduceEqDiff, reduceCtorEq, Nat.reduceAdd, Nat.reduceLeDiff, ne_eq, Nat.reduceLT, Int.reduceLT, Int.reduceLE, Int.reduceNeg]) a b [] [] rfl rfl rfl (by simp at hb; omega)
theorem k21 (hp : T.prim 21 = none) (hc : T.code 21 = some fn21) (a b : List Ent) (ha : a.length ≤ 100000) (M : AMem) : callOp (acall T) 21 [eEnts a, eEnts b] M = some (.bool (decide (a = b)), M) := callOp0 (c21 hp hc a b ha) rfl rfl rfl rfl rfl M
theorem c20 (hp : T.prim 21 = none) (hc : T.code 21 = some fn21) (hp' : T.prim 20 = none) (hc' : T.code 20 = some fn20) (x y : Node) (hx : x.ents.length ≤ 100000) : acall T 20 [eNode x, eNode y] [] = some (.bool (decide (x = y)), []) := by
  rw [nodeB]
  have hk := fun M => k21 hp hc x.ents y.ents hx M
  refine acall_ex hp' hc' rfl ?_
  simp only [fn20, E20, eNode, eNodeC, EVT, EVD, ↓reduceIte, Nat.reduceEqDiff, reduceCtorEq, Nat.reduceAdd, Nat.reduceLeDiff, ne_eq, Nat.reduceLT, Int.reduceLT, Int.reduceLE, Int.reduceNeg]
  repeat' (first | (refine fork_split (fun hb => ?_) (fun hb => ?_) <;> simp only [hb, E20, hk, bytes_of, EVT, EVD, ↓reduceIte, Nat.reduceEqDiff, reduceCtorEq, Nat.reduceAdd, Nat.reduceLeDiff, ne_eq, Nat.reduceLT, Int.reduceLT, Int.reduceLE, Int.reduceNeg]) | (refine guard_split (fun hb => ?_) (fun hb => ?_) <;> simp only [hb, E20, hk, bytes_of, EVT, EVD, ↓reduceIte, Nat.reduceEqDiff, reduceCtorEq, Nat.reduceAdd, Nat.reduceLeDiff, ne_eq, Nat.reduceLT, Int.reduceLT, Int.reduceLE, Int.reduceNeg]) | (refine opK_pick (fun hb => ?_) (fun hb => ?_) <;> simp only [hb, E20, hk, bytes_of, EVT, EVD, ↓reduceIte, Nat.reduceEqDiff, reduceCtorEq, Nat.reduceAdd, Nat.reduceLeDiff, ne_eq, Nat.reduceLT, Int.reduceLT, Int.reduceLE, Int.reduceNeg]))
  all_goals clear hk
  all_goals simp_all [bne]
theorem k20 (hp : T.prim 21 = none) (hc : T.code 21 = some fn21) (hp' : T.prim 20 = none) (hc' : T.code 20 = some fn20) (x y : Node) (hx : x.ents.length ≤ 100000) (M : AMem) : callOp (acall T) 20 [.agg (eNodeC x), .agg (eNodeC y)] M = some (.bool (decide (x = y)), M) := callOp0 (c20 hp hc hp' hc' x y hx) rfl rfl rfl rfl rfl M
end Go.Proofs.YtnapockikkbkcaaGreat
set_option linter.defProp false
namespace Go.Proofs.YtnapockikkbkcaaGreat
open Go Go.Abs
def q3_0 : ACode :=
 (.seq (.region [
 ob 32 (.mv (.tmp 11)),
 ob 10 (.mv (.tmp 32))] false [10]) (.ret))
def q3_1 : ACode :=
 (.seq (.region [
 ob 63 (.mv (.tmp 11)),
 ob 64 (.mv (.tmp 63)),
 og 65 64 true (.mv (.tmp 18)),
 og 66 64 true (.bin .eql (.tmp 65) (.cst (.int .i64 0))),
 ob 67 (.pick (.tmp 64) (.tmp 66) (.cst (.bool false))),
 ob 10 (.mv (.tmp 67))] false [10]) (.ret))
def q3_2 : ACode :=
 (.seq (.region [
 ob 10 (.mv (.cst (.bool false)))] false [10]) (.ret))
def q3_3 : ACode :=
 (.seq (.region [
 ob 113 (.mv (.tmp 11)),
 ob 114 (.mv (.tmp 113)),
 og 115 114 true (.mv (.tmp 24)),
 og 116 114 true (.mv (.tmp 115)),
 og 117 116 false (.mv (.tmp 18)),
 og 118 116 false (.bin .eql (.tmp 117) (.cst (.int .i64 0))),
 og 119 114 true (.pick (.tmp 116) (.cst (.bool true)) (.tmp 118)),
 ob 120 (.pick (.tmp 114) (.tmp 119) (.cst (.bool false))),
 ob 10 (.mv (.tmp 120))] false [10]) (.ret))
def q3_4 : ACode :=
 (.seq (.region [
 ob 10 (.mv (.cst (.bool false)))] false [10]) (.ret))
def q3_5 : ACode :=
 (.seq (.region [
 ob 10 (.mv (.cst (.bool false)))] false [10]) (.ret))
def q3_6 : ACode :=
 (.seq (.region [
 ob 10 (.mv (.cst (.bool false)))] false [10]) (.ret))
def q3_7 : ACode :=
 (.seq (.region [
 ob 178 (.faddr 0 (.tmp 26)),
 ob 179 (.load1 (.tmp 178)),
 ob 180 (.mv (.tmp 15)),
 ob 181 (.bin .eql (.tmp 179) (.tmp 180)),
 ob 182 (.mv (.tmp 181)),
 og 183 182 true (.mv (.tmp 28)),
 og 184 182 true (.not (.tmp 183)),
 og 185 182 true (.mv (.tmp 184)),
 og 186 185 false (.faddr 3 (.tmp 27)),
 og 187 185 false (.load1 (.tmp 186)),
 og 188 185 false (.b2s (.tmp 187)),
 og 189 185 false (.faddr 3 (.tmp 26)),
 og 190 185 false (.load1 (.tmp 189)),
 og 191 185 false (.b2s (.tmp 190)),
 og 192 185 false (.bin .neq (.tmp 188) (.tmp 191)),
 og 193 182 true (.pick (.tmp 185) (.cst (.bool true)) (.tmp 192)),
 og 194 182 true (.mv (.tmp 193)),
 og 195 194 false (.faddr 0 (.tmp 26)),
 og 196 194 false (.load1 (.tmp 195)),
 og 197 194 false (.mv (.tmp 14)),
 og 198 194 false (.bin .neq (.tmp 196) (.tmp 197)),
 og 199 194 false (.mv (.tmp 198)),
 og 200 199 true (.faddr 0 (.tmp 26)),
 og 201 199 true (.load1 (.tmp 200)),
 og 202 199 true (.mv (.tmp 13)),
 og 203 199 true (.bin .neq (.tmp 201) (.tmp 202)),
 og 204 194 false (.pick (.tmp 199) (.tmp 203) (.cst (.bool false))),
 og 205 194 false (.mv (.tmp 204)),
 og 206 205 true (.faddr 4 (.tmp 26)),
 og 207 205 true (.load1 (.tmp 206)),
 og 208 205 true (.faddr 4 (.tmp 27)),
 og 209 205 true (.load1 (.tmp 208)),
 og 210 205 true (.call 21 [(.tmp 207), (.tmp 209)]),
 og 211 205 true (.not (.tmp 210)),
 og 212 194 false (.pick (.tmp 205) (.tmp 211) (.cst (.bool false))),
 og 213 182 true (.pick (.tmp 194) (.cst (.bool true)) (.tmp 212)),
 og 214 182 true (.mv (.tmp 213)),
 og 215 214 false (.faddr 2 (.tmp 26)),
 og 216 214 false (.load1 (.tmp 215)),
 og 217 214 false (.faddr 2 (.tmp 27)),
 og 218 214 false (.load1 (.tmp 217)),
 og 219 214 false (.bin .neq (.tmp 216) (.tmp 218)),
 og 220 182 true (.pick (.tmp 214) (.cst (.bool true)) (.tmp 219)),
 ob 221 (.pick (.tmp 182) (.tmp 220) (.cst (.bool false)))] false [11, 12, 13, 14, 15, 17, 18, 25, 221]) (.cond (.tmp 221) q3_6 (.skip)))
def q3_8 : ACode :=
 (.seq (.seq (.region [
 ob 146 (.faddr 0 (.tmp 26)),
 ob 147 (.load1 (.tmp 146)),
 ob 148 (.mv (.tmp 13)),
 ob 149 (.bin .neq (.tmp 147) (.tmp 148)),
 ob 150 (.mv (.tmp 149)),
 og 151 150 true (.faddr 0 (.tmp 26)),
 og 152 150 true (.load1 (.tmp 151)),
 og 153 150 true (.mv (.tmp 14)),
 og 154 150 true (.bin .neq (.tmp 152) (.tmp 153)),
 ob 155 (.pick (.tmp 150) (.tmp 154) (.cst (.bool false))),
 ob 156 (.mv (.tmp 155)),
 og 157 156 true (.faddr 0 (.tmp 26)),
 og 158 156 true (.load1 (.tmp 157)),
 og 159 156 true (.mv (.tmp 15)),
 og 160 156 true (.bin .neq (.tmp 158) (.tmp 159)),
 ob 161 (.pick (.tmp 156) (.tmp 160) (.cst (.bool false))),
 ob 162 (.mv (.tmp 161)),
 og 163 162 true (.faddr 0 (.tmp 26)),
 og 164 162 true (.load1 (.tmp 163)),
 og 165 162 true (.mv (.tmp 18)),
 og 166 162 true (.bin .neq (.tmp 164) (.tmp 165)),
 ob 167 (.pick (.tmp 162) (.tmp 166) (.cst (.bool false))),
 ob 168 (.mv (.tmp 167)),
 og 169 168 true (.mv (.tmp 28)),
 og 170 168 true (.not (.tmp 169)),
 og 171 168 true (.mv (.tmp 170)),
 og 172 171 false (.loadA 6 (.tmp 26)),
 og 173 171 false (.loadA 6 (.tmp 27)),
 og 174 171 false (.call 20 [(.tmp 172), (.tmp 173)]),
 og 175 171 false (.not (.tmp 174)),
 og 176 168 true (.pick (.tmp 171) (.cst (.bool true)) (.tmp 175)),
 ob 177 (.pick (.tmp 168) (.tmp 176) (.cst (.bool false)))] false [11, 12, 13, 14, 15, 17, 18, 25, 26, 27, 28, 177]) (.cond (.tmp 177) q3_5 (.skip))) q3_7)
def q3_9 : ACode :=
 (.seq (.region [
 ob 140 (.loadA 3 (.tmp 17)),
 ob 141 (.faddr 0 (.tmp 26)),
 ob 142 (.load1 (.tmp 141)),
 ob 143 (.call 19 [(.tmp 140), (.tmp 142)]),
 ob 139 (.mv (.tmp 143)),
 ob 144 (.extract (.tmp 139) 0),
 ob 145 (.extract (.tmp 139) 1),
 ob 27 (.box0 [(.int .i64 0), (.int .i64 0), (.int .i64 0), (.slice .c0 []), (.slice .c0 []), (.int .i64 0)]),
 ox (.store 6 (.tmp 27) (.tmp 144)),
 ob 28 (.mv (.tmp 145))] false [11, 12, 13, 14, 15, 17, 18, 25, 26, 27, 28]) q3_8)
def q3_10 : ACode :=
 (.region [
 ob 132 (.mv (.tmp 25)),
 ob 133 (.bin .add (.tmp 132) (.cst (.int .i64 1))),
 ob 25 (.mv (.tmp 133))] false [11, 12, 13, 14, 15, 17, 18, 25])
def q3_11 : ACode :=
 (.seq (.block 1 (.seq (.region [
 ob 134 (.faddr 0 (.tmp 12)),
 ob 135 (.load1 (.tmp 134)),
 ob 136 (.mv (.tmp 25)),
 ob 137 (.iaddr 6 (.tmp 135) (.tmp 136)),
 ob 138 (.loadA 6 (.tmp 137)),
 ob 26 (.box0 [(.int .i64 0), (.int .i64 0), (.int .i64 0), (.slice .c0 []), (.slice .c0 []), (.int .i64 0)]),
 ox (.store 6 (.tmp 26) (.tmp 138))] false [11, 12, 13, 14, 15, 17, 18, 25, 26]) q3_9)) q3_10)
def lb3_0 : ACode :=
 (.seq (.seq (.region [
 ob 127 (.mv (.tmp 25)),
 ob 128 (.faddr 0 (.tmp 12)),
 ob 129 (.load1 (.tmp 128)),
 ob 130 (.lenV (.tmp 129)),
 ob 131 (.bin .lss (.tmp 127) (.tmp 130))] false [11, 12, 13, 14, 15, 17, 18, 25, 131]) (.cond (.tmp 131) (.skip) (.exit 0))) q3_11)
def q3_12 : ACode :=
 (.block 0 (.loop [11, 12, 13, 14, 15, 17, 18, 25] lb3_0))
def q3_13 : ACode :=
 (.seq (.region [
 ob 222 (.mv (.tmp 11)),
 ob 223 (.mv (.tmp 222)),
 og 224 223 true (.faddr 0 (.tmp 17)),
 og 225 223 true (.load1 (.tmp 224)),
 og 226 223 true (.lenV (.tmp 225)),
 og 227 223 true (.faddr 0 (.tmp 12)),
 og 228 223 true (.load1 (.tmp 227)),
 og 229 223 true (.lenV (.tmp 228)),
 og 230 223 true (.bin .leq (.tmp 226) (.tmp 229)),
 ob 231 (.pick (.tmp 223) (.tmp 230) (.cst (.bool false))),
 ob 10 (.mv (.tmp 231))] false [10]) (.ret))
def q3_14 : ACode :=
 (.seq (.seq (.region [
 ob 25 (.mv (.cst (.int .i64 0)))] false [11, 12, 13, 14, 15, 17, 18, 25]) q3_12) q3_13)
def q3_15 : ACode :=
 (.seq (.seq (.region [
 ob 121 (.mv (.tmp 23)),
 ob 122 (.bin .neq (.tmp 121) (.cst (.int .i64 70))),
 ob 123 (.mv (.tmp 122)),
 og 124 123 true (.mv (.tmp 24)),
 og 125 123 true (.not (.tmp 124)),
 ob 126 (.pick (.tmp 123) (.tmp 125) (.cst (.bool false)))] false [11, 12, 13, 14, 15, 17, 18, 126]) (.cond (.tmp 126) q3_4 (.skip))) q3_14)
def q3_16 : ACode :=
 (.seq (.seq (.region [
 ob 110 (.loadA 3 (.tmp 12)),
 ob 111 (.loadA 3 (.tmp 17)),
 ob 112 (.call 18 [(.tmp 110), (.tmp 111)])] false [11, 12, 13, 14, 15, 17, 18, 23, 24, 112]) (.cond (.tmp 112) q3_3 (.skip))) q3_15)
def q3_17 : ACode :=
 (.seq (.seq (.region [
 ob 94 (.mv (.tmp 16)),
 ob 95 (.bin .neq (.tmp 94) (.cst (.int .i64 0))),
 ob 96 (.mv (.tmp 95)),
 og 97 96 false (.mv (.tmp 21)),
 og 98 96 false (.bin .neq (.tmp 97) (.cst (.int .i64 0))),
 ob 99 (.pick (.tmp 96) (.cst (.bool true)) (.tmp 98)),
 ob 100 (.mv (.tmp 99)),
 og 101 100 false (.mv (.tmp 20)),
 og 102 100 false (.mv (.tmp 15)),
 og 103 100 false (.bin .neq (.tmp 101) (.tmp 102)),
 ob 104 (.pick (.tmp 100) (.cst (.bool true)) (.tmp 103)),
 ob 105 (.mv (.tmp 104)),
 og 106 105 false (.mv (.tmp 18)),
 og 107 105 false (.mv (.tmp 15)),
 og 108 105 false (.bin .eql (.tmp 106) (.tmp 107)),
 ob 109 (.pick (.tmp 105) (.cst (.bool true)) (.tmp 108))] false [11, 12, 13, 14, 15, 17, 18, 23, 24, 109]) (.cond (.tmp 109) q3_2 (.skip))) q3_16)
def q3_18 : ACode :=
 (.seq (.region [
 ob 84 (.mv (.tmp 13)),
 ob 85 (.mv (.tmp 14)),
 ob 86 (.bin .eql (.tmp 84) (.tmp 85)),
 ob 87 (.mv (.tmp 86)),
 og 88 87 true (.mv (.tmp 3)),
 og 89 87 true (.bin .rem (.tmp 88) (.cst (.int .u8 6))),
 og 90 87 true (.mv (.tmp 4)),
 og 91 87 true (.bin .rem (.tmp 90) (.cst (.int .u8 6))),
 og 92 87 true (.bin .eql (.tmp 89) (.tmp 91)),
 ob 93 (.pick (.tmp 87) (.tmp 92) (.cst (.bool false))),
 ob 24 (.mv (.tmp 93))] false [11, 12, 13, 14, 15, 16, 17, 18, 20, 21, 23, 24]) q3_17)
def q3_19 : ACode :=
 (.seq (.region [
 ob 77 (.loadA 3 (.tmp 17)),
 ob 78 (.mv (.tmp 13)),
 ob 79 (.mv (.tmp 3)),
 ⟨(some 80), .call 16 [(.tmp 79)], none, true, false, []⟩,
 ob 81 (.call 15 [(.tmp 77), (.tmp 78), (.tmp 80)]),
 ob 76 (.mv (.tmp 81)),
 ob 82 (.extract (.tmp 76) 0),
 ob 83 (.extract (.tmp 76) 1),
 ob 22 (.mv (.tmp 82)),
 ob 23 (.mv (.tmp 83))] true [3, 4, 11, 12, 13, 14, 15, 16, 17, 18, 20, 21, 23]) q3_18)
def q3_20 : ACode :=
 (.seq (.region [
 ob 69 (.loadA 3 (.tmp 17)),
 ob 70 (.mv (.tmp 14)),
 ob 71 (.mv (.tmp 4)),
 ⟨(some 72), .call 16 [(.tmp 71)], none, true, false, []⟩,
 ob 73 (.call 15 [(.tmp 69), (.tmp 70), (.tmp 72)]),
 ob 68 (.mv (.tmp 73)),
 ob 74 (.extract (.tmp 68) 0),
 ob 75 (.extract (.tmp 68) 1),
 ob 20 (.mv (.tmp 74)),
 ob 21 (.mv (.tmp 75))] true [3, 4, 11, 12, 13, 14, 15, 16, 17, 18, 20, 21]) q3_19)
def q3_21 : ACode :=
 (.seq (.seq (.region [
 ob 61 (.mv (.tmp 19)),
 ob 62 (.bin .neq (.tmp 61) (.cst (.int .i64 0)))] false [3, 4, 11, 12, 13, 14, 15, 16, 17, 18, 62]) (.cond (.tmp 62) q3_1 (.skip))) q3_20)
def q3_22 : ACode :=
 (.seq (.region [
 ob 50 (.loadA 3 (.tmp 12)),
 ob 51 (.mv (.tmp 13)),
 ob 52 (.mv (.tmp 3)),
 ⟨(some 53), .call 16 [(.tmp 52)], none, false, true, []⟩,
 ob 54 (.mv (.tmp 14)),
 ob 55 (.mv (.tmp 4)),
 ⟨(some 56), .call 16 [(.tmp 55)], none, false, true, []⟩,
 ⟨(some 57), .call 17 [(.tmp 50), (.tmp 51), (.tmp 53), (.tmp 54), (.tmp 56)], none, false, true, []⟩,
 ob 49 (.mv (.tmp 57)),
 ob 58 (.extract (.tmp 49) 0),
 ob 59 (.extract (.tmp 49) 1),
 ob 60 (.extract (.tmp 49) 2),
 ⟨(some 17), .box0 [(.slice .c0 []), (.int .i64 0), (.int .i64 0)], none, true, false, []⟩,
 ox (.store 3 (.tmp 17) (.tmp 58)),
 ob 18 (.mv (.tmp 59)),
 ob 19 (.mv (.tmp 60))] true [3, 4, 11, 12, 13, 14, 15, 16, 17, 18, 19]) q3_21)
def q3_23 : ACode :=
 (.seq (.region [
 ob 42 (.loadA 3 (.tmp 12)),
 ob 43 (.mv (.tmp 13)),
 ob 44 (.mv (.tmp 3)),
 ⟨(some 45), .call 16 [(.tmp 44)], none, true, false, []⟩,
 ob 46 (.call 15 [(.tmp 42), (.tmp 43), (.tmp 45)]),
 ob 41 (.mv (.tmp 46)),
 ob 47 (.extract (.tmp 41) 0),
 ob 48 (.extract (.tmp 41) 1),
 ob 15 (.mv (.tmp 47)),
 ob 16 (.mv (.tmp 48))] true [3, 4, 11, 12, 13, 14, 15, 16]) q3_22)
def q3_24 : ACode :=
 (.seq (.region [
 ob 38 (.loadA 3 (.tmp 12)),
 ob 39 (.mv (.tmp 2)),
 ob 40 (.call 14 [(.tmp 38), (.tmp 39)]),
 ob 14 (.mv (.tmp 40))] false [3, 4, 11, 12, 13, 14]) q3_23)
def q3_25 : ACode :=
 (.seq (.region [
 ob 35 (.loadA 3 (.tmp 12)),
 ob 36 (.mv (.tmp 1)),
 ob 37 (.call 14 [(.tmp 35), (.tmp 36)]),
 ob 13 (.mv (.tmp 37))] false [2, 3, 4, 11, 12, 13]) q3_24)
def q3_26 : ACode :=
 (.seq (.region [
 ob 33 (.mv (.tmp 0)),
 ob 34 (.call 13 [(.tmp 33)]),
 ob 12 (.box0 [(.slice .c0 []), (.int .i64 0), (.int .i64 0)]),
 ox (.store 3 (.tmp 12) (.tmp 34))] false [1, 2, 3, 4, 11, 12]) q3_25)
def q3_27 : ACode :=
 (.seq (.seq (.region [
 ob 30 (.mv (.tmp 0)),
 ob 31 (.call 12 [(.tmp 30)])] false [0, 1, 2, 3, 4, 11, 31]) (.cond (.tmp 31) q3_0 (.skip))) q3_26)
def q3_28 : ACode :=
 (.seq (.region [
 ob 29 (.call 11 []),
 ob 11 (.mv (.tmp 29))] false [0, 1, 2, 3, 4, 11]) q3_27)
def E3 := And.intro (exK_head q3_0.eq_1) (And.intro (exK_head q3_1.eq_1) (And.intro (exK_head q3_2.eq_1) (And.intro (exK_head q3_3.eq_1) (And.intro (exK_head q3_4.eq_1) (And.intro (exK_head q3_5.eq_1) (And.intro (exK_head q3_6.eq_1) (And.intro (exK_head q3_7.eq_1) (And.intro (exK_head q3_8.eq_1) (And.intro (exK_head q3_9.eq_1) (And.intro (exK_head q3_10.eq_1) (And.intro (exK_head q3_11.eq_1) (And.intro (exK_head lb3_0.eq_1) (And.intro (exK_head q3_12.eq_1) (And.intro (exK_head q3_13.eq_1) (And.intro (exK_head q3_14.eq_1) (And.intro (exK_head q3_15.eq_1) (And.intro (exK_head q3_16.eq_1) (And.intro (exK_head q3_17.eq_1) (And.intro (exK_head q3_18.eq_1) (And.intro (exK_head q3_19.eq_1) (And.intro (exK_head q3_20.eq_1) (And.intro (exK_head q3_21.eq_1) (And.intro (exK_head q3_22.eq_1) (And.intro (exK_head q3_23.eq_1) (And.intro (exK_head q3_24.eq_1) (And.intro (exK_head q3_25.eq_1) (And.intro (exK_head q3_26.eq_1) (And.intro (exK_head q3_27.eq_1) (exK_head q3_28.eq_1)))))))))))))))))))))))))))))
def ann3 : Ann := { n := 232, own := [], lv := [(0, [0, 1, 2, 3, 4]), (1, [0, 1, 2, 3, 4, 11]), (2, [0, 1, 2, 3, 4, 11, 31]), (3, [10]), (4, [1, 2, 3, 4, 11, 12]), (5, [2, 3, 4, 11, 12, 13]), (6, [3, 4, 11, 12, 13, 14]), (7, [3, 4, 11, 12, 13, 14, 15, 16]), (8, [3, 4, 11, 12, 13, 14, 15, 16, 17, 18, 19]), (9, [3, 4, 11, 12, 13, 14, 15, 16, 17, 18, 62]), (10, [10]), (11, [3, 4, 11, 12, 13, 14, 15, 16, 17, 18, 20, 21]), (12, [3, 4, 11, 12, 13, 14, 15, 16, 17, 18, 20, 21, 23]), (13, [11, 12, 13, 14, 15, 16, 17, 18, 20, 21, 23, 24]), (14, [11, 12, 13, 14, 15, 17, 18, 23, 24, 109]), (15, [10]), (16, [11, 12, 13, 14, 15, 17, 18, 23, 24, 112]), (17, [10]), (18, [11, 12, 13, 14, 15, 17, 18, 126]), (19, [10]), (20, [11, 12, 13, 14, 15, 17, 18, 25]), (21, [11, 12, 13, 14, 15, 17, 18, 25, 131]), (22, [11, 12, 13, 14, 15, 17, 18, 25]), (23, [11, 12, 13, 14, 15, 17, 18, 25, 26]), (24, [11, 12, 13, 14, 15, 17, 18, 25, 26, 27, 28]), (25, [11, 12, 13, 14, 15, 17, 18, 25, 26, 27, 28, 177]), (26, [10]), (27, [11, 12, 13, 14, 15, 17, 18, 25, 221]), (28, [10]), (29, [10])], lp := [(21, [11, 12, 13, 14, 15, 17, 18, 25])] }
def fn3 : AFn := AFn.mk 5 [.tmp 10]
  (.seq (.region [
  ob 10 (.mv (.cst (.bool false)))] false [0, 1, 2, 3, 4]) q3_28)
theorem ok3 : compFn Tryz.prog ann3 Tryz.f3 = some fn3 := by kernel_rfl
end Go.Proofs.YtnapockikkbkcaaGreat
namespace Go.Proofs.YtnapockikkbkcaaGreat
open Go Go.Abs Go.ChangeShapes Go.WideShapes Go.RowKit Go.Deep
set_option maxRecDepth 100000 in
theorem treeMoves_lifted {T : Tab} (hT : SoundC Tryz.prog (acall T)) (K : ∀ (x0 : List Step) (x1 : Nat) (x2 : Nat) (x3 : Nat) (x4 : Nat), (∀ s, s ∈ x0 → stepOk s) → x1 < 256 → x2 < 256 → x3 < 256 → x4 < 256 → acall T 3 [eSteps x0, eU x1, eU x2, eU x3, eU x4] [] = some (.bool true, []))
    (os : Os) (started : os.Started) (H : Type) (enc : TypeId × Value → H) :
    ReturnsInHanded {} Tryz.checked os 3 .any (Rows.treeMovesSpec.pre6 enc Tryz.prog Tryz.f3 Rows.treeMovesRow.domain false) (Rows.treeMovesSpec.post enc Tryz.prog Tryz.f3 false Rows.treeMovesRow.fresh Rows.treeMovesRow.handsOn Rows.treeMovesRow.again) := by
  refine returnsInHanded_of_change (C := Tryz.checked) ownK started (by kernel_rfl) Tryz.func3
    (ChangeSpec.witness6 (enc := enc) (C := Tryz.checked) false ⟨#[], #[.slice none 0 0, .int .u8 0, .int .u8 0, .int .u8 0, .int .u8 0], []⟩ 8 (by kernel_rfl) (by kernel_rfl) (by kernel_rfl) (by kernel_rfl)) ?_
  intro W base args ds gs before hval0 hW _ _
  have hval : ∀ (j : Nat) t v, Tryz.f3.params[j]? = some t → args[j]? = some v → Value.okWide Tryz.prog W .any base t v := hval0
  have hW' := hW
  obtain ⟨p, q, hA0, hV, rfl, _, _⟩ := hW
  have hA : DataW.TrodAll enc Tryz.prog W 0 (fun _ => true) true Tryz.f3.params.toList args.toList ds p := hA0
  have hA1 := hA
  rw [Tryz.params3] at hA hval
  obtain ⟨v0, vs1, d0, ds1, p0, q0, hvs0, rfl, rfl, h0, hA⟩ := trodAll_cons hA
  obtain ⟨v1, vs2, d1, ds2, p1, q1, rfl, rfl, rfl, h1, hA⟩ := trodAll_cons hA
  obtain ⟨v2, vs3, d2, ds3, p2, q2, rfl, rfl, rfl, h2, hA⟩ := trodAll_cons hA
  obtain ⟨v3, vs4, d3, ds4, p3, q3, rfl, rfl, rfl, h3, hA⟩ := trodAll_cons hA
  obtain ⟨v4, vs5, d4, ds5, p4, q4, rfl, rfl, rfl, h4, hA⟩ := trodAll_cons hA
  obtain ⟨rfl, rfl, rfl⟩ := trodAll_nil hA
  obtain rfl := two_of hvs0
  obtain ⟨rfl, rfl⟩ := trodVars_none hV
  obtain ⟨m0, l0, r0⟩ := steps_rep h0 (steps_cells Tryz.underlying22 (hval 0 22 _ rfl rfl))
  obtain ⟨n1, rfl, rfl, _, w1⟩ := open_int Tryz.underlying5 (hval 1 5 _ rfl rfl) h1
  obtain ⟨m1, rfl, l1⟩ := u8_nat w1
  obtain ⟨n2, rfl, rfl, _, w2⟩ := open_int Tryz.underlying5 (hval 2 5 _ rfl rfl) h2
  obtain ⟨m2, rfl, l2⟩ := u8_nat w2
  obtain ⟨n3, rfl, rfl, _, w3⟩ := open_int Tryz.underlying5 (hval 3 5 _ rfl rfl) h3
  obtain ⟨m3, rfl, l3⟩ := u8_nat w3
  obtain ⟨n4, rfl, rfl, _, w4⟩ := open_int Tryz.underlying5 (hval 4 5 _ rfl rfl) h4
  obtain ⟨m4, rfl, l4⟩ := u8_nat w4
  have hlt : ∀ x ∈ (p0 ++ (p1 ++ (p2 ++ (p3 ++ (p4 ++ []))))), x.block < W.heap.size := fun x hx => hW'.lt x (by simpa using hx)
  refine (plain_callS hT (K m0 m1 m2 m3 m4 l0 l1 l2 l3 l4) W _ rfl ?_).mono ?_
  · intro i c v hc hv
    match i with
    | 0 => cases hc; cases hv; exact .plain r0
    | 1 => cases hc; cases hv; exact .plain (.int _ _)
    | 2 => cases hc; cases hv; exact .plain (.int _ _)
    | 3 => cases hc; cases hv; exact .plain (.int _ _)
    | 4 => cases hc; cases hv; exact .plain (.int _ _)
    | i + 5 => cases hc
  · rintro e W' ⟨v, j', rfl, hb, hrep⟩
    obtain rfl := hrep.bool_inv
    exact ⟨_, rfl, ⟨_, _, _, [], _, [], hW', trodAll_mk1 (shut_bool Tryz.underlying4 true), trodAll_stays hb hA1 (by rw [Tryz.params3]; intro t ht; simp at ht; rcases ht with rfl | rfl <;> exact ⟨by kernel_rfl, of_decide_eq_true (by kernel_rfl)⟩) hlt, rfl, hb.frame _, fun h => by cases h⟩⟩
theorem treeMoves_of {T : Tab} (hT : SoundC Tryz.prog (acall T)) (K : ∀ (x0 : List Step) (x1 : Nat) (x2 : Nat) (x3 : Nat) (x4 : Nat), (∀ s, s ∈ x0 → stepOk s) → x1 < 256 → x2 < 256 → x3 < 256 → x4 < 256 → acall T 3 [eSteps x0, eU x1, eU x2, eU x3, eU x4] [] = some (.bool true, [])) : Rows.TreeMovesSaid :=
  OpenClaim.holds_of_wide 3 Tryz.f3 rfl rfl rfl rfl rfl rfl rfl ⟨rfl, rfl, rfl, rfl, rfl⟩ rfl rfl rfl rfl rfl (by kernel_rfl) Tryz.func3 (by kernel_rfl)
    (of_decide_eq_true (by kernel_rfl)) (by unfold Func.isWrapper; rw [if_neg (by decide +kernel)]; exact ⟨rfl, rfl⟩)
    (fun os started H enc _ => treeMoves_lifted hT K os started H enc)
end Go.Proofs.YtnapockikkbkcaaGreat
namespace Go.Proofs.YtnapockikkbkcaaGreat
open Go Go.Abs
attribute [local irreducible] exK opsK opK gK forkK kr acall callOp owhen obind
def cLc : Nat → Option AFn
  | 3 => some fn3
  | 20 => some fn20
  | 21 => some fn21
  | _ => none
theorem xLc : ExtOk cLc := by
  refine ⟨fun f fn h => ?_, fun f fn h => ?_⟩
  · unfold cLc at h
    split at h
    · injection h with h; subst h; exact ⟨_, _, Tryz.func3, ok3⟩
    · injection h with h; subst h; exact ⟨_, _, Tryz.func20, ok20⟩
    · injection h with h; subst h; exact ⟨_, _, Tryz.func21, ok21⟩
    · cases h
  · unfold cLc at h
    split at h
    · exact ⟨rfl, rfl⟩
    · exact ⟨rfl, rfl⟩
    · exact ⟨rfl, rfl⟩
    · cases h
def goodMv (un : List Node) (f to x y : Int) (p : Node) : Prop :=
  (p.ino ≠ f → p.ino ≠ to → p.ino ≠ x → p.ino ≠ y → find un p.ino = some p) ∧
  (p.ino = x → ∃ q, find un p.ino = some q ∧ q.data = p.data ∧ p.ents = q.ents ∧ p.links = q.links)
set_option maxHeartbeats 4000000 in
theorem loop3 {nodes : List Node} {next cookie : Int} {un : List Node} {ux uc f to x y : Int} (hn : nodes.length ≤ 1000) (he : ∀ n, n ∈ nodes → n.ents.length ≤ 1000) (hz : Small ⟨un, ux, uc⟩) (hr : Srt ⟨un, ux, uc⟩) (hg : ∀ p, p ∈ nodes → goodMv un f to x y p) {k : List K} {r : Option (AVal × AMem)}
    (hx : ∀ v q, kr (acall (tabX cLc)) [.tmp 10] 0 k ⟨.exit 0, [(11, .bool true), (12, .ptr 0 0), (13, .int .i64 f), (14, .int .i64 to), (15, .int .i64 x), (17, .ptr 1 0), (18, .int .i64 y), (25, v), (131, q)], [.cells [eNodes nodes, .int .i64 next, .int .i64 cookie], .cells [eNodes un, .int .i64 ux, .int .i64 uc]]⟩ = r) :
    ∀ (l pre : List Node), nodes = pre ++ l → exK (acall (tabX cLc)) [.tmp 10] 0 k (.loop [11, 12, 13, 14, 15, 17, 18, 25] lb3_0) [(11, .bool true), (12, .ptr 0 0), (13, .int .i64 f), (14, .int .i64 to), (15, .int .i64 x), (17, .ptr 1 0), (18, .int .i64 y), (25, .int .i64 pre.length)] [.cells [eNodes nodes, .int .i64 next, .int .i64 cookie], .cells [eNodes un, .int .i64 ux, .int .i64 uc]] = r := by
  intro l
  induction l with
  | nil =>
    intro pre h
    rw [exK_loop]
    simp only [E3, lt_end h, EVT, EVD, ↓reduceIte, Nat.reduceEqDiff, reduceCtorEq, Nat.reduceAdd, Nat.reduceLeDiff, ne_eq, Nat.reduceLT, Int.reduceLT, Int.reduceLE, Int.reduceNeg]
    exact hx _ _
  | cons n rest ih =>
    intro pre h
    rw [exK_loop]
    have hlen : pre.length + 1 ≤ 1000 := by rw [h] at hn; simp at hn; omega
    have hw : IntKind.i64.wrap ((pre.length : Int) + 1) = ((pre ++ [n]).length : Int) := by rw [wrap_small (by omega) (by omega)]; exact step_len
    have hi := ih (pre ++ [n]) (by rw [h]; simp)
    simp only [List.length_append, List.length_cons, List.length_nil] at hi
    have hmem : n ∈ nodes := by rw [h]; simp
    have hen := he n hmem
    have q19 := fun ino M => kX xLc (k19 un ux uc ino hz hr M)
    have q20 := fun a b c d e u a' b' c' d' e' u' (he : e.length ≤ 100000) M => k20 (T := tabX cLc) rfl rfl rfl rfl ⟨a, b, c, d, e, u⟩ ⟨a', b', c', d', e', u'⟩ he M
    have q21 := fun b M => k21 (T := tabX cLc) rfl rfl n.ents b (by omega) M
    simp only [eNodeC] at q20
    obtain ⟨g1, g2⟩ := hg n hmem
    have hen' : n.ents.length ≤ 100000 := by omega
    by_cases hxe : n.ino = x
    · subst hxe
      obtain ⟨q, e1, e2, e3, e4⟩ := g2 rfl
      have hq : nodeN un n.ino = q := by simp [nodeN, e1]
      have hee : decide (n.ents = q.ents) = true := by simp [e3]
      have hs1 : (find un n.ino).isSome = true := by rw [e1]; rfl
      simp only [E3, lt_mid h, at_mid h, q19, eNode, eNodeC, hq, hs1, e2, e4, bne_self_eq_false, EVT, EVD, ↓reduceIte, Nat.reduceEqDiff, reduceCtorEq, Nat.reduceAdd, Nat.reduceLeDiff, ne_eq, Nat.reduceLT, Int.reduceLT, Int.reduceLE, Int.reduceNeg]
      repeat' (first | (refine fork_split (fun hb => ?_) (fun hb => ?_) <;> simp only [hb, E3, q21, hen', bytes_of, hw, hq, hee, e2, e4, bne_self_eq_false, EVT, EVD, ↓reduceIte, Nat.reduceEqDiff, reduceCtorEq, Nat.reduceAdd, Nat.reduceLeDiff, ne_eq, Nat.reduceLT, Int.reduceLT, Int.reduceLE, Int.reduceNeg]) | (refine guard_split (fun hb => ?_) (fun hb => ?_) <;> simp only [hb, E3, q21, hen', bytes_of, hw, hq, hee, e2, e4, bne_self_eq_false, EVT, EVD, ↓reduceIte, Nat.reduceEqDiff, reduceCtorEq, Nat.reduceAdd, Nat.reduceLeDiff, ne_eq, Nat.reduceLT, Int.reduceLT, Int.reduceLE, Int.reduceNeg]) | (refine opK_pick (fun hb => ?_) (fun hb => ?_) <;> simp only [hb, E3, q21, hen', bytes_of, hw, hq, hee, e2, e4, bne_self_eq_false, EVT, EVD, ↓reduceIte, Nat.reduceEqDiff, reduceCtorEq, Nat.reduceAdd, Nat.reduceLeDiff, ne_eq, Nat.reduceLT, Int.reduceLT, Int.reduceLE, Int.reduceNeg]))
      all_goals exact hi
    · have hx1 : (n.ino == x) = false := by simpa using hxe
      have hx2 : (n.ino != x) = true := by simpa using hxe
      by_cases hall : n.ino ≠ f ∧ n.ino ≠ to ∧ n.ino ≠ y
      · have e1 := g1 hall.1 hall.2.1 hxe hall.2.2
        have hq : nodeN un n.ino = n := by simp [nodeN, e1]
        have hs1 : (find un n.ino).isSome = true := by rw [e1]; rfl
        have hf1 : (n.ino != f) = true := by simpa using hall.1
        have hf2 : (n.ino != to) = true := by simpa using hall.2.1
        have hf3 : (n.ino != y) = true := by simpa using hall.2.2
        simp only [E3, lt_mid h, at_mid h, q19, eNode, eNodeC, hq, hs1, hx1, hx2, hf1, hf2, hf3, q20, hen', hw, EVT, EVD, ↓reduceIte, Nat.reduceEqDiff, reduceCtorEq, Nat.reduceAdd, Nat.reduceLeDiff, ne_eq, Nat.reduceLT, Int.reduceLT, Int.reduceLE, Int.reduceNeg]
        exact hi
      · simp only [E3, lt_mid h, at_mid h, q19, eNode, eNodeC, hx1, hx2, hw, EVT, EVD, ↓reduceIte, Nat.reduceEqDiff, reduceCtorEq, Nat.reduceAdd, Nat.reduceLeDiff, ne_eq, Nat.reduceLT, Int.reduceLT, Int.reduceLE, Int.reduceNeg]
        repeat' (first | (refine fork_split (fun hb => ?_) (fun hb => ?_) <;> simp only [hb, E3, hx1, hx2, hw, EVT, EVD, ↓reduceIte, Nat.reduceEqDiff, reduceCtorEq, Nat.reduceAdd, Nat.reduceLeDiff, ne_eq, Nat.reduceLT, Int.reduceLT, Int.reduceLE, Int.reduceNeg]) | (refine guard_split (fun hb => ?_) (fun hb => ?_) <;> simp only [hb, E3, hx1, hx2, hw, EVT, EVD, ↓reduceIte, Nat.reduceEqDiff, reduceCtorEq, Nat.reduceAdd, Nat.reduceLeDiff, ne_eq, Nat.reduceLT, Int.reduceLT, Int.reduceLE, Int.reduceNeg]) | (refine opK_pick (fun hb => ?_) (fun hb => ?_) <;> simp only [hb, E3, hx1, hx2, hw, EVT, EVD, ↓reduceIte, Nat.reduceEqDiff, reduceCtorEq, Nat.reduceAdd, Nat.reduceLeDiff, ne_eq, Nat.reduceLT, Int.reduceLT, Int.reduceLE, Int.reduceNeg]))
        all_goals first
          | exact hi
          | (exfalso; apply hall; clear q19 q20 q21 hi ih hx; simp_all; done)
theorem MvOk.good {t : Tree} {dep : Int → Nat} {f : Int} {s : Bytes} {to : Int} {nm : Bytes} {dF dT m : Node} {e : Ent} (h : GInv t dep 0) (k : MvOk t dep f s to nm dF dT m e) : ∀ p, p ∈ t.nodes → goodMv (moveN t f s to nm e.ino (underN dT.ents nm)).nodes f to e.ino (underN dT.ents nm) p := by
  intro p hp
  have hf := (find_iff h.srt.asc).2 ⟨hp, rfl⟩
  have hm := find_moveN h k p.ino
  refine ⟨fun h1 h2 h3 h4 => ?_, fun h3 => ?_⟩
  · rw [hm, if_neg h2, if_neg h1, if_neg h3, if_neg h4]; exact hf
  · rw [hm, if_neg (by rw [h3]; exact k.ne), if_neg (by rw [h3]; exact k.nf), if_pos h3]
    have hpm : p = m := by
      have := k.hm; rw [← h3, hf] at this; injection this
    subst hpm
    refine ⟨_, rfl, ?_, ?_, ?_⟩ <;> split <;> rfl
set_option maxHeartbeats 4000000 in
theorem c3 (l : List Step) (a b n m : Nat) (hl : ∀ s, s ∈ l → stepOk s) (ha : a < 256) (hb : b < 256) (hn : n < 256) (hm : m < 256) : acall (tabX cLc) 3 [eSteps l, eU a, eU b, eU n, eU m] [] = some (.bool true, []) := by
  refine acall_ex rfl rfl rfl ?_
  simp only [fn3, E3, kHead xLc, kGreat xLc, EVT, EVD, ↓reduceIte, Nat.reduceEqDiff, reduceCtorEq, Nat.reduceAdd, Nat.reduceLeDiff, ne_eq, Nat.reduceLT, Int.reduceLT, Int.reduceLE, Int.reduceNeg]
  refine fork_split (fun hg => ?_) (fun hg => ?_)
  · simp only [E3, EVT, EVD, ↓reduceIte, Nat.reduceEqDiff, reduceCtorEq, Nat.reduceAdd, Nat.reduceLeDiff, ne_eq, Nat.reduceLT, Int.reduceLT, Int.reduceLE, Int.reduceNeg]
  obtain ⟨hlen, hok⟩ := great_ok hg hl
  have hmade := fun M => kX xLc (k13 l (by omega) hok M)
  obtain ⟨dep, hinv⟩ := madeN_inv l
  have hz : Sz 1000 (madeN l) := (madeN_sz l hok).up (by omega)
  have hzm := fun f s to nm => ((madeN_sz l hok).mv f s to nm).up (show 1 + 5 * l.length + 5 ≤ 1000 by omega)
  generalize madeN l = T at *
  obtain ⟨nodes, next, cookie⟩ := T
  have ht : Small ⟨nodes, next, cookie⟩ := hz.small (by omega)
  have hr := hinv.srt
  have hn0 : nodes.length ≤ 100000 := ht.nodes
  have q14 := fun i hi M => kX xLc (k14 nodes next cookie i hi hn0 M)
  have q16 := fun i hi M => kX xLc (k16 i hi M)
  have q15 := fun ino i M => kX xLc (k15 nodes next cookie ino (nameOf i) ht hr (nameOf_len i) (nameOf_ascii i) M)
  have q17 := fun dir i to j M => k17 xLc nodes next cookie dir (nameOf i) to (nameOf j) hz hr (nameOf_len i) (nameOf_ascii i) (nameOf_len j) (nameOf_ascii j) (hinv.hun to (nameOf j)) M
  simp only [mvW_eq hinv] at q17
  have e6 : ((6 : Int) = 0) = False := by simp
  have hn6 : (n : Int).tmod 6 = ((n % 6 : Nat) : Int) := by rw [Int.tmod_eq_emod_of_nonneg (by omega)]; rfl
  have hm6 : (m : Int).tmod 6 = ((m % 6 : Nat) : Int) := by rw [Int.tmod_eq_emod_of_nonneg (by omega)]; rfl
  simp only [E3, hmade, eTree, eTreeC, q14, q15, q16, q17, ha, hb, hn, hm, EVT, EVD, ↓reduceIte, Nat.reduceEqDiff, reduceCtorEq, Nat.reduceAdd, Nat.reduceLeDiff, ne_eq, Nat.reduceLT, Int.reduceLT, Int.reduceLE, Int.reduceNeg]
  generalize inoAt ⟨nodes, next, cookie⟩ a = f at *
  generalize inoAt ⟨nodes, next, cookie⟩ b = to at *
  rcases mvN_cases hinv f (nameOf n) to (nameOf m) with ⟨_, c2, c3⟩ | ⟨c1, dF, dT, e, e2, d1, d2, d3, d4, d5, d6, d7, d8, d9, d10⟩ | ⟨dF, dT, mm, e, k, d3, d5, hmv⟩
  · have hbb : ((mvN ⟨nodes, next, cookie⟩ f (nameOf n) to (nameOf m)).2.2 != 0) = true := by simpa using c3
    simp only [E3, hbb, c2, EVT, EVD, ↓reduceIte, Nat.reduceEqDiff, reduceCtorEq, Nat.reduceAdd, Nat.reduceLeDiff, ne_eq, Nat.reduceLT, Int.reduceLT, Int.reduceLE, Int.reduceNeg]
  · have hl2 : lookN nodes to (nameOf m) = (e.ino, 0) := by rw [look_of d6 d7 d8, d9]; simp [d10]
    obtain ⟨_, _, _, _, mm, hmm, _⟩ := hinv.ent _ _ e d1 (findE_mem d4).1
    have hx1 := (hinv.num _ _ hmm).1
    have hx0 : ((0 : Int) == e.ino) = false := by simp; omega
    have q18 := fun M => kX xLc (k18 ⟨nodes, next, cookie⟩ ⟨nodes, next, cookie⟩ ht M)
    simp only [E3, c1, d5, hl2, q15, q16, hn, hm, hx0, hn6, hm6, e6, bne_self_eq_false, EVT, EVD, ↓reduceIte, Nat.reduceEqDiff, reduceCtorEq, Nat.reduceAdd, Nat.reduceLeDiff, ne_eq, Nat.reduceLT, Int.reduceLT, Int.reduceLE, Int.reduceNeg]
    repeat' (first | (refine fork_split (fun hb => ?_) (fun hb => ?_) <;> simp only [hb, E3, q15, q16, q18, hn6, hm6, e6, hx0, bne_self_eq_false, hl2, d5, EVT, EVD, ↓reduceIte, Nat.reduceEqDiff, reduceCtorEq, Nat.reduceAdd, Nat.reduceLeDiff, ne_eq, Nat.reduceLT, Int.reduceLT, Int.reduceLE, Int.reduceNeg]) | (refine guard_split (fun hb => ?_) (fun hb => ?_) <;> simp only [hb, E3, q15, q16, q18, hn6, hm6, e6, hx0, bne_self_eq_false, hl2, d5, EVT, EVD, ↓reduceIte, Nat.reduceEqDiff, reduceCtorEq, Nat.reduceAdd, Nat.reduceLeDiff, ne_eq, Nat.reduceLT, Int.reduceLT, Int.reduceLE, Int.reduceNeg]) | (refine opK_pick (fun hb => ?_) (fun hb => ?_) <;> simp only [hb, E3, q15, q16, q18, hn6, hm6, e6, hx0, bne_self_eq_false, hl2, d5, EVT, EVD, ↓reduceIte, Nat.reduceEqDiff, reduceCtorEq, Nat.reduceAdd, Nat.reduceLeDiff, ne_eq, Nat.reduceLT, Int.reduceLT, Int.reduceLE, Int.reduceNeg]))
  · obtain ⟨dep', hinv'⟩ := hinv.mv (nameOf_nm m) k
    have hz' := hzm f (nameOf n) to (nameOf m)
    rw [hmv] at hz'
    simp only at hz'
    have f1 := k.look_to hinv
    have f2 := fun hne => k.look_from hinv d3 hne
    have f3 := k.under_ne hinv
    have f4 := k.other hinv
    have f5 := k.len hinv hinv'
    have f6 := k.good hinv
    simp only [hmv]
    generalize moveN ⟨nodes, next, cookie⟩ f (nameOf n) to (nameOf m) e.ino (underN dT.ents (nameOf m)) = U at *
    generalize underN dT.ents (nameOf m) = y at *
    obtain ⟨un, ux, uc⟩ := U
    have hsu : Small ⟨un, ux, uc⟩ := hz'.small (by omega)
    have hru := hinv'.srt
    have p15 := fun ino i M => kX xLc (k15 un ux uc ino (nameOf i) hsu hru (nameOf_len i) (nameOf_ascii i) M)
    have p18 := fun M => kX xLc (k18 ⟨nodes, next, cookie⟩ ⟨un, ux, uc⟩ ht M)
    have hd : decide (Tree.mk nodes next cookie = Tree.mk un ux uc) = false := by simpa using f4
    have hy : (y == e.ino) = false := by simpa using f3
    have hlp := fun k r hx => loop3 (next := next) (cookie := cookie) (un := un) (ux := ux) (uc := uc) hz.nodes hz.ents hsu hru f6 (k := k) (r := r) hx nodes [] rfl
    have hle : decide ((un.length : Int) ≤ (nodes.length : Int)) = true := by simp only at f5; simp; omega
    simp only at f1 f2
    by_cases hsame : f = to ∧ n % 6 = m % 6
    · obtain ⟨hs1, hs2⟩ := hsame
      have hb1 : (f == to) = true := by simpa using hs1
      have hb2 : (((n % 6 : Nat) : Int) == ((m % 6 : Nat) : Int)) = true := by simp [hs2]
      simp only [E3, d5, f1, p15, q16, hn, hm, hn6, hm6, e6, hy, hd, p18, hb1, hb2, bne_self_eq_false, EVT, EVD, ↓reduceIte, Nat.reduceEqDiff, reduceCtorEq, Nat.reduceAdd, Nat.reduceLeDiff, ne_eq, Nat.reduceLT, Int.reduceLT, Int.reduceLE, Int.reduceNeg]
      repeat' (first | (refine fork_split (fun hb => ?_) (fun hb => ?_) <;> simp only [hb, E3, d5, f1, p15, q16, hn, hm, hn6, hm6, e6, hy, hd, p18, hb1, hb2, bne_self_eq_false, EVT, EVD, ↓reduceIte, Nat.reduceEqDiff, reduceCtorEq, Nat.reduceAdd, Nat.reduceLeDiff, ne_eq, Nat.reduceLT, Int.reduceLT, Int.reduceLE, Int.reduceNeg]) | (refine guard_split (fun hb => ?_) (fun hb => ?_) <;> simp only [hb, E3, d5, f1, p15, q16, hn, hm, hn6, hm6, e6, hy, hd, p18, hb1, hb2, bne_self_eq_false, EVT, EVD, ↓reduceIte, Nat.reduceEqDiff, reduceCtorEq, Nat.reduceAdd, Nat.reduceLeDiff, ne_eq, Nat.reduceLT, Int.reduceLT, Int.reduceLE, Int.reduceNeg]) | (refine opK_pick (fun hb => ?_) (fun hb => ?_) <;> simp only [hb, E3, d5, f1, p15, q16, hn, hm, hn6, hm6, e6, hy, hd, p18, hb1, hb2, bne_self_eq_false, EVT, EVD, ↓reduceIte, Nat.reduceEqDiff, reduceCtorEq, Nat.reduceAdd, Nat.reduceLeDiff, ne_eq, Nat.reduceLT, Int.reduceLT, Int.reduceLE, Int.reduceNeg]))
      all_goals
        refine hlp _ _ (fun v q => ?_)
        simp only [E3, hle, EVT, EVD, ↓reduceIte, Nat.reduceEqDiff, reduceCtorEq, Nat.reduceAdd, Nat.reduceLeDiff, ne_eq, Nat.reduceLT, Int.reduceLT, Int.reduceLE, Int.reduceNeg]
    · have hlk := f2 (fun hh => hsame ⟨hh.1, by
        rcases Nat.decEq (n % 6) (m % 6) with h6 | h6
        · exact absurd hh.2 (nameOf_inj h6)
        · exact h6⟩)
      simp only [E3, d5, f1, hlk, p15, q16, hn, hm, hn6, hm6, e6, hy, hd, p18, bne_self_eq_false, EVT, EVD, ↓reduceIte, Nat.reduceEqDiff, reduceCtorEq, Nat.reduceAdd, Nat.reduceLeDiff, ne_eq, Nat.reduceLT, Int.reduceLT, Int.reduceLE, Int.reduceNeg]
      repeat' (first | (refine fork_split (fun hb => ?_) (fun hb => ?_) <;> simp only [hb, E3, d5, f1, hlk, p15, q16, hn, hm, hn6, hm6, e6, hy, hd, p18, bne_self_eq_false, EVT, EVD, ↓reduceIte, Nat.reduceEqDiff, reduceCtorEq, Nat.reduceAdd, Nat.reduceLeDiff, ne_eq, Nat.reduceLT, Int.reduceLT, Int.reduceLE, Int.reduceNeg]) | (refine guard_split (fun hb => ?_) (fun hb => ?_) <;> simp only [hb, E3, d5, f1, hlk, p15, q16, hn, hm, hn6, hm6, e6, hy, hd, p18, bne_self_eq_false, EVT, EVD, ↓reduceIte, Nat.reduceEqDiff, reduceCtorEq, Nat.reduceAdd, Nat.reduceLeDiff, ne_eq, Nat.reduceLT, Int.reduceLT, Int.reduceLE, Int.reduceNeg]) | (refine opK_pick (fun hb => ?_) (fun hb => ?_) <;> simp only [hb, E3, d5, f1, hlk, p15, q16, hn, hm, hn6, hm6, e6, hy, hd, p18, bne_self_eq_false, EVT, EVD, ↓reduceIte, Nat.reduceEqDiff, reduceCtorEq, Nat.reduceAdd, Nat.reduceLeDiff, ne_eq, Nat.reduceLT, Int.reduceLT, Int.reduceLE, Int.reduceNeg]))
      all_goals
        refine hlp _ _ (fun v q => ?_)
        simp only [E3, hle, EVT, EVD, ↓reduceIte, Nat.reduceEqDiff, reduceCtorEq, Nat.reduceAdd, Nat.reduceLeDiff, ne_eq, Nat.reduceLT, Int.reduceLT, Int.reduceLE, Int.reduceNeg]
theorem treeMoves_holds : Rows.TreeMovesSaid := treeMoves_of (soundX xLc) c3
end Go.Proofs.YtnapockikkbkcaaGreat
