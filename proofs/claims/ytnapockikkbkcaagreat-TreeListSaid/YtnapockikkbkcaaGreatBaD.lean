import Derived.Laws.AppendOwn
import Derived.Laws.IdiomCopy
import Derived.Test.YtnapockikkbkcaaGreatProg
import Derived.Shelf.RegionOpenPlain
import Derived.WalkKit
import Derived.Deep.LoopGhost
import Derived.Deep.RegionLaw
import Derived.Lib.Walk
import Derived.Lib.SliceRun
import Derived.KernelRfl
import Derived.Lib.AppendZeros
import Derived.Lib.AppendZerosOnto
import Derived.Laws.NewBlocks
import Derived.Laws.Externs
import Derived.Deep.AppendSrc
import Derived.Below
import Derived.Lib.Strings
import Derived.Lib.Slices
import Derived.Lib.Bytealg
import Derived.Test.YtnapockikkbkcaaGreatBaC
set_option linter.unusedSimpArgs false
set_option linter.unusedVariables false
namespace Go.Abs
open Go Go.RowKit
section
variable {j : J} {M : AMem} {w w' : World}
theorem Ext.arrNew {k b' sz ver ver' : Nat} {xs xs' : List AVal} (hM : M[k]? = some (.arr sz ver xs)) (q : Quiet w w') (hb : ∀ b, b < w.heap.size → w'.heap[b]? = w.heap[b]?) (hf : w.heap.size ≤ b') (hn : ver < ver') :
    Ext j M w (upd j k (some b')) (M.set k (.arr sz ver' xs')) w' where
  len := by simp
  size := q.size
  os := q.os
  tape := q.tape
  output := q.output
  X := rfl
  fix := fun i b0 h hf => by
    have e : k ≠ i := by rintro rfl; rw [hM] at h; injection h with h; subst h; cases hf
    exact ⟨by simp [upd, Ne.symm e], b0, by rw [set_other e]; exact h, rfl⟩
  tick := fun i sz0 n0 h => by
    have e : k ≠ i := by rintro rfl; rw [hM] at h; cases h
    exact ⟨n0, Nat.le_refl _, by rw [set_other e]; exact h, fun _ => ⟨by simp [upd, Ne.symm e], fun b vs0 t0 _ hv => ⟨vs0, (hb b (lt_of_block hv)).trans hv, rfl⟩⟩⟩
  arr := fun i sz0 v0 xs0 h => by
    by_cases e : k = i
    · subst e
      rw [hM] at h
      injection h with h; injection h with h1 h2 h3
      subst h1; subst h2; subst h3
      exact .inr ⟨ver', xs', set_same (lt_of_some hM), by omega, fun he => by omega⟩
    · exact .inr ⟨v0, xs0, by rw [set_other e]; exact h, Nat.le_refl _, fun _ => ⟨by simp [upd, Ne.symm e], rfl, fun b vs0 t0 _ hv => ⟨vs0, (hb b (lt_of_block hv)).trans hv, rfl⟩⟩⟩
  saf := fun b0 off h => by
    refine ⟨⟨Nat.lt_of_lt_of_le h.1 q.size, fun i hi hji => ?_, h.3⟩, World.cell?_of_block (w := w) (hb b0 h.1)⟩
    have e : k ≠ i := by
      rintro rfl
      have : b' = b0 := by simpa [upd] using hji
      have := h.1
      omega
    rw [set_other e]
    exact h.2 i (by simpa using hi) (by simpa [upd, Ne.symm e] using hji)
  old := fun b0 hlt h => by
    refine ⟨hb b0 hlt, fun i hi hji => ?_⟩
    by_cases e : i = k
    · have : b' = b0 := by simpa [upd, e] using hji
      omega
    · exact h i (by simpa using hi) (by simpa [upd, e] using hji)
theorem Rel.arrNew {k b' sz ver ver' : Nat} {xs xs' : List AVal} (hM : M[k]? = some (.arr sz ver xs)) (hr : Rel j M w) (q : Quiet w w') (hb : ∀ b, b < w.heap.size → w'.heap[b]? = w.heap[b]?)
    (hf : w.heap.size ≤ b') (hlt : b' < w'.heap.size) (hn : ver < ver') (hh : ∀ j' M', Ext j M w j' M' w' → ArrAt j' M' w' b' sz xs') : Rel (upd j k (some b')) (M.set k (.arr sz ver' xs')) w' := by
  have ext : Ext j M w (upd j k (some b')) (M.set k (.arr sz ver' xs')) w' := Ext.arrNew hM q hb hf hn
  refine ⟨fun i i' b0 hi hi' h h' => ?_, fun i b0 hi h => ?_, fun i bx0 h hf => ?_, fun i sz0 n0 b0 h hji => ?_, fun i sz0 v0 xs0 h => ?_, fun i b0 hi h off hx => ?_, fun b0 off h => Nat.lt_of_lt_of_le (hr.xlt b0 off h) q.size⟩
  · simp only [List.length_set] at hi hi'
    by_cases e : i = k <;> by_cases e' : i' = k
    · omega
    · have h1 : b' = b0 := by simpa [upd, e] using h
      have := hr.lt i' b0 hi' (by simpa [upd, e'] using h')
      omega
    · have h1 : b' = b0 := by simpa [upd, e'] using h'
      have := hr.lt i b0 hi (by simpa [upd, e] using h)
      omega
    · exact hr.inj i i' b0 hi hi' (by simpa [upd, e] using h) (by simpa [upd, e'] using h')
  · simp only [List.length_set] at hi
    by_cases e : i = k
    · have h1 : b' = b0 := by simpa [upd, e] using h
      subst h1
      exact hlt
    · exact Nat.lt_of_lt_of_le (hr.lt i b0 hi (by simpa [upd, e] using h)) q.size
  · have e : k ≠ i := by rintro rfl; rw [set_same (lt_of_some hM)] at h; injection h with h; subst h; cases hf
    rw [set_other e] at h
    obtain ⟨b0, h1, h2⟩ := hr.fix i bx0 h hf
    exact ⟨b0, by simpa [upd, Ne.symm e] using h1, h2.mono ext (hb b0 (hr.lt i b0 (lt_of_some h) h1))⟩
  · have e : k ≠ i := by rintro rfl; rw [set_same (lt_of_some hM)] at h; cases h
    rw [set_other e] at h
    obtain ⟨vs0, t0, h1⟩ := hr.tick i sz0 n0 b0 h (by simpa [upd, Ne.symm e] using hji)
    exact ⟨vs0, t0, (hb b0 (lt_of_block h1)).trans h1⟩
  · by_cases e : k = i
    · subst e
      rw [set_same (lt_of_some hM)] at h
      injection h with h; injection h with e1 e2 e3
      subst e1; subst e2; subst e3
      obtain ⟨vs, t, g⟩ := hh _ _ ext
      exact ⟨b', vs, t, by simp [upd], g⟩
    · rw [set_other e] at h
      exact arr_keep hr ext h (by simp [upd, Ne.symm e]) fun b0 h1 => hb b0 (hr.lt i b0 (lt_of_some h) h1)
  · by_cases e : i = k
    · have h1 : b' = b0 := by simpa [upd, e] using h
      have h2 := hr.xlt b0 off hx
      omega
    · exact hr.xdis i b0 (by simpa using hi) (by simpa [upd, e] using h) off hx
theorem slice_row {saf : Nat → Nat → Prop} {xs : List AVal} {v : Value} {size : Nat} (hx : RepP w saf (.slice .sh xs) v) (hw : wid xs size) : ∃ A cap, v = .slice A xs.length cap ∧ xs.length ≤ cap ∧
    (xs = [] ∨ ∃ b off, A = some ⟨b, off, none⟩ ∧ ∃ us : List Value, RL w saf (flatC xs) us ∧ us.length = xs.length * size ∧ (∀ u, u ∈ us → u.oneCell' = true) ∧ ∀ p u, us[p]? = some u → w.cell? ⟨b, off + p, none⟩ = some u ∧ saf b (off + p)) := by
  cases hx with
  | slice _ A len cap b off sz vs hl hc ha hz hs hr =>
    subst hl
    refine ⟨A, cap, rfl, hc, ?_⟩
    rcases List.eq_nil_or_concat xs with h0 | ⟨_, _, h0⟩
    · exact .inl h0
    · have hne : xs ≠ [] := by rw [h0]; simp
      have hsz : sz = size := by
        obtain ⟨x, r, hxr⟩ := List.exists_cons_of_ne_nil hne
        have hm : x ∈ xs := by rw [hxr]; exact List.mem_cons_self ..
        rw [← hz x hm, hw x hm]
      subst hsz
      have hlen : ((List.range (xs.length * sz)).map vs).length = xs.length * sz := by simp
      have hrl : RL w saf (flatC xs) ((List.range (xs.length * sz)).map vs) := by
        refine ⟨by rw [flatC_length hw, hlen], fun p c v hc hv => ?_⟩
        obtain ⟨q, x, k, h1, h2, rfl⟩ := flatC_at hw hc
        have hlt : q * sz + k < xs.length * sz := by rw [← flatC_length hw]; exact lt_of_some hc
        rw [List.getElem?_map, List.getElem?_range hlt] at hv
        simp only [Option.map_some] at hv
        injection hv with hv; subst hv
        exact hr q x k c h1 h2
      refine .inr ⟨b, off, ha hne, _, hrl, hlen, fun u hu => ?_, fun p u hu => ?_⟩
      · obtain ⟨p, hp⟩ := List.getElem?_of_mem hu
        have hp' : p < (flatC xs).length := by rw [hrl.1]; exact lt_of_some hp
        exact RepP.one (hrl.2 p _ u (List.getElem?_eq_getElem hp') hp)
      · have hp' : p < (flatC xs).length := by rw [hrl.1]; exact lt_of_some hu
        obtain ⟨q, x, k, h1, h2, rfl⟩ := flatC_at hw (List.getElem?_eq_getElem hp')
        have hlt : q * sz + k < xs.length * sz := by rw [← flatC_length hw]; exact hp'
        rw [List.getElem?_map, List.getElem?_range hlt] at hu
        simp only [Option.map_some] at hu
        injection hu with hu; subst hu
        exact hs q x k _ h1 h2
theorem setCells_eq (b : Nat) : ∀ (l : List Value) (o : Nat) (w : World), w.setCells b o l = setL w b o l
  | [], _, _ => rfl
  | v :: r, o, w => by rw [World.setCells, setL, setCells_eq b r]
end
noncomputable def pClone (sz bytes : Nat) : List AVal → AMem → Option (AVal × AMem)
  | [.slice _ xs], M => match xs with
    | [] => some (.slice .c0 [], M)
    | x :: r => owhen (wid (x :: r) sz ∧ roomOk (x :: r).length bytes) (some (.aref M.length 0 sz 0 (x :: r).length, M ++ [.arr sz 0 (x :: r)]))
  | _, _ => none
noncomputable def pCopy (sz bytes : Nat) : List AVal → AMem → Option (AVal × AMem)
  | [.slice _ xs], M => owhen (wid xs sz ∧ roomOk xs.length bytes) (some (.slice .sh xs, M))
  | _, _ => none
noncomputable def pDelete (sz : Nat) : List AVal → AMem → Option (AVal × AMem)
  | [.aref id ver sz' lo hi, .int .i64 i, .int .i64 i'], M => match nth M id with
    | some (.arr sz0 v xs) => owhen (v = ver ∧ sz' = sz ∧ lo = 0 ∧ hi = xs.length ∧ 0 ≤ i ∧ i.toNat < xs.length ∧ i' = i + 1 ∧ xs.length ≤ 2 ^ 44)
        (some (.aref id (ver + 1) sz 0 (xs.length - 1), setN M id (.arr sz0 (ver + 1) (xs.take i.toNat ++ xs.drop (i.toNat + 1)))))
    | _ => none
  | _, _ => none
noncomputable def pInsert (sz bytes : Nat) : List AVal → AMem → Option (AVal × AMem)
  | [.aref id ver sz' lo hi, .int .i64 i, .slice _ [e]], M => match nth M id with
    | some (.arr sz0 v xs) => owhen (v = ver ∧ sz' = sz ∧ lo = 0 ∧ hi = xs.length ∧ 0 ≤ i ∧ i.toNat ≤ xs.length ∧ e.cells.length = sz ∧ roomOk (xs.length + 1) bytes)
        (some (.aref id (ver + 1) sz 0 (xs.length + 1), setN M id (.arr sz0 (ver + 1) (xs.take i.toNat ++ e :: xs.drop i.toNat))))
    | _ => none
  | [.slice .c0 [], .int .i64 i, .slice _ [e]], M => owhen (i = 0 ∧ e.cells.length = sz) (some (.aref M.length 0 sz 0 1, M ++ [.arr sz 0 [e]]))
  | _, _ => none
section
variable {P : Program} {f : Nat} {sz bytes : Nat} {E : TypeId}
theorem two_args {α : Type} {vs : Array α} {p q r : AVal} (h : [p, q, r].length = vs.size) : ∃ a b c, vs = #[a, b, c] := by
  obtain ⟨l⟩ := vs
  match l, h with
  | [a, b, c], _ => exact ⟨a, b, c, rfl⟩
theorem one_arg {α : Type} {vs : Array α} {p : AVal} (h : [p].length = vs.size) : ∃ a, vs = #[a] := by
  obtain ⟨l⟩ := vs
  match l, h with
  | [a], _ => exact ⟨a, rfl⟩
theorem Rep.slice_sh {j : J} {M : AMem} {w : World} {tk : Tk} {xs : List AVal} {v : Value} (h : Rep j M w (.slice tk xs) v) : RepP w (Saf j M w) (.slice .sh xs) v := h.slice_inv
theorem clone_sound (hsz : 0 < sz) (hby : bytes * 8 ≤ 2 ^ 20 ∧ 0 < bytes)
    (hC : ∀ (b off n c : Nat) (news : List Value) (w : World), news.length = n * sz → n ≤ maxLen → n * bytes ≤ 140737488355328 → (∀ j u, news[j]? = some u → w.cell? ⟨b, off + j, none⟩ = some u) → (∀ u ∈ news, u.oneCell' = true) →
      Calls P f #[.slice (some ⟨b, off, none⟩) n c] w fun e w' => ∃ v', e = .returned v' ∧ w'.ownsRow w.heap.size E sz v' n news ∧ v' ≠ .slice none 0 0 ∧ Below w.heap.size w w')
    (h0 : ∀ (A : Option Addr) (c : Nat) (w : World), Calls P f #[.slice A 0 c] w fun e w' => (∃ B, e = .returned (.slice B 0 0)) ∧ Below w.heap.size w w')
    {args : List AVal} {M : AMem} {x : AVal × AMem} (h : pClone sz bytes args M = some x) : SoundCall P f args M x := by
  unfold pClone at h
  split at h
  · intro j w vs hr hl hv
    obtain ⟨u, rfl⟩ := one_arg hl
    have h1 := (hv 0 _ u rfl rfl).slice_sh
    split at h
    · injection h with h; subst h
      obtain ⟨A, cap, rfl, _, _⟩ := slice_row (size := sz) h1 (fun y hy => by cases hy)
      refine (h0 A cap w).mono ?_
      rintro e w' ⟨⟨B, rfl⟩, hb⟩
      exact ⟨_, j, rfl, hr.grow hb.size hb.os hb.tape hb.output hb.block, Ext.grow hb.size hb.os hb.tape hb.output hb.block, .c0 _⟩
    · rename_i y r
      obtain ⟨⟨hw, hroom⟩, h⟩ := owhen_inv h
      injection h with h; subst h
      obtain ⟨A, cap, rfl, hcap, h2⟩ := slice_row h1 hw
      obtain ⟨b, off, rfl, us, hrl, hul, hone, hcell⟩ := h2.resolve_left (by simp)
      unfold roomOk at hroom
      have hle : (y :: r).length ≤ 2 ^ 44 := Nat.le_trans (Nat.le_mul_of_pos_right _ hby.2) hroom
      refine (hC b off (y :: r).length cap us w hul (by unfold maxLen; omega) (by omega) (fun p u hp => (hcell p u hp).1) hone).mono ?_
      rintro e w' ⟨v', rfl, ⟨_, hown⟩, hnn, hb⟩
      obtain ⟨g, cap', cur, rfl, hg, hg', hn1, _, hcs, htk⟩ := hown.resolve_left (fun h => hnn h.1)
      have q : Quiet w w' := ⟨hb.size, hb.os, hb.tape, hb.output⟩
      have hob : ∀ b, some g = some b → w.heap.size ≤ b ∧ b < w'.heap.size := fun b h => by injection h with h; subst h; exact ⟨hg, lt_of_block hg'⟩
      have hcl : ∀ p, p < us.length → cur[p]? = us[p]? := fun p hp => by
        rw [← htk, List.getElem?_take_of_lt (by rw [← hul]; exact hp)]; simp
      have ext : Ext j M w (upd j M.length (some g)) (M ++ [.arr sz 0 (y :: r)]) w' := Ext.push (fun b h => (hob b h).1) q hb.block
      refine ⟨_, upd j M.length (some g), rfl, hr.push hob q hb.block (fun h => by cases h) (fun sz n b h _ => by cases h) (fun sz0 v0 xs0 he => ?_), ext, ?_⟩
      · injection he with e1 e2 e3
        subst e1; subst e3
        have hat : ∀ j' M', Ext j M w j' M' w' → ArrAt j' M' w' g sz (y :: r) := fun j' M' hx => arr_of_row hg' hw (hrl.mono hx.saf) hcl
        refine ⟨g, cur, E, rfl, hg', by rw [hcs]; exact Nat.mul_le_mul_right _ hn1, hw, fun j' M' hx q x k c hx' hk => ?_⟩
        obtain ⟨vs, t, a1, a2, a3, a4⟩ := hat j' M' hx
        rw [hg'] at a1; injection a1 with a1; injection a1 with a1 a1'
        subst a1
        exact a4 q x k c hx' hk
      · refine .aref ⟨g, 0, cap', rfl, by omega⟩ (by simp) (fun bx hbx => by rw [app_new] at hbx; injection hbx with hbx; subst hbx; rfl) fun sz' v' xs hx => ?_
        rw [app_new] at hx; injection hx with hx; injection hx with e1 e2 e3
        subst e1; subst e2; subst e3
        exact ⟨Nat.le_refl _, fun _ => ⟨rfl, Nat.zero_le _, Nat.le_refl _, g, cap', cur, E, by simp [upd], by simp, by omega, hg', by rw [Nat.zero_add]; omega⟩⟩
  · cases h
theorem copy_sound (hsz : 0 < sz) (hby : bytes * 8 ≤ 2 ^ 20 ∧ 0 < bytes)
    (hC : ∀ (b off n c : Nat) (news : List Value) (w : World), news.length = n * sz → n ≤ maxLen → n * bytes ≤ 140737488355328 → (∀ j u, news[j]? = some u → w.cell? ⟨b, off + j, none⟩ = some u) → (∀ u ∈ news, u.oneCell' = true) →
      Calls P f #[.slice (some ⟨b, off, none⟩) n c] w fun e w' => ∃ v', e = .returned v' ∧ w'.ownsRow w.heap.size E sz v' n news ∧ v' ≠ .slice none 0 0 ∧ Below w.heap.size w w')
    (h0 : ∀ (A : Option Addr) (c : Nat) (w : World), Calls P f #[.slice A 0 c] w fun e w' => (∃ B, e = .returned (.slice B 0 0)) ∧ Below w.heap.size w w')
    {args : List AVal} {M : AMem} {x : AVal × AMem} (h : pCopy sz bytes args M = some x) : SoundCall P f args M x := by
  unfold pCopy at h
  split at h
  · rename_i tk xs
    intro j w vs hr hl hv
    obtain ⟨u, rfl⟩ := one_arg hl
    have h1 := (hv 0 _ u rfl rfl).slice_sh
    obtain ⟨⟨hw, hroom⟩, h⟩ := owhen_inv h
    injection h with h; subst h
    obtain ⟨A, cap, rfl, hcap, h2⟩ := slice_row h1 hw
    rcases h2 with rfl | ⟨b, off, rfl, us, hrl, hul, hone, hcell⟩
    · refine (h0 A cap w).mono ?_
      rintro e w' ⟨⟨B, rfl⟩, hb⟩
      exact ⟨_, j, rfl, hr.grow hb.size hb.os hb.tape hb.output hb.block, Ext.grow hb.size hb.os hb.tape hb.output hb.block, .plain (RepP.nil _ _ _)⟩
    · unfold roomOk at hroom
      have hle : xs.length ≤ 2 ^ 44 := Nat.le_trans (Nat.le_mul_of_pos_right _ hby.2) hroom
      refine (hC b off xs.length cap us w hul (by unfold maxLen; omega) (by omega) (fun p u hp => (hcell p u hp).1) hone).mono ?_
      rintro e w' ⟨v', rfl, ⟨_, hown⟩, hnn, hb⟩
      obtain ⟨g, cap', cur, rfl, hg, hg', hn1, _, hcs, htk⟩ := hown.resolve_left (fun h => hnn h.1)
      have ext : Ext j M w j M w' := Ext.grow hb.size hb.os hb.tape hb.output hb.block
      refine ⟨_, j, rfl, hr.grow hb.size hb.os hb.tape hb.output hb.block, ext, .plain ?_⟩
      have hcl : ∀ p, p < us.length → cur[p]? = us[p]? := fun p hp => by
        rw [← htk, List.getElem?_take_of_lt (by rw [← hul]; exact hp)]; simp
      obtain ⟨vs, t, a1, a2, a3, a4⟩ := arr_of_row (j' := j) (M' := M) hg' hw (hrl.mono ext.saf) hcl
      rw [hg'] at a1; injection a1 with a1; injection a1 with a1 a1'
      subst a1
      have := arr_slice (lo := 0) (hi := xs.length) (cap := cap') (saf' := Saf j M w') hg' a3 a4 (fun b off h => h) (fun off ho => ⟨lt_of_block hg', fun id hid hji => by have := hr.lt id g hid hji; omega, fun hx => by have := hr.xlt g off hx; omega⟩) (Nat.zero_le _) (Nat.le_refl _) (by omega)
      simpa using this
  · cases h
theorem delete_sound (hsz : 0 < sz) {z : List Value} (hz : z.length = sz)
    (hD : ∀ (blk cap i i' n : Nat) (cs : List Value) (w : World), cs.length = n * sz → n ≤ cap → n ≤ 9223372036854775807 → i < n → i' = i + 1 →
      (∀ p v, cs[p]? = some v → w.cell? ⟨blk, p, none⟩ = some v ∧ w.frozen? ⟨blk, p, none⟩ = false ∧ v.oneCell' = true) →
      Calls P f #[.slice (some ⟨blk, 0, none⟩) n cap, .int .i64 i, .int .i64 i'] w fun e w' => e = .returned (.slice (some ⟨blk, 0, none⟩) (n - 1) cap) ∧
        w' = (w.drew.setCells blk (i * sz) (cs.drop (i' * sz))).setCells blk ((n - 1) * sz) z)
    {args : List AVal} {M : AMem} {x : AVal × AMem} (h : pDelete sz args M = some x) : SoundCall P f args M x := by
  unfold pDelete at h
  split at h
  · rename_i id ver sz' lo hi i i'
    rw [nth_eq] at h
    split at h
    · rename_i sz0 v0 xs hM
      obtain ⟨hc, h⟩ := owhen_inv h
      injection h with h; subst h
      obtain ⟨rfl, rfl, rfl, rfl, hi0, hin, rfl, hbig⟩ := hc
      intro j w vs hr hl hv
      obtain ⟨u1, u2, u3, rfl⟩ := two_args hl
      have h2 := (hv 1 _ u2 rfl rfl).int_inv
      have h3 := (hv 2 _ u3 rfl rfl).int_inv
      subst h2; subst h3
      obtain ⟨_, hid, _, g⟩ := (hv 0 _ u1 rfl rfl).aref_inv
      obtain ⟨e1, _, _, b, cap, row, t0, l3, l4, l5, l6, l7⟩ := (g sz0 v0 xs hM).2 rfl
      subst e1; subst l4
      obtain ⟨b', row', t', k1, k2, k3, k4, k5⟩ := hr.arr id _ v0 xs hM
      rw [l3] at k1; injection k1 with k1; subst k1
      rw [l6] at k2; injection k2 with k2; injection k2 with k2 k2'
      subst k2; subst k2'
      have hrow := arr_row (b := b) k3 k4 k5
      rw [Nat.sub_zero] at l5
      rw [Nat.zero_add] at l7
      generalize hcs : row.toList.take (xs.length * sz0) = cs at hrow
      have hcl : cs.length = xs.length * sz0 := by rw [← hcs]; simp; omega
      have hat : ∀ p v, cs[p]? = some v → row[p]? = some v := fun p v hp => by
        have hlt : p < xs.length * sz0 := by rw [← hcl]; exact lt_of_some hp
        rw [← hcs, List.getElem?_take_of_lt hlt] at hp; simpa using hp
      obtain ⟨m, rfl⟩ : ∃ m : Nat, i = m := ⟨i.toNat, by omega⟩
      simp only [Int.toNat_natCast] at hin ⊢
      have e0 : ((m : Int) + 1) = ((m + 1 : Nat) : Int) := rfl
      rw [Nat.sub_zero, Nat.zero_mul, e0]
      refine (hD b cap m (m + 1) xs.length cs w hcl l5 (by omega) hin rfl (fun p v hp => ⟨by simp [World.cell?, l6, hat p v hp], by simp [World.frozen?, l6], ?_⟩)).mono ?_
      · have hp' : p < (flatC xs).length := by rw [hrow.1]; exact lt_of_some hp
        exact RepP.one (hrow.2 p _ v (List.getElem?_eq_getElem hp') hp)
      · rintro e w' ⟨rfl, hw'⟩
        rw [setCells_eq, setCells_eq] at hw'
        have hl1 : (cs.drop ((m + 1) * sz0)).length = (xs.length - (m + 1)) * sz0 := by rw [List.length_drop, hcl, Nat.sub_mul]
        have ha1 : (m + 1) * sz0 = m * sz0 + sz0 := by rw [Nat.add_mul, Nat.one_mul]
        have ha2 : (xs.length - (m + 1)) * sz0 = xs.length * sz0 - (m * sz0 + sz0) := by rw [Nat.sub_mul, ha1]
        have ha3 : (xs.length - 1) * sz0 = xs.length * sz0 - sz0 := by rw [Nat.sub_mul, Nat.one_mul]
        have ha4 : m * sz0 + sz0 ≤ xs.length * sz0 := by rw [← ha1]; exact Nat.mul_le_mul_right _ hin
        have hd : w.drew.heap = w.heap := rfl
        obtain ⟨s1, s2, s3, s4, s5, r1, s6, s7, s8, s9⟩ := setL_spec (t := t0) (cs.drop ((m + 1) * sz0)) w.drew (m * sz0) row (by rw [hd]; exact l6) (by rw [hl1]; omega)
        obtain ⟨q1, q2, q3, q4, q5, r2, q6, q7, q8, q9⟩ := setL_spec (t := t0) z _ ((xs.length - 1) * sz0) r1 s6 (by rw [hz, s7]; omega)
        rw [← hw'] at q1 q2 q3 q4 q5 q6
        have hwd : wid (xs.take m ++ xs.drop (m + 1)) sz0 := wid_append (wid_take k4) (wid_drop k4)
        have hnew : RL w (Saf j M w) (flatC (xs.take m ++ xs.drop (m + 1))) (cs.take (m * sz0) ++ cs.drop ((m + 1) * sz0)) := by
          rw [flatC_append, flatC_take m k4, flatC_drop (m + 1) k4]
          exact (hrow.take _).append (hrow.drop _)
        have htk : (cs.take (m * sz0)).length = m * sz0 := by rw [List.length_take, hcl]; omega
        have hput := arr_put (ver' := v0 + 1) (xs' := xs.take m ++ xs.drop (m + 1)) hr hM l3 (w' := w') ⟨by rw [q1, s1]; exact Nat.le_refl _, q2.trans s2, q3.trans s3, q4.trans s4⟩ (fun b' hb' _ => (q5 b' hb').trans (s5 b' hb')) l6 q6 (q7.trans s7) (by omega) (fun h => by omega) hwd hnew (fun p hp => by
          rw [List.length_append, htk, hl1] at hp
          rw [q8 p (.inl (by omega))]
          rcases Nat.lt_or_ge p (m * sz0) with c1 | c1
          · rw [s8 p (.inl c1), List.getElem?_append_left (by rw [htk]; exact c1), List.getElem?_take_of_lt c1]
            have hp1 : p < cs.length := by omega
            rw [hat p _ (List.getElem?_eq_getElem hp1), List.getElem?_eq_getElem hp1]
          · rw [List.getElem?_append_right (by rw [htk]; exact c1), htk]
            have := s9 (p - m * sz0) (by rw [hl1]; omega)
            rw [Nat.add_sub_cancel' c1] at this
            exact this)
        rw [setN_eq]
        refine ⟨_, j, rfl, hput.1, hput.2, .aref ⟨b, 0, cap, rfl, by omega⟩ (by simpa using hid) (fun bx hbx => by rw [set_same (lt_of_some hM)] at hbx; injection hbx with hbx; subst hbx; rfl) fun sz' v' ys hx => ?_⟩
        rw [set_same (lt_of_some hM)] at hx; injection hx with hx; injection hx with e1 e2 e3
        subst e1; subst e2; subst e3
        exact ⟨Nat.le_refl _, fun _ => ⟨rfl, Nat.zero_le _, by simp; omega, b, cap, r2, t0, l3, by simp, by omega, q6, by rw [Nat.zero_add, q7, s7]; exact l7⟩⟩
    · cases h
  · cases h
end
def InsPost (sz : Nat) (w : World) (b : Nat) (row : Array Value) (t : TypeId) (n i : Nat) (cs vs : List Value) (e : Ending) (w' : World) : Prop :=
  ∃ b' cap' row' t', e = .returned (.slice (some ⟨b', 0, none⟩) (n + 1) cap') ∧ n + 1 ≤ cap' ∧ w'.heap[b']? = some (.cells row' t' (0, 0)) ∧ cap' * sz ≤ row'.size ∧
    (∀ p, p < (n + 1) * sz → row'[p]? = (cs.take (i * sz) ++ (vs ++ cs.drop (i * sz)))[p]?) ∧ Quiet w w' ∧
    ((b' = b ∧ t' = t ∧ row'.size = row.size ∧ ∀ b0, b0 ≠ b → b0 < w.heap.size → w'.heap[b0]? = w.heap[b0]?) ∨ (w.heap.size ≤ b' ∧ ∀ b0, b0 < w.heap.size → w'.heap[b0]? = w.heap[b0]?))
section
variable {sz : Nat} {w : World} {b n c i : Nat} {row : Array Value} {t : TypeId} {cs vs : List Value} {e : Ending} {w' : World}
theorem alloc_heap (w : World) (o : Obj) : (w.alloc o).heap = w.heap.push o := rfl
theorem drew_heap (w : World) : w.drew.heap = w.heap := rfl
theorem three_parts {A B C : List Value} {p : Nat} : (A ++ (B ++ C))[p]? = if p < A.length then A[p]? else if p < A.length + B.length then B[p - A.length]? else C[p - A.length - B.length]? := by
  split
  · rw [List.getElem?_append_left (by assumption)]
  · rw [List.getElem?_append_right (by omega)]
    split
    · rw [List.getElem?_append_left (by omega)]
    · rw [List.getElem?_append_right (by omega)]
theorem ins_shift (hi : i < n) (hroom : n + 1 ≤ c) (hcl : cs.length = n * sz) (hvl : vs.length = sz) (hw : w.heap[b]? = some (.cells row t (0, 0))) (hrow : c * sz ≤ row.size) (hat : ∀ (p : Nat) (v : Value), cs[p]? = some v → row[p]? = some v)
    (he : e = .returned (.slice (some ⟨b, 0, none⟩) (n + 1) c)) (hw' : w' = (w.drew.setCells b ((i + 1) * sz) (cs.drop (i * sz))).setCells b (i * sz) vs) : InsPost sz w b row t n i cs vs e w' := by
  have a1 : (i + 1) * sz = i * sz + sz := by rw [Nat.add_mul, Nat.one_mul]
  have a2 : (n + 1) * sz = n * sz + sz := by rw [Nat.add_mul, Nat.one_mul]
  have a3 : i * sz + sz ≤ n * sz := by rw [← a1]; exact Nat.mul_le_mul_right _ hi
  have a4 : (n + 1) * sz ≤ row.size := Nat.le_trans (Nat.mul_le_mul_right _ hroom) hrow
  have hdl : (cs.drop (i * sz)).length = n * sz - i * sz := by rw [List.length_drop, hcl]
  rw [setCells_eq, setCells_eq] at hw'
  obtain ⟨s1, s2, s3, s4, s5, r1, s6, s7, s8, s9⟩ := setL_spec (t := t) (cs.drop (i * sz)) w.drew ((i + 1) * sz) row hw (by omega)
  obtain ⟨q1, q2, q3, q4, q5, r2, q6, q7, q8, q9⟩ := setL_spec (t := t) vs _ (i * sz) r1 s6 (by omega)
  rw [← hw'] at q1 q2 q3 q4 q5 q6
  have htk : (cs.take (i * sz)).length = i * sz := by rw [List.length_take, hcl]; omega
  refine ⟨b, c, r2, t, he, hroom, q6, by rw [q7, s7]; exact hrow, fun p hp => ?_, ⟨by rw [q1, s1]; exact Nat.le_refl _, q2.trans s2, q3.trans s3, q4.trans s4⟩, .inl ⟨rfl, rfl, q7.trans s7, fun b0 h0 _ => (q5 b0 h0).trans (s5 b0 h0)⟩⟩
  rw [three_parts, htk, hvl]
  split
  · rename_i c1
    rw [q8 p (.inl c1), s8 p (.inl (by omega)), List.getElem?_take_of_lt c1]
    have hp1 : p < cs.length := by omega
    rw [hat p _ (List.getElem?_eq_getElem hp1), List.getElem?_eq_getElem hp1]
  · rename_i c1
    split
    · have := q9 (p - i * sz) (by omega)
      rwa [Nat.add_sub_cancel' (by omega)] at this
    · rw [q8 p (.inr (by omega))]
      have := s9 (p - (i + 1) * sz) (by omega)
      rw [Nat.add_sub_cancel' (by omega)] at this
      rw [this]; congr 1; omega
theorem ins_room (hroom : n + 1 ≤ c) (hcl : cs.length = n * sz) (hvl : vs.length = sz) (hw : w.heap[b]? = some (.cells row t (0, 0))) (hrow : c * sz ≤ row.size) (hat : ∀ (p : Nat) (v : Value), cs[p]? = some v → row[p]? = some v)
    (he : e = .returned (.slice (some ⟨b, 0, none⟩) (n + 1) c)) (hw' : w' = w.setCells b (n * sz) vs) : InsPost sz w b row t n n cs vs e w' := by
  have a2 : (n + 1) * sz = n * sz + sz := by rw [Nat.add_mul, Nat.one_mul]
  have a4 : (n + 1) * sz ≤ row.size := Nat.le_trans (Nat.mul_le_mul_right _ hroom) hrow
  rw [setCells_eq] at hw'
  obtain ⟨q1, q2, q3, q4, q5, r2, q6, q7, q8, q9⟩ := setL_spec (t := t) vs w (n * sz) row hw (by omega)
  rw [← hw'] at q1 q2 q3 q4 q5 q6
  refine ⟨b, c, r2, t, he, hroom, q6, by rw [q7]; exact hrow, fun p hp => ?_, ⟨by rw [q1]; exact Nat.le_refl _, q2, q3, q4⟩, .inl ⟨rfl, rfl, q7, fun b0 h0 _ => q5 b0 h0⟩⟩
  rw [← hcl, List.take_length, List.drop_length, List.append_nil]
  rcases Nat.lt_or_ge p cs.length with c1 | c1
  · rw [q8 p (.inl (by omega)), List.getElem?_append_left c1, hat p _ (List.getElem?_eq_getElem c1), List.getElem?_eq_getElem c1]
  · rw [List.getElem?_append_right c1]
    have := q9 (p - n * sz) (by omega)
    rw [Nat.add_sub_cancel' (by omega)] at this
    rw [this, hcl]
theorem ins_end_grow {z : Value} {E : TypeId} (hsz : 0 < sz) (hz : z.cells.size = sz) (hcl : cs.length = n * sz) (hvl : vs.length = sz) (hG : n + 1 ≤ c)
    (he : e = .returned (.slice (some ⟨w.heap.size, 0, none⟩) (n + 1) c)) (hw' : w' = w.drew.alloc (.cells ((cs ++ vs).toArray ++ Builtin.zeroCells z.cells (c - (n + 1))) E)) : InsPost sz w b row t n n cs vs e w' := by
  have a2 : (n + 1) * sz = n * sz + sz := by rw [Nat.add_mul, Nat.one_mul]
  have hzl : (Builtin.zeroCells z.cells (c - (n + 1))).size = (c - (n + 1)) * sz := by simp [Builtin.zeroCells, hz]
  have a3 : c * sz = (n + 1) * sz + (c - (n + 1)) * sz := by rw [← Nat.add_mul, Nat.add_sub_cancel' hG]
  subst hw'
  refine ⟨w.heap.size, c, (cs ++ vs).toArray ++ Builtin.zeroCells z.cells (c - (n + 1)), E, he, hG, by rw [alloc_heap, drew_heap]; simp, by simp [hzl, hcl, hvl]; omega, fun p hp => ?_, ⟨by rw [alloc_heap, drew_heap]; simp, rfl, rfl, rfl⟩, .inr ⟨Nat.le_refl _, fun b0 h0 => by rw [alloc_heap, drew_heap]; simp [Array.getElem?_push, Nat.ne_of_lt h0]⟩⟩
  rw [Array.getElem?_append_left (by simp; omega), ← hcl, List.take_length, List.drop_length, List.append_nil]
  simp
theorem ins_grow {z : Value} {E : TypeId} (hsz : 0 < sz) (hz : z.cells.size = sz) (hi : i < n) (hcl : cs.length = n * sz) (hvl : vs.length = sz) (hG : n + 1 ≤ c)
    (he : e = .returned (.slice (some ⟨w.heap.size, 0, none⟩) (n + 1) c))
    (hw' : w' = (((w.alloc (.cells ((cs.take (i * sz)).toArray ++ Builtin.zeroCells z.cells (n + 1 - i) ++ Builtin.zeroCells z.cells (c - (n + 1))) E)).drew.setCells w.heap.size (i * sz) vs).drew).setCells w.heap.size ((i + 1) * sz) (cs.drop (i * sz))) : InsPost sz w b row t n i cs vs e w' := by
  have a1 : (i + 1) * sz = i * sz + sz := by rw [Nat.add_mul, Nat.one_mul]
  have a2 : (n + 1) * sz = n * sz + sz := by rw [Nat.add_mul, Nat.one_mul]
  have a3 : i * sz + sz ≤ n * sz := by rw [← a1]; exact Nat.mul_le_mul_right _ hi
  have hz1 : (Builtin.zeroCells z.cells (n + 1 - i)).size = (n + 1 - i) * sz := by simp [Builtin.zeroCells, hz]
  have hz2 : (Builtin.zeroCells z.cells (c - (n + 1))).size = (c - (n + 1)) * sz := by simp [Builtin.zeroCells, hz]
  have a4 : c * sz = (n + 1) * sz + (c - (n + 1)) * sz := by rw [← Nat.add_mul, Nat.add_sub_cancel' hG]
  have a5 : (n + 1) * sz = i * sz + (n + 1 - i) * sz := by rw [← Nat.add_mul, Nat.add_sub_cancel' (by omega)]
  have htk : (cs.take (i * sz)).length = i * sz := by rw [List.length_take, hcl]; omega
  have hdl : (cs.drop (i * sz)).length = n * sz - i * sz := by rw [List.length_drop, hcl]
  generalize hR : (cs.take (i * sz)).toArray ++ Builtin.zeroCells z.cells (n + 1 - i) ++ Builtin.zeroCells z.cells (c - (n + 1)) = ROW at hw'
  have hRs : ROW.size = c * sz := by rw [← hR]; simp only [Array.size_append, hz1, hz2, List.size_toArray, htk]; omega
  have hR0 : ∀ p, p < i * sz → ROW[p]? = cs[p]? := fun p hp => by
    rw [← hR, Array.getElem?_append_left (by simp only [Array.size_append, hz1, List.size_toArray, htk]; omega), Array.getElem?_append_left (by simp only [List.size_toArray, htk]; exact hp)]
    simp [List.getElem?_take_of_lt hp]
  rw [setCells_eq, setCells_eq] at hw'
  have h0 : ((w.alloc (.cells ROW E)).drew).heap[w.heap.size]? = some (.cells ROW E (0, 0)) := by rw [drew_heap, alloc_heap]; simp
  obtain ⟨s1, s2, s3, s4, s5, r1, s6, s7, s8, s9⟩ := setL_spec (t := E) vs _ (i * sz) ROW h0 (by omega)
  obtain ⟨q1, q2, q3, q4, q5, r2, q6, q7, q8, q9⟩ := setL_spec (t := E) (cs.drop (i * sz)) (setL ((w.alloc (.cells ROW E)).drew) w.heap.size (i * sz) vs).drew ((i + 1) * sz) r1 s6 (by omega)
  rw [← hw'] at q1 q2 q3 q4 q5 q6
  have hpush : ((w.alloc (.cells ROW E)).drew).heap.size = w.heap.size + 1 := by rw [drew_heap, alloc_heap]; simp
  refine ⟨w.heap.size, c, r2, E, he, hG, q6, by omega, fun p hp => ?_, ⟨?_, q2.trans s2, q3.trans s3, q4.trans s4⟩, .inr ⟨Nat.le_refl _, fun b0 hb0 => ?_⟩⟩
  · rw [three_parts, htk, hvl]
    split
    · rename_i c1
      rw [q8 p (.inl (by omega)), s8 p (.inl c1), hR0 p c1, List.getElem?_take_of_lt c1]
    · rename_i c1
      split
      · rw [q8 p (.inl (by omega))]
        have := s9 (p - i * sz) (by omega)
        rwa [Nat.add_sub_cancel' (by omega)] at this
      · have := q9 (p - (i + 1) * sz) (by omega)
        rw [Nat.add_sub_cancel' (by omega)] at this
        rw [this]; congr 1; omega
  · have e1 : (setL ((w.alloc (.cells ROW E)).drew) w.heap.size (i * sz) vs).drew.heap.size = (setL ((w.alloc (.cells ROW E)).drew) w.heap.size (i * sz) vs).heap.size := rfl
    omega
  · rw [q5 b0 (by omega)]
    refine (s5 b0 (by omega)).trans ?_
    rw [drew_heap, alloc_heap]; simp [Array.getElem?_push, Nat.ne_of_lt hb0]
end
theorem insert_sound {P : Program} {f sz bytes : Nat} (hsz : 0 < sz) (hby : 0 < bytes)
    (hI : ∀ (b n c i vb voff vc : Nat) (cs vs : List Value) (w : World) (row : Array Value) (t : TypeId), i ≤ n → n ≤ c → (n + 1) * bytes ≤ 140737488355328 → n + 1 ≤ 9223372036854775807 → vb ≠ b → cs.length = n * sz → vs.length = sz → w.heap[b]? = some (.cells row t (0, 0)) → c * sz ≤ row.size →
      (∀ (p : Nat) (v : Value), cs[p]? = some v → row[p]? = some v) → (∀ (p : Nat) (v : Value), vs[p]? = some v → w.cell? ⟨vb, voff + p, none⟩ = some v) → (∀ v ∈ cs, v.oneCell' = true) → (∀ v ∈ vs, v.oneCell' = true) →
      Calls P f #[.slice (some ⟨b, 0, none⟩) n c, .int .i64 i, .slice (some ⟨vb, voff, none⟩) 1 vc] w (InsPost sz w b row t n i cs vs))
    (h0 : ∀ (A : Option Addr) (vb voff vc : Nat) (vs : List Value) (w : World) (row : Array Value), vs.length = sz → (∀ (p : Nat) (v : Value), vs[p]? = some v → w.cell? ⟨vb, voff + p, none⟩ = some v) → (∀ v ∈ vs, v.oneCell' = true) →
      Calls P f #[.slice A 0 0, .int .i64 0, .slice (some ⟨vb, voff, none⟩) 1 vc] w fun e w' => InsPost sz w w.heap.size row 0 0 0 [] vs e w')
    {args : List AVal} {M : AMem} {x : AVal × AMem} (h : pInsert sz bytes args M = some x) : SoundCall P f args M x := by
  unfold pInsert at h
  split at h
  · rename_i id ver sz' lo hi i tk el
    rw [nth_eq] at h
    split at h
    · rename_i sz0 v0 xs hM
      obtain ⟨hc, h⟩ := owhen_inv h
      injection h with h; subst h
      obtain ⟨rfl, rfl, rfl, rfl, hi0, hin, hel, hroom⟩ := hc
      intro j w vs hr hl hv
      obtain ⟨u1, u2, u3, rfl⟩ := two_args hl
      have h2 := (hv 1 _ u2 rfl rfl).int_inv
      subst h2
      have h3 := (hv 2 _ u3 rfl rfl).slice_sh
      have hwe : wid [el] sz' := fun y hy => by rw [List.mem_singleton.1 hy]; exact hel
      obtain ⟨A, vc, rfl, _, h4⟩ := slice_row h3 hwe
      obtain ⟨vb, voff, rfl, us, hrl, hul, hone, hcell⟩ := h4.resolve_left (by simp)
      obtain ⟨_, hid, _, g⟩ := (hv 0 _ u1 rfl rfl).aref_inv
      obtain ⟨e1, _, _, b, cap, row, t0, l3, l4, l5, l6, l7⟩ := (g sz0 v0 xs hM).2 rfl
      subst e1; subst l4
      obtain ⟨b', row', t', k1, k2, k3, k4, k5⟩ := hr.arr id _ v0 xs hM
      rw [l3] at k1; injection k1 with k1; subst k1
      rw [l6] at k2; injection k2 with k2; injection k2 with k2 k2'
      subst k2; subst k2'
      have hrow := arr_row (b := b) k3 k4 k5
      rw [Nat.sub_zero] at l5
      rw [Nat.zero_add] at l7
      generalize hcs : row.toList.take (xs.length * sz0) = cs at hrow
      have hcl : cs.length = xs.length * sz0 := by rw [← hcs]; simp; omega
      have hat : ∀ p v, cs[p]? = some v → row[p]? = some v := fun p v hp => by
        have hlt : p < xs.length * sz0 := by rw [← hcl]; exact lt_of_some hp
        rw [← hcs, List.getElem?_take_of_lt hlt] at hp; simpa using hp
      obtain ⟨m, rfl⟩ : ∃ m : Nat, i = m := ⟨i.toNat, by omega⟩
      simp only [Int.toNat_natCast] at hin ⊢
      unfold roomOk at hroom
      have hbig : xs.length + 1 ≤ 2 ^ 44 := Nat.le_trans (Nat.le_mul_of_pos_right _ hby) hroom
      have hvl : us.length = sz0 := by simpa using hul
      have hvb : vb ≠ b := by
        rintro rfl
        obtain ⟨s, n, hs1, _⟩ := (hcell 0 _ (List.getElem?_eq_getElem (by omega))).2.ids id hid l3
        rw [hM] at hs1; cases hs1
      rw [Nat.sub_zero, Nat.zero_mul]
      refine (hI b xs.length cap m vb voff vc cs us w row t0 hin l5 (by omega) (by omega) hvb hcl hvl l6 l7 hat (fun p v hp => (hcell p v hp).1) (fun v hv => ?_) hone).mono ?_
      · obtain ⟨p, hp⟩ := List.getElem?_of_mem hv
        have hp' : p < (flatC xs).length := by rw [hrow.1]; exact lt_of_some hp
        exact RepP.one (hrow.2 p _ v (List.getElem?_eq_getElem hp') hp)
      · rintro e w' ⟨b', cap', row', t', rfl, d1, d2, d3, d4, q, d5⟩
        have hwd : wid (xs.take m ++ el :: xs.drop m) sz0 := wid_append (wid_take k4) (fun y hy => by
          rcases List.mem_cons.1 hy with rfl | hy
          · exact hel
          · exact wid_drop k4 y hy)
        have hnew : RL w (Saf j M w) (flatC (xs.take m ++ el :: xs.drop m)) (cs.take (m * sz0) ++ (us ++ cs.drop (m * sz0))) := by
          rw [flatC_append, flatC_cons, flatC_take m k4, flatC_drop m k4]
          have hrl' : RL w (Saf j M w) el.cells us := by simpa [flatC] using hrl
          exact (hrow.take _).append (hrl'.append (hrow.drop _))
        have hlen : (xs.take m ++ el :: xs.drop m).length = xs.length + 1 := by simp; omega
        have hpl : (cs.take (m * sz0) ++ (us ++ cs.drop (m * sz0))).length = (xs.length + 1) * sz0 := by rw [← hnew.1, flatC_length hwd, hlen]
        rw [setN_eq]
        rcases d5 with ⟨rfl, rfl, d6, d7⟩ | ⟨d6, d7⟩
        · have hput := arr_put (ver' := v0 + 1) (xs' := xs.take m ++ el :: xs.drop m) hr hM l3 q d7 l6 d2 d6 (by omega) (fun h => by omega) hwd hnew (fun p hp => d4 p (by rw [← hpl]; exact hp))
          refine ⟨_, j, rfl, hput.1, hput.2, .aref ⟨b', 0, cap', rfl, by omega⟩ (by simpa using hid) (fun bx hbx => by rw [set_same (lt_of_some hM)] at hbx; injection hbx with hbx; subst hbx; rfl) fun sz' v' ys hx => ?_⟩
          rw [set_same (lt_of_some hM)] at hx; injection hx with hx; injection hx with e1 e2 e3
          subst e1; subst e2; subst e3
          exact ⟨Nat.le_refl _, fun _ => ⟨rfl, Nat.zero_le _, by omega, b', cap', row', t', l3, by simp, by omega, d2, by rw [Nat.zero_add]; exact d3⟩⟩
        · have hrel := Rel.arrNew (ver' := v0 + 1) (xs' := xs.take m ++ el :: xs.drop m) hM hr q d7 d6 (lt_of_block d2) (by omega) (fun j' M' hx => arr_of_row d2 hwd (hnew.mono hx.saf) (fun p hp => d4 p (by rw [← hpl]; exact hp)))
          have hext := Ext.arrNew (j := j) (ver' := v0 + 1) (xs' := xs.take m ++ el :: xs.drop m) hM q d7 d6 (by omega)
          refine ⟨_, _, rfl, hrel, hext, .aref ⟨b', 0, cap', rfl, by omega⟩ (by simpa using hid) (fun bx hbx => by rw [set_same (lt_of_some hM)] at hbx; injection hbx with hbx; subst hbx; rfl) fun sz' v' ys hx => ?_⟩
          rw [set_same (lt_of_some hM)] at hx; injection hx with hx; injection hx with e1 e2 e3
          subst e1; subst e2; subst e3
          exact ⟨Nat.le_refl _, fun _ => ⟨rfl, Nat.zero_le _, by omega, b', cap', row', t', by simp [upd], by simp, by omega, d2, by rw [Nat.zero_add]; exact d3⟩⟩
    · cases h
  · rename_i i tk el
    obtain ⟨hc, h⟩ := owhen_inv h
    injection h with h; subst h
    obtain ⟨rfl, hel⟩ := hc
    intro j w vs hr hl hv
    obtain ⟨u1, u2, u3, rfl⟩ := two_args hl
    have h2 := (hv 1 _ u2 rfl rfl).int_inv
    subst h2
    have h3 := (hv 2 _ u3 rfl rfl).slice_sh
    have hwe : wid [el] sz := fun y hy => by rw [List.mem_singleton.1 hy]; exact hel
    obtain ⟨A, vc, rfl, _, h4⟩ := slice_row h3 hwe
    obtain ⟨vb, voff, rfl, us, hrl, hul, hone, hcell⟩ := h4.resolve_left (by simp)
    obtain ⟨B, rfl⟩ := (hv 0 _ u1 rfl rfl).c0_inv
    have hvl : us.length = sz := by simpa using hul
    refine (h0 B vb voff vc us w #[] hvl (fun p v hp => (hcell p v hp).1) hone).mono ?_
    rintro e w' ⟨b', cap', row', t', rfl, d1, d2, d3, d4, q, d5⟩
    have hbk : w.heap.size ≤ b' ∧ ∀ b0, b0 < w.heap.size → w'.heap[b0]? = w.heap[b0]? := by
      rcases d5 with ⟨rfl, _, _, d7⟩ | d5
      · exact ⟨Nat.le_refl _, fun b0 hb0 => d7 b0 (Nat.ne_of_lt hb0) hb0⟩
      · exact d5
    have hob : ∀ b, some b' = some b → w.heap.size ≤ b ∧ b < w'.heap.size := fun b h => by injection h with h; subst h; exact ⟨hbk.1, lt_of_block d2⟩
    have ext : Ext j M w (upd j M.length (some b')) (M ++ [.arr sz 0 [el]]) w' := Ext.push (fun b h => (hob b h).1) q hbk.2
    refine ⟨_, upd j M.length (some b'), rfl, hr.push hob q hbk.2 (fun h => by cases h) (fun sz n b h _ => by cases h) (fun sz0 v0 xs0 he => ?_), ext, ?_⟩
    · injection he with e1 e2 e3
      subst e1; subst e3
      refine ⟨b', row', t', rfl, d2, by simp at d1 d3 ⊢; exact Nat.le_trans (Nat.le_mul_of_pos_left _ (by omega)) d3, hwe, fun j' M' hx q x k c hx' hk => ?_⟩
      obtain ⟨vs, t, a1, a2, a3, a4⟩ := arr_of_row (j' := j') (M' := M') d2 hwe (hrl.mono hx.saf) (fun p hp => by have := d4 p (by omega); simpa using this)
      rw [d2] at a1; injection a1 with a1; injection a1 with a1 a1'
      subst a1
      exact a4 q x k c hx' hk
    · refine .aref ⟨b', 0, cap', rfl, by omega⟩ (by simp) (fun bx hbx => by rw [app_new] at hbx; injection hbx with hbx; subst hbx; rfl) fun sz' v' xs hx => ?_
      rw [app_new] at hx; injection hx with hx; injection hx with e1 e2 e3
      subst e1; subst e2; subst e3
      exact ⟨Nat.le_refl _, fun _ => ⟨rfl, Nat.zero_le _, Nat.le_refl _, b', cap', row', t', by simp [upd], by simp, by omega, d2, by rw [Nat.zero_add]; exact d3⟩⟩
  · cases h
end Go.Abs
namespace Go.Proofs.YtnapockikkbkcaaGreat
open Go Go.RowKit Go.Lib
theorem run_clear_cells {P : Program} (w : World) (t e ty : TypeId) (ht : P.underlying t = some (.slice e)) {i : TypeInfo} (hi : P.info? e = some i) {z : Value} (hz : i.zero = some z) (b o n c : Nat) (hn : 0 < n)
    (zs : List Value) (hzs : zs = (Builtin.zeroCells z.cells n).toList) (hc : ∀ j, j < zs.length → (w.cell? ⟨b, o + j, none⟩).isSome = true) (hf : ∀ j, j < zs.length → w.frozen? ⟨b, o + j, none⟩ = false) (h1 : ∀ v ∈ zs, v.oneCell' = true) :
    (Builtin.clear_ #[t] ty #[.slice (some ⟨b, o, none⟩) n c]).run P w = .ok (.tuple #[]) (w.setCells b o zs) := by
  have hst := run_storeCells_cells (P := P) b o zs 0 w (by simpa using hc) (by simpa using hf) h1
  simp only [Nat.add_zero] at hst
  rw [hzs] at hst
  obtain ⟨m, rfl⟩ : ∃ m, n = m + 1 := ⟨n - 1, by omega⟩
  rw [hzs]
  simp [Builtin.clear_, run_underlying ht, zeroValue, typeInfo, hi, hz, hst]
theorem cell_setCells_some (b : Nat) (vs : List Value) (o : Nat) (w : World) (h : ∀ j, j < vs.length → (w.cell? ⟨b, o + j, none⟩).isSome = true) (k : Nat) (hk : (w.cell? ⟨b, k, none⟩).isSome = true) : ((w.setCells b o vs).cell? ⟨b, k, none⟩).isSome = true := by
  by_cases hin : o ≤ k ∧ k < o + vs.length
  · have := World.cell?_setCells_in b vs o w h (k - o) (by omega)
    rw [show o + (k - o) = k by omega] at this
    rw [this]
    simp
  · rw [World.cell?_setCells_out b vs o w ⟨b, k, none⟩ (fun _ _ => by show k < o ∨ o + vs.length ≤ k; omega)]
    exact hk
set_option maxHeartbeats 4000000 in
set_option maxRecDepth 1000000 in
theorem del109 (blk cap i j n : Nat) (cs : List Value) (w : World) (hl : cs.length = n * 6) (hcap : n ≤ cap) (hm : n ≤ 9223372036854775807) (hi : i < n) (hj : j = i + 1)
    (hH : ∀ p v, cs[p]? = some v → w.cell? ⟨blk, p, none⟩ = some v ∧ w.frozen? ⟨blk, p, none⟩ = false ∧ v.oneCell' = true) :
    Calls Tryz.prog 109 #[.slice (some ⟨blk, 0, none⟩) n cap, .int .i64 i, .int .i64 j] w fun e w' => e = .returned (.slice (some ⟨blk, 0, none⟩) (n - 1) cap) ∧
      w' = (w.drew.setCells blk (i * 6) (cs.drop (j * 6))).setCells blk ((n - 1) * 6) [.int .i64 0, .int .i64 0, .int .i64 0, .slice none 0 0, .slice none 0 0, .int .i64 0] := by
  obtain ⟨i0, hi0, hz1, hz2⟩ : ∃ i0, Tryz.prog.info? 40 = some i0 ∧ i0.size = 6 ∧ i0.zero = some (.agg #[.int .i64 0, .int .i64 0, .int .i64 0, .slice none 0 0, .slice none 0 0, .int .i64 0]) := by
    have h0 : (Tryz.prog.info? 40).map (fun i => (i.size, i.zero)) = some (6, some (.agg #[.int .i64 0, .int .i64 0, .int .i64 0, .slice none 0 0, .slice none 0 0, .int .i64 0])) := by kernel_rfl
    obtain ⟨i0, h1, h2⟩ := Option.map_eq_some_iff.1 h0
    injection h2 with h2 h3
    exact ⟨i0, h1, h2, h3⟩
  have t25 := Tryz.underlying25
  obtain ⟨news, hnews⟩ : ∃ news, news = cs.drop ((j) * 6) := ⟨_, rfl⟩
  have hlen : news.length = (n - (j)) * 6 := by rw [hnews, List.length_drop, hl]; omega
  have hat : ∀ p, p < cs.length → ∃ v, cs[p]? = some v := fun p hp => ⟨_, List.getElem?_eq_getElem hp⟩
  have hsome : ∀ p, p < n * 6 → (w.cell? ⟨blk, p, none⟩).isSome = true ∧ w.frozen? ⟨blk, p, none⟩ = false := fun p hp => by
    obtain ⟨v, hv⟩ := hat p (by omega)
    obtain ⟨h1, h2, _⟩ := hH p v hv
    exact ⟨by rw [h1]; rfl, h2⟩
  obtain ⟨A, hA, hsrc⟩ : ∃ A : Addr, (if cap = j then some (⟨blk, 0, none⟩ : Addr) else some ⟨blk, (j) * 6, none⟩) = some A ∧ Hid (∀ t u, news[t]? = some u → w.drew.cell? (A.add t) = some u) := by
    by_cases h : cap = j
    · refine ⟨⟨blk, 0, none⟩, by simp [h], fun t u hu => ?_⟩
      have h0 : news.length = 0 := by rw [hlen]; omega
      rw [List.length_eq_zero_iff.1 h0] at hu
      simp at hu
    · refine ⟨⟨blk, (j) * 6, none⟩, by simp [h], fun t u hu => ?_⟩
      rw [hnews, List.getElem?_drop] at hu
      rw [Addr.add_lit]
      exact (hH _ _ hu).1
  have s1 : Hid (news.length = (n - (j)) * 6) := hlen
  have s2 : Hid (∀ u ∈ news, u.oneCell' = true) := by
    intro u hu
    rw [hnews] at hu
    obtain ⟨p, hp⟩ := List.getElem?_of_mem (List.mem_of_mem_drop hu)
    exact (hH p u hp).2.2
  have s3 : Hid (∀ t, t < news.length → (w.drew.cell? ⟨blk, 0 + i * 6 + t, none⟩).isSome = true ∧ w.drew.frozen? ⟨blk, 0 + i * 6 + t, none⟩ = false) := by
    intro t ht
    rw [hlen] at ht
    rw [Nat.zero_add]
    exact hsome _ (by omega)
  obtain ⟨W1, hW1⟩ : ∃ W1, W1 = w.drew.setCells blk (i * 6) news := ⟨_, rfl⟩
  have hW1c : ∀ p, p < n * 6 → (W1.cell? ⟨blk, p, none⟩).isSome = true := fun p hp => by
    rw [hW1]
    exact cell_setCells_some blk news _ w.drew (fun q hq => (hsome (i * 6 + q) (by rw [hlen] at hq; omega)).1) p (hsome p hp).1
  have hW1f : ∀ p, p < n * 6 → W1.frozen? ⟨blk, p, none⟩ = false := fun p hp => by
    rw [hW1, World.frozen?_setCells]
    exact (hsome p hp).2
  have hcl : ∀ ty, (Builtin.clear_ #[25] ty #[.slice (some ⟨blk, (i + (n - (j))) * 6, none⟩) (n - (i + (n - (j)))) (cap - (i + (n - (j))))]).run Tryz.prog W1 = .ok (.tuple #[]) (W1.setCells blk ((i + (n - (j))) * 6) [.int .i64 0, .int .i64 0, .int .i64 0, .slice none 0 0, .slice none 0 0, .int .i64 0]) :=
    fun ty => run_clear_cells W1 _ _ ty t25 hi0 hz2 blk _ _ _ (by omega) _ (by rw [show n - (i + (n - (j))) = 1 by omega, Go.Abs.zeroCells_list]; simp [Value.cells]) (fun q hq => hW1c ((i + (n - (j))) * 6 + q) (by simp only [List.length_cons, List.length_nil] at hq; omega)) (fun q hq => hW1f ((i + (n - (j))) * 6 + q) (by simp only [List.length_cons, List.length_nil] at hq; omega)) (by
      intro v hv
      simp only [List.mem_cons, List.not_mem_nil, or_false] at hv
      rcases hv with rfl | rfl | rfl | rfl | rfl | rfl <;> rfl)
  have hW : Hid (W1 = w.drew.setCells blk (0 + i * 6) news) := by rw [Nat.zero_add]; exact hW1
  have hic : i ≤ cap := by omega
  have hij : i < j := by omega
  have mixed : Tryz.prog.follows .mixedOrders = true := by kernel_rfl
  have hjc : j ≤ cap := by omega
  have hjn : j ≤ n := by omega
  have hgo : Calls Tryz.prog 109 #[.slice (some ⟨blk, 0, none⟩) n cap, .int .i64 i, .int .i64 j] w fun e w' => e = .returned (.slice (some ⟨blk, 0, none⟩) (i + (n - (j))) cap) ∧
      w' = W1.setCells blk ((i + (n - (j))) * 6) [.int .i64 0, .int .i64 0, .int .i64 0, .slice none 0 0, .slice none 0 0, .int .i64 0] := by
    clear hj hW1 hW1c hW1f hH hsome hat hlen hl hz2
    go_enter Tryz.func109, Tryz.ntmps109
    go_wp2_with fail
    go_region_law_o (refine step_append_room rfl (.tmp 22) (.tmp 25) 25 rfl 40 i0 6 t25 hi0 hz1 blk 0 i cap (by simp [Act.eval, Act.put]) A (n - (j)) (cap - (j)) news (by simp [Act.eval, Act.put]) s1.out hsrc.out s2.out (by omega) s3.out ?_; rw [← hW.out])
    go_wp2
    go_ret
    exact ⟨rfl, rfl⟩
  refine hgo.mono ?_
  rintro e w' ⟨rfl, rfl⟩
  refine ⟨by rw [show i + (n - j) = n - 1 by omega], by rw [hW1, hnews, show i + (n - j) = n - 1 by omega]⟩
set_option maxHeartbeats 4000000 in
set_option maxRecDepth 1000000 in
theorem del84 (blk cap i j n : Nat) (cs : List Value) (w : World) (hl : cs.length = n * 3) (hcap : n ≤ cap) (hm : n ≤ 9223372036854775807) (hi : i < n) (hj : j = i + 1)
    (hH : ∀ p v, cs[p]? = some v → w.cell? ⟨blk, p, none⟩ = some v ∧ w.frozen? ⟨blk, p, none⟩ = false ∧ v.oneCell' = true) :
    Calls Tryz.prog 84 #[.slice (some ⟨blk, 0, none⟩) n cap, .int .i64 i, .int .i64 j] w fun e w' => e = .returned (.slice (some ⟨blk, 0, none⟩) (n - 1) cap) ∧
      w' = (w.drew.setCells blk (i * 3) (cs.drop (j * 3))).setCells blk ((n - 1) * 3) [.string ⟨#[]⟩, .int .i64 0, .int .i64 0] := by
  obtain ⟨i0, hi0, hz1, hz2⟩ : ∃ i0, Tryz.prog.info? 54 = some i0 ∧ i0.size = 3 ∧ i0.zero = some (.agg #[.string ⟨#[]⟩, .int .i64 0, .int .i64 0]) := by
    have h0 : (Tryz.prog.info? 54).map (fun i => (i.size, i.zero)) = some (3, some (.agg #[.string ⟨#[]⟩, .int .i64 0, .int .i64 0])) := by kernel_rfl
    obtain ⟨i0, h1, h2⟩ := Option.map_eq_some_iff.1 h0
    injection h2 with h2 h3
    exact ⟨i0, h1, h2, h3⟩
  have t25 := Tryz.underlying38
  obtain ⟨news, hnews⟩ : ∃ news, news = cs.drop ((j) * 3) := ⟨_, rfl⟩
  have hlen : news.length = (n - (j)) * 3 := by rw [hnews, List.length_drop, hl]; omega
  have hat : ∀ p, p < cs.length → ∃ v, cs[p]? = some v := fun p hp => ⟨_, List.getElem?_eq_getElem hp⟩
  have hsome : ∀ p, p < n * 3 → (w.cell? ⟨blk, p, none⟩).isSome = true ∧ w.frozen? ⟨blk, p, none⟩ = false := fun p hp => by
    obtain ⟨v, hv⟩ := hat p (by omega)
    obtain ⟨h1, h2, _⟩ := hH p v hv
    exact ⟨by rw [h1]; rfl, h2⟩
  obtain ⟨A, hA, hsrc⟩ : ∃ A : Addr, (if cap = j then some (⟨blk, 0, none⟩ : Addr) else some ⟨blk, (j) * 3, none⟩) = some A ∧ Hid (∀ t u, news[t]? = some u → w.drew.cell? (A.add t) = some u) := by
    by_cases h : cap = j
    · refine ⟨⟨blk, 0, none⟩, by simp [h], fun t u hu => ?_⟩
      have h0 : news.length = 0 := by rw [hlen]; omega
      rw [List.length_eq_zero_iff.1 h0] at hu
      simp at hu
    · refine ⟨⟨blk, (j) * 3, none⟩, by simp [h], fun t u hu => ?_⟩
      rw [hnews, List.getElem?_drop] at hu
      rw [Addr.add_lit]
      exact (hH _ _ hu).1
  have s1 : Hid (news.length = (n - (j)) * 3) := hlen
  have s2 : Hid (∀ u ∈ news, u.oneCell' = true) := by
    intro u hu
    rw [hnews] at hu
    obtain ⟨p, hp⟩ := List.getElem?_of_mem (List.mem_of_mem_drop hu)
    exact (hH p u hp).2.2
  have s3 : Hid (∀ t, t < news.length → (w.drew.cell? ⟨blk, 0 + i * 3 + t, none⟩).isSome = true ∧ w.drew.frozen? ⟨blk, 0 + i * 3 + t, none⟩ = false) := by
    intro t ht
    rw [hlen] at ht
    rw [Nat.zero_add]
    exact hsome _ (by omega)
  obtain ⟨W1, hW1⟩ : ∃ W1, W1 = w.drew.setCells blk (i * 3) news := ⟨_, rfl⟩
  have hW1c : ∀ p, p < n * 3 → (W1.cell? ⟨blk, p, none⟩).isSome = true := fun p hp => by
    rw [hW1]
    exact cell_setCells_some blk news _ w.drew (fun q hq => (hsome (i * 3 + q) (by rw [hlen] at hq; omega)).1) p (hsome p hp).1
  have hW1f : ∀ p, p < n * 3 → W1.frozen? ⟨blk, p, none⟩ = false := fun p hp => by
    rw [hW1, World.frozen?_setCells]
    exact (hsome p hp).2
  have hcl : ∀ ty, (Builtin.clear_ #[38] ty #[.slice (some ⟨blk, (i + (n - (j))) * 3, none⟩) (n - (i + (n - (j)))) (cap - (i + (n - (j))))]).run Tryz.prog W1 = .ok (.tuple #[]) (W1.setCells blk ((i + (n - (j))) * 3) [.string ⟨#[]⟩, .int .i64 0, .int .i64 0]) :=
    fun ty => run_clear_cells W1 _ _ ty t25 hi0 hz2 blk _ _ _ (by omega) _ (by rw [show n - (i + (n - (j))) = 1 by omega, Go.Abs.zeroCells_list]; simp [Value.cells]) (fun q hq => hW1c ((i + (n - (j))) * 3 + q) (by simp only [List.length_cons, List.length_nil] at hq; omega)) (fun q hq => hW1f ((i + (n - (j))) * 3 + q) (by simp only [List.length_cons, List.length_nil] at hq; omega)) (by
      intro v hv
      simp only [List.mem_cons, List.not_mem_nil, or_false] at hv
      rcases hv with rfl | rfl | rfl <;> rfl)
  have hW : Hid (W1 = w.drew.setCells blk (0 + i * 3) news) := by rw [Nat.zero_add]; exact hW1
  have hic : i ≤ cap := by omega
  have hij : i < j := by omega
  have mixed : Tryz.prog.follows .mixedOrders = true := by kernel_rfl
  have hjc : j ≤ cap := by omega
  have hjn : j ≤ n := by omega
  have hgo : Calls Tryz.prog 84 #[.slice (some ⟨blk, 0, none⟩) n cap, .int .i64 i, .int .i64 j] w fun e w' => e = .returned (.slice (some ⟨blk, 0, none⟩) (i + (n - (j))) cap) ∧
      w' = W1.setCells blk ((i + (n - (j))) * 3) [.string ⟨#[]⟩, .int .i64 0, .int .i64 0] := by
    clear hj hW1 hW1c hW1f hH hsome hat hlen hl hz2
    go_enter Tryz.func84, Tryz.ntmps84
    go_wp2_with fail
    go_region_law_o (refine step_append_room rfl (.tmp 22) (.tmp 25) 38 rfl 54 i0 3 t25 hi0 hz1 blk 0 i cap (by simp [Act.eval, Act.put]) A (n - (j)) (cap - (j)) news (by simp [Act.eval, Act.put]) s1.out hsrc.out s2.out (by omega) s3.out ?_; rw [← hW.out])
    go_wp2
    go_ret
    exact ⟨rfl, rfl⟩
  refine hgo.mono ?_
  rintro e w' ⟨rfl, rfl⟩
  refine ⟨by rw [show i + (n - j) = n - 1 by omega], by rw [hW1, hnews, show i + (n - j) = n - 1 by omega]⟩
end Go.Proofs.YtnapockikkbkcaaGreat
namespace Go.Proofs.YtnapockikkbkcaaGreat
open Go Go.RowKit Go.Lib
theorem wp_copy_q {P : Program} (w : World) {o : Oper} {a : Act} {K : Act → World → Prop} {Q : Exit → Act → World → Prop} (d s : Operand) (t t' : TypeId)
    (ho : o.op = .call { callee := .builtin .copy, args := #[d, s], argTypes := #[t, t'] }) (v u : Value) (hd : a.eval d = v) (hs : a.eval s = u) {v' : Value} {w' : World}
    (hr : (Builtin.copy_ #[t, t'] o.type #[v, u]).run P w = .ok v' w') (h : K (a.put o.dst v') w') : o.wp P a w K Q := by
  unfold Oper.wp execOp
  simp only [ho, resolve, invoke, builtin, Sem.run_bind, Sem.run_pure, Result.andThen_ok, List.map_toArray, List.map_cons, List.map_nil, hd, hs, hr]
  exact h
theorem wpList_copy_q {P : Program} (w : World) {ops : Array Oper} {rest : List Oper} {o : Oper} {a : Act} {Q : Exit → Act → World → Prop} (hgd : o.guard = none) (d s : Operand) (t t' : TypeId)
    (ho : o.op = .call { callee := .builtin .copy, args := #[d, s], argTypes := #[t, t'] }) (v u : Value) (hd : a.eval d = v) (hs : a.eval s = u) {v' : Value} {w' : World}
    (hr : (Builtin.copy_ #[t, t'] o.type #[v, u]).run P w = .ok v' w') (h : wpList P ops Q rest (a.put o.dst v') w') : wpList P ops Q (o :: rest) a w :=
  wpList_plain hgd fun _ hK => wp_copy_q w d s t t' ho v u hd hs hr (hK _ _ h)
theorem step_copy_q {P : Program} {ops : Array Oper} {o : Oper} {a : Act} {w : World} {K : Act → World → Prop} {Q : Exit → Act → World → Prop} {E : Prop}
    (hg : o.guard = none) (d x : Operand) (dT sT : TypeId) (hop : o.op = Op.call { callee := Callee.builtin Builtin.copy, args := #[d, x], argTypes := #[dT, sT] })
    (v u : Value) (hd : a.eval d = v) (hx : a.eval x = u) {v' : Value} {w' : World} (hr : (Builtin.copy_ #[dT, sT] o.type #[v, u]).run P w = .ok v' w') (hK : K (a.put o.dst v') w') :
    if Region.wanted o (yielded ops a.tmps) = true then Oper.wp P o a w K Q else E := by
  have hw : Region.wanted o (yielded ops a.tmps) = true := by simp [Region.wanted, hg]
  rw [if_pos hw]
  exact wp_copy_q w d x dT sT hop v u hd hx hr hK
theorem run_copyK {P : Program} (w : World) (dT sT ty elem : TypeId) (k b o dLen dCap : Nat) (a : Addr) (sLen sCap : Nat) (cs : List Value) (m : Nat)
    (hu : P.underlying dT = some (.slice elem)) (hs : (P.info? elem).map (·.size) = some k) (hm : m = Nat.min sLen dLen) (hn : cs.length = m * k)
    (hsrc : ∀ j v, cs[j]? = some v → w.cell? (a.add j) = some v) (hc : ∀ j, j < cs.length → (w.cell? ⟨b, o + j, none⟩).isSome = true) (hf : ∀ j, j < cs.length → w.frozen? ⟨b, o + j, none⟩ = false) (h1 : ∀ v ∈ cs, v.oneCell' = true) :
    (Builtin.copy_ #[dT, sT] ty #[.slice (some ⟨b, o, none⟩) dLen dCap, .slice (some a) sLen sCap]).run P w = .ok (goInt m) (w.setCells b o cs) := by
  have hl := run_loadCells_list (P := P) w a cs hsrc
  have hst := run_storeCells_cells (P := P) b o cs 0 w (by simpa using hc) (by simpa using hf) h1
  cases hq : P.info? elem with
  | none => simp [hq] at hs
  | some i =>
    have hi : i.size = k := by simpa [hq] using hs
    simp only [Nat.add_zero] at hst
    rw [hn] at hl
    subst hm
    simp [Builtin.copy_, run_underlying hu, Builtin.lenOf, Builtin.firstCells, sizeOf, typeInfo, hq, hi, hl, hst]
theorem run_overlaps_q {P : Program} (w : World) (tS tR e : TypeId) (ht : P.underlying tS = some (.slice e)) (size : Nat) (hz : ∀ w, (Go.sizeOf e).run P w = .ok size w)
    (a b : Addr) (la ca lb cb : Nat) (hne : a.block ≠ b.block) (tA tB : TypeId) (kA : Nat) (vs : Array Value) (hsa : w.shape? a.block = some (tA, kA + 1)) (hb : w.heap[b.block]? = some (.cells vs tB (0, 0))) :
    (Extern.SlicesOverlaps.overlaps #[tS, tS] #[tR] #[.slice (some a) la ca, .slice (some b) lb cb]).run P w = .ok (.bool false) w := by
  have hnb : (a.block != b.block) = true := by simpa using hne
  have hnb' : (a.block == b.block) = false := by simpa using hne
  have hsb : w.shape? b.block = some (tB, vs.size) := by simp [World.shape?, hb]
  have hfb : ∀ o s, w.frozen? ⟨b.block, o, s⟩ = false := fun o s => by simp [World.frozen?, hb]
  have hfb' : w.frozen? b = false := by simp [World.frozen?, hb]
  rw [show Extern.SlicesOverlaps.overlaps #[tS, tS] #[tR] #[.slice (some a) la ca, .slice (some b) lb cb] = (underlying tS >>= _) from rfl]
  by_cases h0 : la = 0 ∨ lb = 0 ∨ size = 0
  · simp [run_underlying ht, hz, h0]
  · cases hfa : w.frozen? a with
    | true => simp [run_underlying ht, hz, h0, hnb, hnb', frozen, noView, viewAt, mayBeOne, stringish, shape, Sem.run, hsa, hsb, hfa, hfb, hfb']
    | false =>
      cases hfe : w.frozen? { block := a.block, off := kA + 1 } <;>
      simp [run_underlying ht, hz, h0, hnb, hnb', frozen, noView, viewAt, mayBeOne, stringish, shape, Sem.run, hsa, hsb, hfa, hfb, hfb', hfe]
set_option maxHeartbeats 4000000 in
set_option maxRecDepth 100000 in
theorem ins86_shift (b n c i vb voff vc : Nat) (cs vs : List Value) (w : World) (hi : i < n) (hroom : n + 1 ≤ c) (hc63 : n + 1 ≤ 9223372036854775807) (hvb : vb ≠ b)
    (hcl : cs.length = n * 6) (hvl : vs.length = 6) (row : Array Value) (tB : TypeId) (hw : w.heap[b]? = some (.cells row tB (0, 0))) (hrow : c * 6 ≤ row.size)
    (hcs : ∀ j v, cs[j]? = some v → w.cell? ⟨b, j, none⟩ = some v)
    (hvs : ∀ j v, vs[j]? = some v → w.cell? ⟨vb, voff + j, none⟩ = some v) (h1c : ∀ v ∈ cs, v.oneCell' = true) (h1v : ∀ v ∈ vs, v.oneCell' = true) :
    Calls Tryz.prog 86 #[.slice (some ⟨b, 0, none⟩) n c, .int .i64 i, .slice (some ⟨vb, voff, none⟩) 1 vc] w fun e w' =>
      e = .returned (.slice (some ⟨b, 0, none⟩) (n + 1) c) ∧ w' = (w.drew.setCells b ((i + 1) * 6) (cs.drop (i * 6))).setCells b (i * 6) vs := by
  have mixed : Tryz.prog.follows .mixedOrders = true := by kernel_rfl
  have t25 := Tryz.underlying25
  have hz2 : ¬ ((i : Int) = (n : Int)) := by omega
  have hsz : (Tryz.prog.info? 40).map (·.size) = some 6 := by kernel_rfl
  have hsp : ∀ j, j < (n + 1) * 6 → (w.cell? ⟨b, j, none⟩).isSome = true := fun j hj => by
    have : (n + 1) * 6 ≤ row.size := Nat.le_trans (Nat.mul_le_mul_right _ hroom) hrow
    simp [World.cell?, hw, Array.getElem?_eq_getElem (show j < row.size by omega)]
  have hfz : ∀ j, w.frozen? ⟨b, j, none⟩ = false := fun j => by simp [World.frozen?, hw]
  obtain ⟨tA, kA, hsa⟩ : ∃ tA kA, w.shape? vb = some (tA, kA + 1) := by
    have h0 := hvs 0 _ (List.getElem?_eq_getElem (by omega))
    unfold World.cell? at h0
    unfold World.shape?
    split at h0
    · rename_i cc ee ff hb
      simp only [hb]
      simp at h0
      have := (Array.getElem?_eq_some_iff.1 h0).1
      exact ⟨ee, cc.size - 1, by simp; omega⟩
    · cases h0
  have hov : ∀ lb cb, (callFunc 114 #[.slice (some ⟨vb, voff, none⟩) 1 vc, .slice (some ⟨b, (i + 1) * 6, none⟩) lb cb]).run Tryz.prog w = .ok (.value (.bool false)) w := fun lb cb => by
    rw [run_callFunc_extern Tryz.func114 (by kernel_rfl) (by kernel_rfl) (by kernel_rfl) (e := Extern.SlicesOverlaps.overlaps #[25, 25] #[4]) (by kernel_rfl),
      run_overlaps_q w 25 4 40 t25 6 Tryz.sizeOf40 ⟨vb, voff, none⟩ ⟨b, (i + 1) * 6, none⟩ 1 vc lb cb hvb tA tB kA row hsa hw]
    rfl
  have hdl : (cs.drop (i * 6)).length = (n - i) * 6 := by rw [List.length_drop, hcl]; omega
  have hw1 : IntKind.i64.wrap ((i : Int) + 1) = (i : Int) + 1 := by rw [IntKind.wrap_i64]; omega
  have hb1 : (0 : Int) ≤ (i : Int) + 1 := by omega
  have hin : i ≤ n := by omega
  have htn : ((i : Int) + 1).toNat = i + 1 := by omega
  have hb2 : ¬ (c = i + 1) := by omega
  have hb3 : (i : Int) ≤ (n : Int) + 1 := by omega
  have hb4 : ¬ (c = i) := by omega
  have hcp1 : ∀ ty dc sc, (Builtin.copy_ #[25, 25] ty #[.slice (some ⟨b, (i + 1) * 6, none⟩) (n - i) dc, .slice (some ⟨b, i * 6, none⟩) (n + 1 - i) sc]).run Tryz.prog w.drew = .ok (goInt ((n - i : Nat) : Int)) (w.drew.setCells b ((i + 1) * 6) (cs.drop (i * 6))) := fun ty dc sc =>
    run_copyK w.drew _ _ ty 40 6 b ((i + 1) * 6) (n - i) dc ⟨b, i * 6, none⟩ (n + 1 - i) sc (cs.drop (i * 6)) (n - i) t25 hsz (by simp only [Nat.min_def]; split <;> omega) hdl
      (fun j v hj => by rw [Addr.add_lit]; exact hcs (i * 6 + j) v (by rwa [List.getElem?_drop] at hj))
      (fun j hj => hsp ((i + 1) * 6 + j) (by omega)) (fun j hj => hfz _) (fun v hv => h1c v (List.mem_of_mem_drop hv))
  obtain ⟨W1, hW1⟩ : ∃ W1, W1 = w.drew.setCells b ((i + 1) * 6) (cs.drop (i * 6)) := ⟨_, rfl⟩
  have hsp1 : ∀ q, q < (n + 1) * 6 → (W1.cell? ⟨b, q, none⟩).isSome = true := fun q hq => by
    rw [hW1]
    exact cell_setCells_some b _ _ w.drew (fun j hj => hsp ((i + 1) * 6 + j) (by omega)) _ (hsp q hq)
  have hcp2 : ∀ (W : World), (∀ x, W.cell? x = W1.cell? x) → (∀ x, W.frozen? x = W1.frozen? x) → ∀ ty dc, (Builtin.copy_ #[25, 25] ty #[.slice (some ⟨b, i * 6, none⟩) (n + 1 - i) dc, .slice (some ⟨vb, voff, none⟩) 1 vc]).run Tryz.prog W = .ok (goInt 1) (W.setCells b (i * 6) vs) := fun W hWc hWf ty dc =>
    run_copyK W _ _ ty 40 6 b (i * 6) (n + 1 - i) dc ⟨vb, voff, none⟩ 1 vc vs 1 t25 hsz (by simp only [Nat.min_def]; split <;> omega) (by omega)
      (fun j v hj => by
        rw [Addr.add_lit, hWc, hW1, World.cell?_setCells_out b _ _ _ _ (fun h _ => absurd h hvb)]
        exact hvs j v hj)
      (fun j hj => by rw [hWc]; exact hsp1 (i * 6 + j) (by omega)) (fun j hj => by rw [hWf, hW1, World.frozen?_setCells]; exact hfz _) h1v
  rw [← hW1] at hcp1
  have hWq : Hid (W1 = w.drew.setCells b ((i + 1) * 6) (cs.drop (i * 6))) := hW1
  clear hW1 hw hrow hsa hsp hfz hcs hvs hdl hcl hvl
  go_enter Tryz.func86, Tryz.ntmps86
  go_wp2_with (simp only [hov])
  go_region_law_o (refine step_copy_q rfl _ _ 25 25 rfl _ _ (by simp [Act.eval, Act.put]) (by simp [Act.eval, Act.put]) (hcp1 _ _ _) ?_)
  go_wp2_with (at_builtin; refine wpList_copy_q _ rfl _ _ 25 25 rfl _ _ rfl rfl (hcp2 _ (fun _ => rfl) (fun _ => rfl) _ _) ?_)
  go_ret
  exact ⟨rfl, by rw [← hWq.out]⟩
set_option maxHeartbeats 4000000 in
set_option maxRecDepth 100000 in
theorem ins86_end_room (b n c vb voff vc : Nat) (vs : List Value) (w : World) (hroom : n + 1 ≤ c) (hc63 : n + 1 ≤ 9223372036854775807)
    (hvl : vs.length = 6) (row : Array Value) (tB : TypeId) (hw : w.heap[b]? = some (.cells row tB (0, 0))) (hrow : c * 6 ≤ row.size)
    (hvs : ∀ j v, vs[j]? = some v → w.cell? ⟨vb, voff + j, none⟩ = some v) (h1v : ∀ v ∈ vs, v.oneCell' = true) :
    Calls Tryz.prog 86 #[.slice (some ⟨b, 0, none⟩) n c, .int .i64 n, .slice (some ⟨vb, voff, none⟩) 1 vc] w fun e w' =>
      e = .returned (.slice (some ⟨b, 0, none⟩) (n + 1) c) ∧ w' = w.setCells b (n * 6) vs := by
  have t25 := Tryz.underlying25
  obtain ⟨i0, hi0, hz1⟩ : ∃ i0, Tryz.prog.info? 40 = some i0 ∧ i0.size = 6 := by
    have h0 : (Tryz.prog.info? 40).map (fun i => i.size) = some 6 := by kernel_rfl
    obtain ⟨i0, h1, h2⟩ := Option.map_eq_some_iff.1 h0
    exact ⟨i0, h1, h2⟩
  have hfz : ∀ j, w.frozen? ⟨b, j, none⟩ = false := fun j => by simp [World.frozen?, hw]
  have hrun : ∀ ty, (Builtin.append_ #[25, 25] ty #[.slice (some ⟨b, 0, none⟩) n c, .slice (some ⟨vb, voff, none⟩) 1 vc]).run Tryz.prog w = .ok (.slice (some ⟨b, 0, none⟩) (n + 1) c) (w.setCells b (n * 6) vs) := fun ty => by
    have h := run_append_room_cells (P := Tryz.prog) w 25 ty 40 i0 t25 hi0 b 0 n c ⟨vb, voff, none⟩ 1 vc vs (by rw [hz1, hvl]) (fun j u hj => by rw [Addr.add_lit]; exact hvs j u hj) h1v hroom
      (fun j hj => by
        have : (n + 1) * 6 ≤ row.size := Nat.le_trans (Nat.mul_le_mul_right _ hroom) hrow
        rw [hz1]
        simp [World.cell?, hw, Array.getElem?_eq_getElem (show n * 6 + j < row.size by omega)]) (fun j hj => hfz _)
    rw [hz1, Nat.zero_add] at h
    exact h
  clear hfz hw hrow hvs
  go_enter Tryz.func86, Tryz.ntmps86
  go_wp2_with (at_builtin; refine Lib.wpList_append_run _ rfl _ _ _ _ rfl _ _ rfl rfl _ _ (hrun _) ?_)
  all_goals (go_ret; exact ⟨rfl, rfl⟩)
set_option maxHeartbeats 4000000 in
set_option maxRecDepth 100000 in
theorem ins86_end_grow (base : Option Addr) (n c vb voff vc : Nat) (cs vs : List Value) (w : World) (hnc : n ≤ c) (hroom : c < n + 1) (hbig : (n + 1) * 80 ≤ 140737488355328)
    (hcl : cs.length = n * 6) (hvl : vs.length = 6) (hnil : base = none → n = 0)
    (hcs : ∀ a, base = some a → ∀ j v, cs[j]? = some v → w.cell? (a.add j) = some v)
    (hvs : ∀ j v, vs[j]? = some v → w.cell? ⟨vb, voff + j, none⟩ = some v) (h1v : ∀ v ∈ vs, v.oneCell' = true) :
    Calls Tryz.prog 86 #[.slice base n c, .int .i64 n, .slice (some ⟨vb, voff, none⟩) 1 vc] w fun e w' =>
      e = .returned (.slice (some ⟨w.heap.size, 0, none⟩) (n + 1) (grownCap w (n + 1) c 40)) ∧
      w' = w.drew.alloc (.cells ((cs ++ vs).toArray ++ Builtin.zeroCells (Value.agg #[.int .i64 0, .int .i64 0, .int .i64 0, .slice none 0 0, .slice none 0 0, .int .i64 0]).cells (grownCap w (n + 1) c 40 - (n + 1))) 40) := by
  have t25 := Tryz.underlying25
  obtain ⟨i0, hi0, hzs, hz0, hzb⟩ : ∃ i0, Tryz.prog.info? 40 = some i0 ∧ i0.size = 6 ∧ i0.zero = some (.agg #[.int .i64 0, .int .i64 0, .int .i64 0, .slice none 0 0, .slice none 0 0, .int .i64 0]) ∧ i0.bytes = 80 := by
    have h0 : (Tryz.prog.info? 40).map (fun i => (i.size, i.zero, i.bytes)) = some (6, some (.agg #[.int .i64 0, .int .i64 0, .int .i64 0, .slice none 0 0, .slice none 0 0, .int .i64 0]), 80) := by kernel_rfl
    obtain ⟨i0, h1, h2⟩ := Option.map_eq_some_iff.1 h0
    injection h2 with h2 h3
    injection h3 with h3 h4
    exact ⟨i0, h1, h2, h3, h4⟩
  have hsrc : Src Tryz.prog i0.size 25 (.slice (some ⟨vb, voff, none⟩) 1 vc) 1 vs w := by
    rw [hzs]
    exact Src.ofSlice w t25 ⟨vb, voff, none⟩ 1 vc vs (by omega) (fun j u hj => by rw [Addr.add_lit]; exact hvs j u hj) h1v
  have hold : (Builtin.firstCells i0.size n (.slice base n c)).run Tryz.prog w.drew = .ok cs.toArray w.drew := by
    rw [hzs]
    cases base with
    | none =>
      have h0 := hnil rfl
      subst h0
      rw [List.length_eq_zero_iff.1 (by omega : cs.length = 0)]
      exact run_firstCells_none w.drew 6 0 0 c
    | some a => exact run_firstCells_some w.drew 6 n a n c cs (by omega) (fun j v hj => hcs a rfl j v hj)
  have hrun : ∀ ty, (Builtin.append_ #[25, 25] ty #[.slice base n c, .slice (some ⟨vb, voff, none⟩) 1 vc]).run Tryz.prog w = _ := fun ty =>
    run_append_grow_src w 25 25 ty 40 i0 _ t25 hi0 hz0 base n c cs hold _ 1 vs hsrc hroom (by omega) (by rw [hzb]; exact growslice_fits hroom hbig)
  clear hold hsrc hcs hvs
  go_enter Tryz.func86, Tryz.ntmps86
  cases base with
  | none =>
    have h0 := hnil rfl
    subst h0
    go_wp2_with (at_builtin; refine Lib.wpList_append_run _ rfl _ _ _ _ rfl _ _ rfl rfl _ _ (hrun _) ?_)
    go_ret
    exact ⟨rfl, rfl⟩
  | some a =>
    obtain ⟨ab, ao, asp⟩ := a
    go_wp2_with (at_builtin; refine Lib.wpList_append_run _ rfl _ _ _ _ rfl _ _ rfl rfl _ _ (hrun _) ?_)
    all_goals (go_ret; exact ⟨rfl, rfl⟩)
set_option maxHeartbeats 4000000 in
set_option maxRecDepth 100000 in
theorem ins86_grow (b n c i vb voff vc : Nat) (cs vs : List Value) (w : World) (hi : i < n) (hnc : n ≤ c) (hroom : c < n + 1) (hbig : (n + 1) * 80 ≤ 140737488355328)
    (hcl : cs.length = n * 6) (hvl : vs.length = 6)
    (hcs : ∀ j v, cs[j]? = some v → w.cell? ⟨b, j, none⟩ = some v)
    (hvs : ∀ j v, vs[j]? = some v → w.cell? ⟨vb, voff + j, none⟩ = some v) (h1c : ∀ v ∈ cs, v.oneCell' = true) (h1v : ∀ v ∈ vs, v.oneCell' = true) :
    Calls Tryz.prog 86 #[.slice (some ⟨b, 0, none⟩) n c, .int .i64 i, .slice (some ⟨vb, voff, none⟩) 1 vc] w fun e w' =>
      e = .returned (.slice (some ⟨w.heap.size, 0, none⟩) (n + 1) (grownCap w (n + 1) c 40)) ∧
      w' = (((w.alloc (.cells ((cs.take (i * 6)).toArray ++ Builtin.zeroCells (Value.agg #[.int .i64 0, .int .i64 0, .int .i64 0, .slice none 0 0, .slice none 0 0, .int .i64 0]).cells (n + 1 - i) ++ Builtin.zeroCells (Value.agg #[.int .i64 0, .int .i64 0, .int .i64 0, .slice none 0 0, .slice none 0 0, .int .i64 0]).cells (grownCap w (n + 1) c 40 - (n + 1))) 40)).drew.setCells w.heap.size (i * 6) vs).drew).setCells w.heap.size ((i + 1) * 6) (cs.drop (i * 6)) := by
  have mixed : Tryz.prog.follows .mixedOrders = true := by kernel_rfl
  have t25 := Tryz.underlying25
  obtain ⟨i0, hi0, hzs, hz0, hzb⟩ : ∃ i0, Tryz.prog.info? 40 = some i0 ∧ i0.size = 6 ∧ i0.zero = some (.agg #[.int .i64 0, .int .i64 0, .int .i64 0, .slice none 0 0, .slice none 0 0, .int .i64 0]) ∧ i0.bytes = 80 := by
    have h0 : (Tryz.prog.info? 40).map (fun i => (i.size, i.zero, i.bytes)) = some (6, some (.agg #[.int .i64 0, .int .i64 0, .int .i64 0, .slice none 0 0, .slice none 0 0, .int .i64 0]), 80) := by kernel_rfl
    obtain ⟨i0, h1, h2⟩ := Option.map_eq_some_iff.1 h0
    injection h2 with h2 h3
    injection h3 with h3 h4
    exact ⟨i0, h1, h2, h3, h4⟩
  have hz2 : ¬ ((i : Int) = (n : Int)) := by omega
  have hz3 : (c : Int) < (n : Int) + 1 := by omega
  have hsz : (Tryz.prog.info? 40).map (·.size) = some 6 := by rw [hi0]; simp [hzs]
  have hbw : b < w.heap.size := block_lt_of_cell (hcs 0 _ (List.getElem?_eq_getElem (by omega)))
  have hvw : vb < w.heap.size := block_lt_of_cell (hvs 0 _ (List.getElem?_eq_getElem (by omega)))
  have hkk : (n : Int) + 1 - (i : Int) = ((n + 1 - i : Nat) : Int) := by omega
  have hik : i + (n + 1 - i) = n + 1 := by omega
  have hold : (Builtin.firstCells i0.size i (.slice (some ⟨b, 0, none⟩) i c)).run Tryz.prog w.drew = .ok (cs.take (i * 6)).toArray w.drew := by
    rw [hzs]
    exact run_firstCells_some w.drew 6 i ⟨b, 0, none⟩ i c (cs.take (i * 6)) (by rw [List.length_take]; omega) (fun j v hj => by
      rw [Addr.add_lit, Nat.zero_add]
      rw [List.getElem?_take] at hj
      split at hj
      · exact hcs j v hj
      · cases hj)
  have hrz : ∀ ty, (Builtin.append_ #[25, 3] ty #[.slice (some ⟨b, 0, none⟩) i c, .int .i64 ((n : Int) + 1 - (i : Int))]).run Tryz.prog w =
      .ok (.slice (some ⟨w.heap.size, 0, none⟩) (n + 1) (grownCap w (n + 1) c 40)) (w.drew.alloc (.cells ((cs.take (i * 6)).toArray ++ Builtin.zeroCells (Value.agg #[.int .i64 0, .int .i64 0, .int .i64 0, .slice none 0 0, .slice none 0 0, .int .i64 0]).cells (n + 1 - i) ++ Builtin.zeroCells (Value.agg #[.int .i64 0, .int .i64 0, .int .i64 0, .slice none 0 0, .slice none 0 0, .int .i64 0]).cells (grownCap w (n + 1) c 40 - (n + 1))) 40)) := fun ty => by
    have h := Lib.run_append_grow_zeros w 25 3 ty 40 i0 _ .i64 .i64 t25 Tryz.underlying3 hi0 hz0 (some ⟨b, 0, none⟩) i c (cs.take (i * 6)) hold (n + 1 - i) (by omega) (by omega) (by omega) (by omega) (by rw [hzb]; omega) (by rw [hzb, hik]; exact growslice_fits hroom hbig)
    rw [hik] at h
    rw [hkk]
    exact h
  obtain ⟨G, hG⟩ : ∃ G, G = grownCap w (n + 1) c 40 := ⟨_, rfl⟩
  obtain ⟨ROW, hROW⟩ : ∃ ROW : Array Value, ROW = (cs.take (i * 6)).toArray ++ Builtin.zeroCells (Value.agg #[.int .i64 0, .int .i64 0, .int .i64 0, .slice none 0 0, .slice none 0 0, .int .i64 0]).cells (n + 1 - i) ++ Builtin.zeroCells (Value.agg #[.int .i64 0, .int .i64 0, .int .i64 0, .slice none 0 0, .slice none 0 0, .int .i64 0]).cells (G - (n + 1)) := ⟨_, rfl⟩
  rw [← hG] at hrz ⊢
  rw [← hROW] at hrz ⊢
  have hRl : (n + 1) * 6 ≤ ROW.size := by
    rw [hROW]
    simp [Builtin.zeroCells, Value.cells]
    omega
  obtain ⟨W1, hW1⟩ : ∃ W1, W1 = w.drew.alloc (.cells ROW 40) := ⟨_, rfl⟩
  rw [← hW1] at hrz
  have hN : ∀ j, j < (n + 1) * 6 → (W1.cell? ⟨w.heap.size, j, none⟩).isSome = true := fun j hj => by
    rw [hW1, World.cell?_alloc_at (w := w.drew) ROW _ w.heap.size j rfl, Array.getElem?_eq_getElem (by omega)]; rfl
  have hNf : ∀ j, W1.frozen? ⟨w.heap.size, j, none⟩ = false := fun j => by rw [hW1]; exact World.frozen?_alloc_at (w := w.drew) ROW _ w.heap.size j rfl
  have hOb : ∀ j v, w.cell? ⟨b, j, none⟩ = some v → W1.cell? ⟨b, j, none⟩ = some v := fun j v h => by rw [hW1, World.cell?_alloc_past (w := w.drew) _ b j hbw]; exact h
  have hOv : ∀ j v, w.cell? ⟨vb, j, none⟩ = some v → W1.cell? ⟨vb, j, none⟩ = some v := fun j v h => by rw [hW1, World.cell?_alloc_past (w := w.drew) _ vb j hvw]; exact h
  have hcpA : ∀ (W : World), (∀ x, W.cell? x = W1.cell? x) → (∀ x, W.frozen? x = W1.frozen? x) → ∀ ty dc, (Builtin.copy_ #[25, 25] ty #[.slice (some ⟨w.heap.size, i * 6, none⟩) (n + 1 - i) dc, .slice (some ⟨vb, voff, none⟩) 1 vc]).run Tryz.prog W = .ok (goInt 1) (W.setCells w.heap.size (i * 6) vs) := fun W hWc hWf ty dc =>
    run_copyK W _ _ ty 40 6 w.heap.size (i * 6) (n + 1 - i) dc ⟨vb, voff, none⟩ 1 vc vs 1 t25 hsz (by simp only [Nat.min_def]; split <;> omega) (by omega)
      (fun j v hj => by rw [Addr.add_lit, hWc]; exact hOv _ v (hvs j v hj))
      (fun j hj => by rw [hWc]; exact hN (i * 6 + j) (by omega)) (fun j hj => by rw [hWf]; exact hNf _) h1v
  have hGn : n + 1 ≤ G := by rw [hG]; exact grownCap_ge w _ _ _
  have hG63 : G ≤ 9223372036854775807 := by
    have := grownCap_le_maxLen w (n + 1) c 40 (by unfold maxLen; omega)
    rw [← hG] at this
    unfold maxLen at this
    omega
  have hGi : ¬ (G = i) := by omega
  have hGim : ¬ (G = i + 1) := by omega
  have hci : ¬ (c = i) := by omega
  have hbN : b ≠ w.heap.size := by omega
  have hdl : (cs.drop (i * 6)).length = (n - i) * 6 := by rw [List.length_drop, hcl]; omega
  have hcpB : ∀ (W : World), (∀ x, W.cell? x = (W1.setCells w.heap.size (i * 6) vs).cell? x) → (∀ x, W.frozen? x = (W1.setCells w.heap.size (i * 6) vs).frozen? x) → ∀ ty dc sc, (Builtin.copy_ #[25, 25] ty #[.slice (some ⟨w.heap.size, (i + 1) * 6, none⟩) (n + 1 - (i + 1)) dc, .slice (some ⟨b, i * 6, none⟩) (n - i) sc]).run Tryz.prog W = .ok (goInt ((n - i : Nat) : Int)) (W.setCells w.heap.size ((i + 1) * 6) (cs.drop (i * 6))) := fun W hWc hWf ty dc sc =>
    run_copyK W _ _ ty 40 6 w.heap.size ((i + 1) * 6) (n + 1 - (i + 1)) dc ⟨b, i * 6, none⟩ (n - i) sc (cs.drop (i * 6)) (n - i) t25 hsz (by simp only [Nat.min_def]; split <;> omega) hdl
      (fun j v hj => by
        rw [Addr.add_lit, hWc, World.cell?_setCells_out _ _ _ _ _ (fun h _ => absurd h hbN)]
        exact hOb _ v (hcs (i * 6 + j) v (by rwa [List.getElem?_drop] at hj)))
      (fun j hj => by rw [hWc]; exact cell_setCells_some _ _ _ W1 (fun t ht => hN (i * 6 + t) (by omega)) _ (hN ((i + 1) * 6 + j) (by omega)))
      (fun j hj => by rw [hWf, World.frozen?_setCells]; exact hNf _) (fun v hv => h1c v (List.mem_of_mem_drop hv))
  subst hW1
  have hE1 : ∀ x, ((w.alloc (.cells ROW 40)).drew).cell? x = (w.drew.alloc (.cells ROW 40)).cell? x := fun x => rfl
  have hE2 : ∀ x, ((w.alloc (.cells ROW 40)).drew).frozen? x = (w.drew.alloc (.cells ROW 40)).frozen? x := fun x => rfl
  have hF1 : ∀ x, (((w.alloc (.cells ROW 40)).drew.setCells w.heap.size (i * 6) vs).drew).cell? x = ((w.drew.alloc (.cells ROW 40)).setCells w.heap.size (i * 6) vs).cell? x := fun x => rfl
  have hF2 : ∀ x, (((w.alloc (.cells ROW 40)).drew.setCells w.heap.size (i * 6) vs).drew).frozen? x = ((w.drew.alloc (.cells ROW 40)).setCells w.heap.size (i * 6) vs).frozen? x := fun x => rfl
  have hw1 : IntKind.i64.wrap ((i : Int) + 1) = (i : Int) + 1 := by rw [IntKind.wrap_i64]; omega
  have hb1 : (0 : Int) ≤ (i : Int) + 1 := by omega
  have hin : i ≤ n := by omega
  have htn : ((i : Int) + 1).toNat = i + 1 := by omega
  have hb3 : (i : Int) ≤ (n : Int) := by omega
  clear hkk hik hold hROW hG hRl hN hNf hOb hOv hcs hvs hdl hcl hvl
  go_enter Tryz.func86, Tryz.ntmps86
  go_wp2_with (first
    | (at_builtin; refine Lib.wpList_append_run _ rfl _ _ _ _ rfl _ _ rfl rfl _ _ (hrz _) ?_)
    | (at_builtin; refine wpList_copy_q _ rfl _ _ 25 25 rfl _ _ rfl rfl (hcpA _ hE1 hE2 _ _) ?_)
    | (at_builtin; refine wpList_copy_q _ rfl _ _ 25 25 rfl _ _ rfl rfl (hcpB _ (fun _ => rfl) (fun _ => rfl) _ _ _) ?_))
  go_region_law_o (refine step_copy_q rfl _ _ 25 25 rfl (.slice (some ⟨w.heap.size, (i + 1) * 6, none⟩) (n + 1 - (i + 1)) (G - (i + 1))) (.slice (some ⟨b, i * 6, none⟩) (n - i) (c - i)) (by simp [Act.eval, Act.put]) (by simp [Act.eval, Act.put]) (hcpB _ hF1 hF2 3 (G - (i + 1)) (c - i)) ?_)
  go_wp2
  go_ret
  exact ⟨rfl, rfl⟩
set_option maxHeartbeats 4000000 in
set_option maxRecDepth 100000 in
theorem ins87_shift (b n c i vb voff vc : Nat) (cs vs : List Value) (w : World) (hi : i < n) (hroom : n + 1 ≤ c) (hc63 : n + 1 ≤ 9223372036854775807) (hvb : vb ≠ b)
    (hcl : cs.length = n * 3) (hvl : vs.length = 3) (row : Array Value) (tB : TypeId) (hw : w.heap[b]? = some (.cells row tB (0, 0))) (hrow : c * 3 ≤ row.size)
    (hcs : ∀ j v, cs[j]? = some v → w.cell? ⟨b, j, none⟩ = some v)
    (hvs : ∀ j v, vs[j]? = some v → w.cell? ⟨vb, voff + j, none⟩ = some v) (h1c : ∀ v ∈ cs, v.oneCell' = true) (h1v : ∀ v ∈ vs, v.oneCell' = true) :
    Calls Tryz.prog 87 #[.slice (some ⟨b, 0, none⟩) n c, .int .i64 i, .slice (some ⟨vb, voff, none⟩) 1 vc] w fun e w' =>
      e = .returned (.slice (some ⟨b, 0, none⟩) (n + 1) c) ∧ w' = (w.drew.setCells b ((i + 1) * 3) (cs.drop (i * 3))).setCells b (i * 3) vs := by
  have mixed : Tryz.prog.follows .mixedOrders = true := by kernel_rfl
  have t25 := Tryz.underlying38
  have hz2 : ¬ ((i : Int) = (n : Int)) := by omega
  have hsz : (Tryz.prog.info? 54).map (·.size) = some 3 := by kernel_rfl
  have hsp : ∀ j, j < (n + 1) * 3 → (w.cell? ⟨b, j, none⟩).isSome = true := fun j hj => by
    have : (n + 1) * 3 ≤ row.size := Nat.le_trans (Nat.mul_le_mul_right _ hroom) hrow
    simp [World.cell?, hw, Array.getElem?_eq_getElem (show j < row.size by omega)]
  have hfz : ∀ j, w.frozen? ⟨b, j, none⟩ = false := fun j => by simp [World.frozen?, hw]
  obtain ⟨tA, kA, hsa⟩ : ∃ tA kA, w.shape? vb = some (tA, kA + 1) := by
    have h0 := hvs 0 _ (List.getElem?_eq_getElem (by omega))
    unfold World.cell? at h0
    unfold World.shape?
    split at h0
    · rename_i cc ee ff hb
      simp only [hb]
      simp at h0
      have := (Array.getElem?_eq_some_iff.1 h0).1
      exact ⟨ee, cc.size - 1, by simp; omega⟩
    · cases h0
  have hov : ∀ lb cb, (callFunc 116 #[.slice (some ⟨vb, voff, none⟩) 1 vc, .slice (some ⟨b, (i + 1) * 3, none⟩) lb cb]).run Tryz.prog w = .ok (.value (.bool false)) w := fun lb cb => by
    rw [run_callFunc_extern Tryz.func116 (by kernel_rfl) (by kernel_rfl) (by kernel_rfl) (e := Extern.SlicesOverlaps.overlaps #[38, 38] #[4]) (by kernel_rfl),
      run_overlaps_q w 38 4 54 t25 3 Tryz.sizeOf54 ⟨vb, voff, none⟩ ⟨b, (i + 1) * 3, none⟩ 1 vc lb cb hvb tA tB kA row hsa hw]
    rfl
  have hdl : (cs.drop (i * 3)).length = (n - i) * 3 := by rw [List.length_drop, hcl]; omega
  have hw1 : IntKind.i64.wrap ((i : Int) + 1) = (i : Int) + 1 := by rw [IntKind.wrap_i64]; omega
  have hb1 : (0 : Int) ≤ (i : Int) + 1 := by omega
  have hin : i ≤ n := by omega
  have htn : ((i : Int) + 1).toNat = i + 1 := by omega
  have hb2 : ¬ (c = i + 1) := by omega
  have hb3 : (i : Int) ≤ (n : Int) + 1 := by omega
  have hb4 : ¬ (c = i) := by omega
  have hcp1 : ∀ ty dc sc, (Builtin.copy_ #[38, 38] ty #[.slice (some ⟨b, (i + 1) * 3, none⟩) (n - i) dc, .slice (some ⟨b, i * 3, none⟩) (n + 1 - i) sc]).run Tryz.prog w.drew = .ok (goInt ((n - i : Nat) : Int)) (w.drew.setCells b ((i + 1) * 3) (cs.drop (i * 3))) := fun ty dc sc =>
    run_copyK w.drew _ _ ty 54 3 b ((i + 1) * 3) (n - i) dc ⟨b, i * 3, none⟩ (n + 1 - i) sc (cs.drop (i * 3)) (n - i) t25 hsz (by simp only [Nat.min_def]; split <;> omega) hdl
      (fun j v hj => by rw [Addr.add_lit]; exact hcs (i * 3 + j) v (by rwa [List.getElem?_drop] at hj))
      (fun j hj => hsp ((i + 1) * 3 + j) (by omega)) (fun j hj => hfz _) (fun v hv => h1c v (List.mem_of_mem_drop hv))
  obtain ⟨W1, hW1⟩ : ∃ W1, W1 = w.drew.setCells b ((i + 1) * 3) (cs.drop (i * 3)) := ⟨_, rfl⟩
  have hsp1 : ∀ q, q < (n + 1) * 3 → (W1.cell? ⟨b, q, none⟩).isSome = true := fun q hq => by
    rw [hW1]
    exact cell_setCells_some b _ _ w.drew (fun j hj => hsp ((i + 1) * 3 + j) (by omega)) _ (hsp q hq)
  have hcp2 : ∀ (W : World), (∀ x, W.cell? x = W1.cell? x) → (∀ x, W.frozen? x = W1.frozen? x) → ∀ ty dc, (Builtin.copy_ #[38, 38] ty #[.slice (some ⟨b, i * 3, none⟩) (n + 1 - i) dc, .slice (some ⟨vb, voff, none⟩) 1 vc]).run Tryz.prog W = .ok (goInt 1) (W.setCells b (i * 3) vs) := fun W hWc hWf ty dc =>
    run_copyK W _ _ ty 54 3 b (i * 3) (n + 1 - i) dc ⟨vb, voff, none⟩ 1 vc vs 1 t25 hsz (by simp only [Nat.min_def]; split <;> omega) (by omega)
      (fun j v hj => by
        rw [Addr.add_lit, hWc, hW1, World.cell?_setCells_out b _ _ _ _ (fun h _ => absurd h hvb)]
        exact hvs j v hj)
      (fun j hj => by rw [hWc]; exact hsp1 (i * 3 + j) (by omega)) (fun j hj => by rw [hWf, hW1, World.frozen?_setCells]; exact hfz _) h1v
  rw [← hW1] at hcp1
  have hWq : Hid (W1 = w.drew.setCells b ((i + 1) * 3) (cs.drop (i * 3))) := hW1
  clear hW1 hw hrow hsa hsp hfz hcs hvs hdl hcl hvl
  go_enter Tryz.func87, Tryz.ntmps87
  go_wp2_with (simp only [hov])
  go_region_law_o (refine step_copy_q rfl _ _ 38 38 rfl _ _ (by simp [Act.eval, Act.put]) (by simp [Act.eval, Act.put]) (hcp1 _ _ _) ?_)
  go_wp2_with (at_builtin; refine wpList_copy_q _ rfl _ _ 38 38 rfl _ _ rfl rfl (hcp2 _ (fun _ => rfl) (fun _ => rfl) _ _) ?_)
  go_ret
  exact ⟨rfl, by rw [← hWq.out]⟩
set_option maxHeartbeats 4000000 in
set_option maxRecDepth 100000 in
theorem ins87_end_room (b n c vb voff vc : Nat) (vs : List Value) (w : World) (hroom : n + 1 ≤ c) (hc63 : n + 1 ≤ 9223372036854775807)
    (hvl : vs.length = 3) (row : Array Value) (tB : TypeId) (hw : w.heap[b]? = some (.cells row tB (0, 0))) (hrow : c * 3 ≤ row.size)
    (hvs : ∀ j v, vs[j]? = some v → w.cell? ⟨vb, voff + j, none⟩ = some v) (h1v : ∀ v ∈ vs, v.oneCell' = true) :
    Calls Tryz.prog 87 #[.slice (some ⟨b, 0, none⟩) n c, .int .i64 n, .slice (some ⟨vb, voff, none⟩) 1 vc] w fun e w' =>
      e = .returned (.slice (some ⟨b, 0, none⟩) (n + 1) c) ∧ w' = w.setCells b (n * 3) vs := by
  have t25 := Tryz.underlying38
  obtain ⟨i0, hi0, hz1⟩ : ∃ i0, Tryz.prog.info? 54 = some i0 ∧ i0.size = 3 := by
    have h0 : (Tryz.prog.info? 54).map (fun i => i.size) = some 3 := by kernel_rfl
    obtain ⟨i0, h1, h2⟩ := Option.map_eq_some_iff.1 h0
    exact ⟨i0, h1, h2⟩
  have hfz : ∀ j, w.frozen? ⟨b, j, none⟩ = false := fun j => by simp [World.frozen?, hw]
  have hrun : ∀ ty, (Builtin.append_ #[38, 38] ty #[.slice (some ⟨b, 0, none⟩) n c, .slice (some ⟨vb, voff, none⟩) 1 vc]).run Tryz.prog w = .ok (.slice (some ⟨b, 0, none⟩) (n + 1) c) (w.setCells b (n * 3) vs) := fun ty => by
    have h := run_append_room_cells (P := Tryz.prog) w 38 ty 54 i0 t25 hi0 b 0 n c ⟨vb, voff, none⟩ 1 vc vs (by rw [hz1, hvl]) (fun j u hj => by rw [Addr.add_lit]; exact hvs j u hj) h1v hroom
      (fun j hj => by
        have : (n + 1) * 3 ≤ row.size := Nat.le_trans (Nat.mul_le_mul_right _ hroom) hrow
        rw [hz1]
        simp [World.cell?, hw, Array.getElem?_eq_getElem (show n * 3 + j < row.size by omega)]) (fun j hj => hfz _)
    rw [hz1, Nat.zero_add] at h
    exact h
  clear hfz hw hrow hvs
  go_enter Tryz.func87, Tryz.ntmps87
  go_wp2_with (at_builtin; refine Lib.wpList_append_run _ rfl _ _ _ _ rfl _ _ rfl rfl _ _ (hrun _) ?_)
  all_goals (go_ret; exact ⟨rfl, rfl⟩)
set_option maxHeartbeats 4000000 in
set_option maxRecDepth 100000 in
theorem ins87_end_grow (base : Option Addr) (n c vb voff vc : Nat) (cs vs : List Value) (w : World) (hnc : n ≤ c) (hroom : c < n + 1) (hbig : (n + 1) * 32 ≤ 140737488355328)
    (hcl : cs.length = n * 3) (hvl : vs.length = 3) (hnil : base = none → n = 0)
    (hcs : ∀ a, base = some a → ∀ j v, cs[j]? = some v → w.cell? (a.add j) = some v)
    (hvs : ∀ j v, vs[j]? = some v → w.cell? ⟨vb, voff + j, none⟩ = some v) (h1v : ∀ v ∈ vs, v.oneCell' = true) :
    Calls Tryz.prog 87 #[.slice base n c, .int .i64 n, .slice (some ⟨vb, voff, none⟩) 1 vc] w fun e w' =>
      e = .returned (.slice (some ⟨w.heap.size, 0, none⟩) (n + 1) (grownCap w (n + 1) c 54)) ∧
      w' = w.drew.alloc (.cells ((cs ++ vs).toArray ++ Builtin.zeroCells (Value.agg #[.string ⟨#[]⟩, .int .i64 0, .int .i64 0]).cells (grownCap w (n + 1) c 54 - (n + 1))) 54) := by
  have t25 := Tryz.underlying38
  obtain ⟨i0, hi0, hzs, hz0, hzb⟩ : ∃ i0, Tryz.prog.info? 54 = some i0 ∧ i0.size = 3 ∧ i0.zero = some (.agg #[.string ⟨#[]⟩, .int .i64 0, .int .i64 0]) ∧ i0.bytes = 32 := by
    have h0 : (Tryz.prog.info? 54).map (fun i => (i.size, i.zero, i.bytes)) = some (3, some (.agg #[.string ⟨#[]⟩, .int .i64 0, .int .i64 0]), 32) := by kernel_rfl
    obtain ⟨i0, h1, h2⟩ := Option.map_eq_some_iff.1 h0
    injection h2 with h2 h3
    injection h3 with h3 h4
    exact ⟨i0, h1, h2, h3, h4⟩
  have hsrc : Src Tryz.prog i0.size 38 (.slice (some ⟨vb, voff, none⟩) 1 vc) 1 vs w := by
    rw [hzs]
    exact Src.ofSlice w t25 ⟨vb, voff, none⟩ 1 vc vs (by omega) (fun j u hj => by rw [Addr.add_lit]; exact hvs j u hj) h1v
  have hold : (Builtin.firstCells i0.size n (.slice base n c)).run Tryz.prog w.drew = .ok cs.toArray w.drew := by
    rw [hzs]
    cases base with
    | none =>
      have h0 := hnil rfl
      subst h0
      rw [List.length_eq_zero_iff.1 (by omega : cs.length = 0)]
      exact run_firstCells_none w.drew 3 0 0 c
    | some a => exact run_firstCells_some w.drew 3 n a n c cs (by omega) (fun j v hj => hcs a rfl j v hj)
  have hrun : ∀ ty, (Builtin.append_ #[38, 38] ty #[.slice base n c, .slice (some ⟨vb, voff, none⟩) 1 vc]).run Tryz.prog w = _ := fun ty =>
    run_append_grow_src w 38 38 ty 54 i0 _ t25 hi0 hz0 base n c cs hold _ 1 vs hsrc hroom (by omega) (by rw [hzb]; exact growslice_fits hroom hbig)
  clear hold hsrc hcs hvs
  go_enter Tryz.func87, Tryz.ntmps87
  cases base with
  | none =>
    have h0 := hnil rfl
    subst h0
    go_wp2_with (at_builtin; refine Lib.wpList_append_run _ rfl _ _ _ _ rfl _ _ rfl rfl _ _ (hrun _) ?_)
    go_ret
    exact ⟨rfl, rfl⟩
  | some a =>
    obtain ⟨ab, ao, asp⟩ := a
    go_wp2_with (at_builtin; refine Lib.wpList_append_run _ rfl _ _ _ _ rfl _ _ rfl rfl _ _ (hrun _) ?_)
    all_goals (go_ret; exact ⟨rfl, rfl⟩)
set_option maxHeartbeats 4000000 in
set_option maxRecDepth 100000 in
theorem ins87_grow (b n c i vb voff vc : Nat) (cs vs : List Value) (w : World) (hi : i < n) (hnc : n ≤ c) (hroom : c < n + 1) (hbig : (n + 1) * 32 ≤ 140737488355328)
    (hcl : cs.length = n * 3) (hvl : vs.length = 3)
    (hcs : ∀ j v, cs[j]? = some v → w.cell? ⟨b, j, none⟩ = some v)
    (hvs : ∀ j v, vs[j]? = some v → w.cell? ⟨vb, voff + j, none⟩ = some v) (h1c : ∀ v ∈ cs, v.oneCell' = true) (h1v : ∀ v ∈ vs, v.oneCell' = true) :
    Calls Tryz.prog 87 #[.slice (some ⟨b, 0, none⟩) n c, .int .i64 i, .slice (some ⟨vb, voff, none⟩) 1 vc] w fun e w' =>
      e = .returned (.slice (some ⟨w.heap.size, 0, none⟩) (n + 1) (grownCap w (n + 1) c 54)) ∧
      w' = (((w.alloc (.cells ((cs.take (i * 3)).toArray ++ Builtin.zeroCells (Value.agg #[.string ⟨#[]⟩, .int .i64 0, .int .i64 0]).cells (n + 1 - i) ++ Builtin.zeroCells (Value.agg #[.string ⟨#[]⟩, .int .i64 0, .int .i64 0]).cells (grownCap w (n + 1) c 54 - (n + 1))) 54)).drew.setCells w.heap.size (i * 3) vs).drew).setCells w.heap.size ((i + 1) * 3) (cs.drop (i * 3)) := by
  have mixed : Tryz.prog.follows .mixedOrders = true := by kernel_rfl
  have t25 := Tryz.underlying38
  obtain ⟨i0, hi0, hzs, hz0, hzb⟩ : ∃ i0, Tryz.prog.info? 54 = some i0 ∧ i0.size = 3 ∧ i0.zero = some (.agg #[.string ⟨#[]⟩, .int .i64 0, .int .i64 0]) ∧ i0.bytes = 32 := by
    have h0 : (Tryz.prog.info? 54).map (fun i => (i.size, i.zero, i.bytes)) = some (3, some (.agg #[.string ⟨#[]⟩, .int .i64 0, .int .i64 0]), 32) := by kernel_rfl
    obtain ⟨i0, h1, h2⟩ := Option.map_eq_some_iff.1 h0
    injection h2 with h2 h3
    injection h3 with h3 h4
    exact ⟨i0, h1, h2, h3, h4⟩
  have hz2 : ¬ ((i : Int) = (n : Int)) := by omega
  have hz3 : (c : Int) < (n : Int) + 1 := by omega
  have hsz : (Tryz.prog.info? 54).map (·.size) = some 3 := by rw [hi0]; simp [hzs]
  have hbw : b < w.heap.size := block_lt_of_cell (hcs 0 _ (List.getElem?_eq_getElem (by omega)))
  have hvw : vb < w.heap.size := block_lt_of_cell (hvs 0 _ (List.getElem?_eq_getElem (by omega)))
  have hkk : (n : Int) + 1 - (i : Int) = ((n + 1 - i : Nat) : Int) := by omega
  have hik : i + (n + 1 - i) = n + 1 := by omega
  have hold : (Builtin.firstCells i0.size i (.slice (some ⟨b, 0, none⟩) i c)).run Tryz.prog w.drew = .ok (cs.take (i * 3)).toArray w.drew := by
    rw [hzs]
    exact run_firstCells_some w.drew 3 i ⟨b, 0, none⟩ i c (cs.take (i * 3)) (by rw [List.length_take]; omega) (fun j v hj => by
      rw [Addr.add_lit, Nat.zero_add]
      rw [List.getElem?_take] at hj
      split at hj
      · exact hcs j v hj
      · cases hj)
  have hrz : ∀ ty, (Builtin.append_ #[38, 3] ty #[.slice (some ⟨b, 0, none⟩) i c, .int .i64 ((n : Int) + 1 - (i : Int))]).run Tryz.prog w =
      .ok (.slice (some ⟨w.heap.size, 0, none⟩) (n + 1) (grownCap w (n + 1) c 54)) (w.drew.alloc (.cells ((cs.take (i * 3)).toArray ++ Builtin.zeroCells (Value.agg #[.string ⟨#[]⟩, .int .i64 0, .int .i64 0]).cells (n + 1 - i) ++ Builtin.zeroCells (Value.agg #[.string ⟨#[]⟩, .int .i64 0, .int .i64 0]).cells (grownCap w (n + 1) c 54 - (n + 1))) 54)) := fun ty => by
    have h := Lib.run_append_grow_zeros w 38 3 ty 54 i0 _ .i64 .i64 t25 Tryz.underlying3 hi0 hz0 (some ⟨b, 0, none⟩) i c (cs.take (i * 3)) hold (n + 1 - i) (by omega) (by omega) (by omega) (by omega) (by rw [hzb]; omega) (by rw [hzb, hik]; exact growslice_fits hroom hbig)
    rw [hik] at h
    rw [hkk]
    exact h
  obtain ⟨G, hG⟩ : ∃ G, G = grownCap w (n + 1) c 54 := ⟨_, rfl⟩
  obtain ⟨ROW, hROW⟩ : ∃ ROW : Array Value, ROW = (cs.take (i * 3)).toArray ++ Builtin.zeroCells (Value.agg #[.string ⟨#[]⟩, .int .i64 0, .int .i64 0]).cells (n + 1 - i) ++ Builtin.zeroCells (Value.agg #[.string ⟨#[]⟩, .int .i64 0, .int .i64 0]).cells (G - (n + 1)) := ⟨_, rfl⟩
  rw [← hG] at hrz ⊢
  rw [← hROW] at hrz ⊢
  have hRl : (n + 1) * 3 ≤ ROW.size := by
    rw [hROW]
    simp [Builtin.zeroCells, Value.cells]
    omega
  obtain ⟨W1, hW1⟩ : ∃ W1, W1 = w.drew.alloc (.cells ROW 54) := ⟨_, rfl⟩
  rw [← hW1] at hrz
  have hN : ∀ j, j < (n + 1) * 3 → (W1.cell? ⟨w.heap.size, j, none⟩).isSome = true := fun j hj => by
    rw [hW1, World.cell?_alloc_at (w := w.drew) ROW _ w.heap.size j rfl, Array.getElem?_eq_getElem (by omega)]; rfl
  have hNf : ∀ j, W1.frozen? ⟨w.heap.size, j, none⟩ = false := fun j => by rw [hW1]; exact World.frozen?_alloc_at (w := w.drew) ROW _ w.heap.size j rfl
  have hOb : ∀ j v, w.cell? ⟨b, j, none⟩ = some v → W1.cell? ⟨b, j, none⟩ = some v := fun j v h => by rw [hW1, World.cell?_alloc_past (w := w.drew) _ b j hbw]; exact h
  have hOv : ∀ j v, w.cell? ⟨vb, j, none⟩ = some v → W1.cell? ⟨vb, j, none⟩ = some v := fun j v h => by rw [hW1, World.cell?_alloc_past (w := w.drew) _ vb j hvw]; exact h
  have hcpA : ∀ (W : World), (∀ x, W.cell? x = W1.cell? x) → (∀ x, W.frozen? x = W1.frozen? x) → ∀ ty dc, (Builtin.copy_ #[38, 38] ty #[.slice (some ⟨w.heap.size, i * 3, none⟩) (n + 1 - i) dc, .slice (some ⟨vb, voff, none⟩) 1 vc]).run Tryz.prog W = .ok (goInt 1) (W.setCells w.heap.size (i * 3) vs) := fun W hWc hWf ty dc =>
    run_copyK W _ _ ty 54 3 w.heap.size (i * 3) (n + 1 - i) dc ⟨vb, voff, none⟩ 1 vc vs 1 t25 hsz (by simp only [Nat.min_def]; split <;> omega) (by omega)
      (fun j v hj => by rw [Addr.add_lit, hWc]; exact hOv _ v (hvs j v hj))
      (fun j hj => by rw [hWc]; exact hN (i * 3 + j) (by omega)) (fun j hj => by rw [hWf]; exact hNf _) h1v
  have hGn : n + 1 ≤ G := by rw [hG]; exact grownCap_ge w _ _ _
  have hG63 : G ≤ 9223372036854775807 := by
    have := grownCap_le_maxLen w (n + 1) c 54 (by unfold maxLen; omega)
    rw [← hG] at this
    unfold maxLen at this
    omega
  have hGi : ¬ (G = i) := by omega
  have hGim : ¬ (G = i + 1) := by omega
  have hci : ¬ (c = i) := by omega
  have hbN : b ≠ w.heap.size := by omega
  have hdl : (cs.drop (i * 3)).length = (n - i) * 3 := by rw [List.length_drop, hcl]; omega
  have hcpB : ∀ (W : World), (∀ x, W.cell? x = (W1.setCells w.heap.size (i * 3) vs).cell? x) → (∀ x, W.frozen? x = (W1.setCells w.heap.size (i * 3) vs).frozen? x) → ∀ ty dc sc, (Builtin.copy_ #[38, 38] ty #[.slice (some ⟨w.heap.size, (i + 1) * 3, none⟩) (n + 1 - (i + 1)) dc, .slice (some ⟨b, i * 3, none⟩) (n - i) sc]).run Tryz.prog W = .ok (goInt ((n - i : Nat) : Int)) (W.setCells w.heap.size ((i + 1) * 3) (cs.drop (i * 3))) := fun W hWc hWf ty dc sc =>
    run_copyK W _ _ ty 54 3 w.heap.size ((i + 1) * 3) (n + 1 - (i + 1)) dc ⟨b, i * 3, none⟩ (n - i) sc (cs.drop (i * 3)) (n - i) t25 hsz (by simp only [Nat.min_def]; split <;> omega) hdl
      (fun j v hj => by
        rw [Addr.add_lit, hWc, World.cell?_setCells_out _ _ _ _ _ (fun h _ => absurd h hbN)]
        exact hOb _ v (hcs (i * 3 + j) v (by rwa [List.getElem?_drop] at hj)))
      (fun j hj => by rw [hWc]; exact cell_setCells_some _ _ _ W1 (fun t ht => hN (i * 3 + t) (by omega)) _ (hN ((i + 1) * 3 + j) (by omega)))
      (fun j hj => by rw [hWf, World.frozen?_setCells]; exact hNf _) (fun v hv => h1c v (List.mem_of_mem_drop hv))
  subst hW1
  have hE1 : ∀ x, ((w.alloc (.cells ROW 54)).drew).cell? x = (w.drew.alloc (.cells ROW 54)).cell? x := fun x => rfl
  have hE2 : ∀ x, ((w.alloc (.cells ROW 54)).drew).frozen? x = (w.drew.alloc (.cells ROW 54)).frozen? x := fun x => rfl
  have hF1 : ∀ x, (((w.alloc (.cells ROW 54)).drew.setCells w.heap.size (i * 3) vs).drew).cell? x = ((w.drew.alloc (.cells ROW 54)).setCells w.heap.size (i * 3) vs).cell? x := fun x => rfl
  have hF2 : ∀ x, (((w.alloc (.cells ROW 54)).drew.setCells w.heap.size (i * 3) vs).drew).frozen? x = ((w.drew.alloc (.cells ROW 54)).setCells w.heap.size (i * 3) vs).frozen? x := fun x => rfl
  have hw1 : IntKind.i64.wrap ((i : Int) + 1) = (i : Int) + 1 := by rw [IntKind.wrap_i64]; omega
  have hb1 : (0 : Int) ≤ (i : Int) + 1 := by omega
  have hin : i ≤ n := by omega
  have htn : ((i : Int) + 1).toNat = i + 1 := by omega
  have hb3 : (i : Int) ≤ (n : Int) := by omega
  clear hkk hik hold hROW hG hRl hN hNf hOb hOv hcs hvs hdl hcl hvl
  go_enter Tryz.func87, Tryz.ntmps87
  go_wp2_with (first
    | (at_builtin; refine Lib.wpList_append_run _ rfl _ _ _ _ rfl _ _ rfl rfl _ _ (hrz _) ?_)
    | (at_builtin; refine wpList_copy_q _ rfl _ _ 38 38 rfl _ _ rfl rfl (hcpA _ hE1 hE2 _ _) ?_)
    | (at_builtin; refine wpList_copy_q _ rfl _ _ 38 38 rfl _ _ rfl rfl (hcpB _ (fun _ => rfl) (fun _ => rfl) _ _ _) ?_))
  go_region_law_o (refine step_copy_q rfl _ _ 38 38 rfl (.slice (some ⟨w.heap.size, (i + 1) * 3, none⟩) (n + 1 - (i + 1)) (G - (i + 1))) (.slice (some ⟨b, i * 3, none⟩) (n - i) (c - i)) (by simp [Act.eval, Act.put]) (by simp [Act.eval, Act.put]) (hcpB _ hF1 hF2 3 (G - (i + 1)) (c - i)) ?_)
  go_wp2
  go_ret
  exact ⟨rfl, rfl⟩
end Go.Proofs.YtnapockikkbkcaaGreat
namespace Go.Proofs.YtnapockikkbkcaaGreat
open Go Go.RowKit Go.Lib
set_option maxHeartbeats 2000000 in
set_option maxRecDepth 100000 in
theorem clone58 (b off n c : Nat) (news : List Value) (w : World) (hl : news.length = n * 3) (hn : n ≤ maxLen) (hbig : n * 32 ≤ 140737488355328)
    (hc : ∀ j u, news[j]? = some u → w.cell? ⟨b, off + j, none⟩ = some u) (h1 : ∀ u ∈ news, u.oneCell' = true) :
    Calls Tryz.prog 58 #[.slice (some ⟨b, off, none⟩) n c] w fun e w' => ∃ v', e = .returned v' ∧ w'.ownsRow w.heap.size 54 3 v' n news ∧ v' ≠ .slice none 0 0 ∧ Below w.heap.size w w' := by
  have mixed : Tryz.prog.follows .mixedOrders = true := by kernel_rfl
  have t22 := Tryz.underlying38
  obtain ⟨i0, hi, hz1, hz0, hz2⟩ : ∃ i0, Tryz.prog.info? 54 = some i0 ∧ i0.size = 3 ∧ i0.zero = some (.agg #[.string ⟨#[]⟩, .int .i64 0, .int .i64 0]) ∧ i0.bytes = 32 := by
    have h0 : (Tryz.prog.info? 54).map (fun i => (i.size, i.zero, i.bytes)) = some (3, some (.agg #[.string ⟨#[]⟩, .int .i64 0, .int .i64 0]), 32) := by kernel_rfl
    obtain ⟨i0, h1, h2⟩ := Option.map_eq_some_iff.1 h0
    injection h2 with h2 h3
    injection h3 with h3 h4
    exact ⟨i0, h1, h2, h3, h4⟩
  have q22 : ∀ (w : World) (a : Option Addr) (n c n' c' : Nat), (binOp .eql 38 (.slice a n c) (.slice none n' c')).run Tryz.prog w = .ok (.bool a.isNone) w := fun w a n c n' c' => Lib.run_eql_slice_nil w _ _ a n c n' c' t22
  have u22 : ∀ w, Sem.run Tryz.prog (underlying 38) w = .ok (TypeDesc.slice 54) w := run_underlying t22
  have A : Aside (∀ j u, news[j]? = some u → w.cell? ⟨b, off + j, none⟩ = some u) := hc
  clear hc
  go_enter Tryz.func58, Tryz.ntmps58
  go_wp2_with (at_builtin; refine wpList_append_own _ rfl _ _ 38 rfl w.heap.size 54 i0 (.agg #[.string ⟨#[]⟩, .int .i64 0, .int .i64 0]) 3 32 t22 hi hz0 hz1 hz2 rfl (by omega) _ _ _ rfl (World.ownsRow_made w #[] 0 (Nat.le_refl _) (Nat.zero_le _) (by simp)) ⟨b, off, none⟩ n c news rfl ?qc1 ?qc2 ?qc3 ?qc4 ?qc5 ?qc6 ?_)
  case qc1 => exact hl
  case qc2 =>
    intro j u hj
    rw [Addr.add_lit]
    exact Lib.cell?_alloc_some _ (A.out j u hj)
  case qc3 => exact h1
  case qc4 => rw [Nat.zero_add]; exact hn
  case qc5 => rw [Nat.zero_add]; exact hbig
  case qc6 => simp
  intro v' w1 hown hgrow hnil
  go_wp2
  go_ret
  refine ⟨v', rfl, by simpa using hown, ?_, ?_⟩
  · exact hnil
  · exact ((Below.refl _ w).alloc (Nat.le_refl _) _).grown hgrow (by simp) (by intro k hk; simp [Value.ownBlock] at hk; omega)
set_option maxHeartbeats 2000000 in
set_option maxRecDepth 100000 in
theorem clone58_none (A : Option Addr) (c : Nat) (w : World) :
    Calls Tryz.prog 58 #[.slice A 0 c] w fun e w' => (∃ B, e = .returned (.slice B 0 0)) ∧ Below w.heap.size w w' := by
  have mixed : Tryz.prog.follows .mixedOrders = true := by kernel_rfl
  have t22 := Tryz.underlying38
  have q22 : ∀ (w : World) (a : Option Addr) (n c n' c' : Nat), (binOp .eql 38 (.slice a n c) (.slice none n' c')).run Tryz.prog w = .ok (.bool a.isNone) w := fun w a n c n' c' => Lib.run_eql_slice_nil w _ _ a n c n' c' t22
  have u22 : ∀ w, Sem.run Tryz.prog (underlying 38) w = .ok (TypeDesc.slice 54) w := run_underlying t22
  cases A with
  | none =>
    go_enter Tryz.func58, Tryz.ntmps58
    go_wp2
    go_ret
    exact ⟨⟨_, rfl⟩, Below.refl _ _⟩
  | some a =>
    have hrun : ∀ ty, (Builtin.append_ #[38, 38] ty #[.slice (some ⟨w.heap.size, 0, none⟩) 0 0, .slice (some a) 0 c]).run Tryz.prog (w.alloc (.cells #[] 54)) = .ok (.slice (some ⟨w.heap.size, 0, none⟩) 0 0) (w.alloc (.cells #[] 54)) := fun ty => by
      have hs := Tryz.sizeOf54
      simp [Builtin.append_, run_underlying t22, hs, Builtin.lenOf, Builtin.firstCells, loadCells, loadCellsFrom, storeCells]
    go_enter Tryz.func58, Tryz.ntmps58
    go_wp2_with (at_builtin; refine Lib.wpList_append_run _ rfl _ _ _ _ rfl _ _ rfl rfl _ _ (hrun _) ?_)
    go_ret
    exact ⟨⟨_, rfl⟩, (Below.refl _ w).alloc (Nat.le_refl _) _⟩
set_option maxHeartbeats 2000000 in
set_option maxRecDepth 100000 in
theorem clone85 (b off n c : Nat) (news : List Value) (w : World) (hl : news.length = n * 6) (hn : n ≤ maxLen) (hbig : n * 80 ≤ 140737488355328)
    (hc : ∀ j u, news[j]? = some u → w.cell? ⟨b, off + j, none⟩ = some u) (h1 : ∀ u ∈ news, u.oneCell' = true) :
    Calls Tryz.prog 85 #[.slice (some ⟨b, off, none⟩) n c] w fun e w' => ∃ v', e = .returned v' ∧ w'.ownsRow w.heap.size 40 6 v' n news ∧ v' ≠ .slice none 0 0 ∧ Below w.heap.size w w' := by
  have mixed : Tryz.prog.follows .mixedOrders = true := by kernel_rfl
  have t22 := Tryz.underlying25
  obtain ⟨i0, hi, hz1, hz0, hz2⟩ : ∃ i0, Tryz.prog.info? 40 = some i0 ∧ i0.size = 6 ∧ i0.zero = some (.agg #[.int .i64 0, .int .i64 0, .int .i64 0, .slice none 0 0, .slice none 0 0, .int .i64 0]) ∧ i0.bytes = 80 := by
    have h0 : (Tryz.prog.info? 40).map (fun i => (i.size, i.zero, i.bytes)) = some (6, some (.agg #[.int .i64 0, .int .i64 0, .int .i64 0, .slice none 0 0, .slice none 0 0, .int .i64 0]), 80) := by kernel_rfl
    obtain ⟨i0, h1, h2⟩ := Option.map_eq_some_iff.1 h0
    injection h2 with h2 h3
    injection h3 with h3 h4
    exact ⟨i0, h1, h2, h3, h4⟩
  have q22 : ∀ (w : World) (a : Option Addr) (n c n' c' : Nat), (binOp .eql 25 (.slice a n c) (.slice none n' c')).run Tryz.prog w = .ok (.bool a.isNone) w := fun w a n c n' c' => Lib.run_eql_slice_nil w _ _ a n c n' c' t22
  have u22 : ∀ w, Sem.run Tryz.prog (underlying 25) w = .ok (TypeDesc.slice 40) w := run_underlying t22
  have A : Aside (∀ j u, news[j]? = some u → w.cell? ⟨b, off + j, none⟩ = some u) := hc
  clear hc
  go_enter Tryz.func85, Tryz.ntmps85
  go_wp2_with (at_builtin; refine wpList_append_own _ rfl _ _ 25 rfl w.heap.size 40 i0 (.agg #[.int .i64 0, .int .i64 0, .int .i64 0, .slice none 0 0, .slice none 0 0, .int .i64 0]) 6 80 t22 hi hz0 hz1 hz2 rfl (by omega) _ _ _ rfl (World.ownsRow_made w #[] 0 (Nat.le_refl _) (Nat.zero_le _) (by simp)) ⟨b, off, none⟩ n c news rfl ?qc1 ?qc2 ?qc3 ?qc4 ?qc5 ?qc6 ?_)
  case qc1 => exact hl
  case qc2 =>
    intro j u hj
    rw [Addr.add_lit]
    exact Lib.cell?_alloc_some _ (A.out j u hj)
  case qc3 => exact h1
  case qc4 => rw [Nat.zero_add]; exact hn
  case qc5 => rw [Nat.zero_add]; exact hbig
  case qc6 => simp
  intro v' w1 hown hgrow hnil
  go_wp2
  go_ret
  refine ⟨v', rfl, by simpa using hown, ?_, ?_⟩
  · exact hnil
  · exact ((Below.refl _ w).alloc (Nat.le_refl _) _).grown hgrow (by simp) (by intro k hk; simp [Value.ownBlock] at hk; omega)
set_option maxHeartbeats 2000000 in
set_option maxRecDepth 100000 in
theorem clone85_none (A : Option Addr) (c : Nat) (w : World) :
    Calls Tryz.prog 85 #[.slice A 0 c] w fun e w' => (∃ B, e = .returned (.slice B 0 0)) ∧ Below w.heap.size w w' := by
  have mixed : Tryz.prog.follows .mixedOrders = true := by kernel_rfl
  have t22 := Tryz.underlying25
  have q22 : ∀ (w : World) (a : Option Addr) (n c n' c' : Nat), (binOp .eql 25 (.slice a n c) (.slice none n' c')).run Tryz.prog w = .ok (.bool a.isNone) w := fun w a n c n' c' => Lib.run_eql_slice_nil w _ _ a n c n' c' t22
  have u22 : ∀ w, Sem.run Tryz.prog (underlying 25) w = .ok (TypeDesc.slice 40) w := run_underlying t22
  cases A with
  | none =>
    go_enter Tryz.func85, Tryz.ntmps85
    go_wp2
    go_ret
    exact ⟨⟨_, rfl⟩, Below.refl _ _⟩
  | some a =>
    have hrun : ∀ ty, (Builtin.append_ #[25, 25] ty #[.slice (some ⟨w.heap.size, 0, none⟩) 0 0, .slice (some a) 0 c]).run Tryz.prog (w.alloc (.cells #[] 40)) = .ok (.slice (some ⟨w.heap.size, 0, none⟩) 0 0) (w.alloc (.cells #[] 40)) := fun ty => by
      have hs := Tryz.sizeOf40
      simp [Builtin.append_, run_underlying t22, hs, Builtin.lenOf, Builtin.firstCells, loadCells, loadCellsFrom, storeCells]
    go_enter Tryz.func85, Tryz.ntmps85
    go_wp2_with (at_builtin; refine Lib.wpList_append_run _ rfl _ _ _ _ rfl _ _ rfl rfl _ _ (hrun _) ?_)
    go_ret
    exact ⟨⟨_, rfl⟩, (Below.refl _ w).alloc (Nat.le_refl _) _⟩
set_option maxHeartbeats 2000000 in
set_option maxRecDepth 100000 in
theorem clone107 (b off n c : Nat) (news : List Value) (w : World) (hl : news.length = n * 1) (hn : n ≤ maxLen) (hbig : n * 1 ≤ 140737488355328)
    (hc : ∀ j u, news[j]? = some u → w.cell? ⟨b, off + j, none⟩ = some u) (h1 : ∀ u ∈ news, u.oneCell' = true) :
    Calls Tryz.prog 107 #[.slice (some ⟨b, off, none⟩) n c] w fun e w' => ∃ v', e = .returned v' ∧ w'.ownsRow w.heap.size 5 1 v' n news ∧ v' ≠ .slice none 0 0 ∧ Below w.heap.size w w' := by
  have mixed : Tryz.prog.follows .mixedOrders = true := by kernel_rfl
  have t22 := Tryz.underlying37
  obtain ⟨i0, hi, hz1, hz0, hz2⟩ : ∃ i0, Tryz.prog.info? 5 = some i0 ∧ i0.size = 1 ∧ i0.zero = some (.int .u8 0) ∧ i0.bytes = 1 := by
    have h0 : (Tryz.prog.info? 5).map (fun i => (i.size, i.zero, i.bytes)) = some (1, some (.int .u8 0), 1) := by kernel_rfl
    obtain ⟨i0, h1, h2⟩ := Option.map_eq_some_iff.1 h0
    injection h2 with h2 h3
    injection h3 with h3 h4
    exact ⟨i0, h1, h2, h3, h4⟩
  have q22 : ∀ (w : World) (a : Option Addr) (n c n' c' : Nat), (binOp .eql 37 (.slice a n c) (.slice none n' c')).run Tryz.prog w = .ok (.bool a.isNone) w := fun w a n c n' c' => Lib.run_eql_slice_nil w _ _ a n c n' c' t22
  have u22 : ∀ w, Sem.run Tryz.prog (underlying 37) w = .ok (TypeDesc.slice 5) w := run_underlying t22
  have A : Aside (∀ j u, news[j]? = some u → w.cell? ⟨b, off + j, none⟩ = some u) := hc
  clear hc
  go_enter Tryz.func107, Tryz.ntmps107
  go_wp2_with (at_builtin; refine wpList_append_own _ rfl _ _ 37 rfl w.heap.size 5 i0 (.int .u8 0) 1 1 t22 hi hz0 hz1 hz2 rfl (by omega) _ _ _ rfl (World.ownsRow_made w #[] 0 (Nat.le_refl _) (Nat.zero_le _) (by simp)) ⟨b, off, none⟩ n c news rfl ?qc1 ?qc2 ?qc3 ?qc4 ?qc5 ?qc6 ?_)
  case qc1 => exact hl
  case qc2 =>
    intro j u hj
    rw [Addr.add_lit]
    exact Lib.cell?_alloc_some _ (A.out j u hj)
  case qc3 => exact h1
  case qc4 => rw [Nat.zero_add]; exact hn
  case qc5 => rw [Nat.zero_add]; exact hbig
  case qc6 => simp
  intro v' w1 hown hgrow hnil
  go_wp2
  go_ret
  refine ⟨v', rfl, by simpa using hown, ?_, ?_⟩
  · exact hnil
  · exact ((Below.refl _ w).alloc (Nat.le_refl _) _).grown hgrow (by simp) (by intro k hk; simp [Value.ownBlock] at hk; omega)
set_option maxHeartbeats 2000000 in
set_option maxRecDepth 100000 in
theorem clone107_none (A : Option Addr) (c : Nat) (w : World) :
    Calls Tryz.prog 107 #[.slice A 0 c] w fun e w' => (∃ B, e = .returned (.slice B 0 0)) ∧ Below w.heap.size w w' := by
  have mixed : Tryz.prog.follows .mixedOrders = true := by kernel_rfl
  have t22 := Tryz.underlying37
  have q22 : ∀ (w : World) (a : Option Addr) (n c n' c' : Nat), (binOp .eql 37 (.slice a n c) (.slice none n' c')).run Tryz.prog w = .ok (.bool a.isNone) w := fun w a n c n' c' => Lib.run_eql_slice_nil w _ _ a n c n' c' t22
  have u22 : ∀ w, Sem.run Tryz.prog (underlying 37) w = .ok (TypeDesc.slice 5) w := run_underlying t22
  cases A with
  | none =>
    go_enter Tryz.func107, Tryz.ntmps107
    go_wp2
    go_ret
    exact ⟨⟨_, rfl⟩, Below.refl _ _⟩
  | some a =>
    have hrun : ∀ ty, (Builtin.append_ #[37, 37] ty #[.slice (some ⟨w.heap.size, 0, none⟩) 0 0, .slice (some a) 0 c]).run Tryz.prog (w.alloc (.cells #[] 5)) = .ok (.slice (some ⟨w.heap.size, 0, none⟩) 0 0) (w.alloc (.cells #[] 5)) := fun ty => by
      have hs := Tryz.sizeOf5
      simp [Builtin.append_, run_underlying t22, hs, Builtin.lenOf, Builtin.firstCells, loadCells, loadCellsFrom, storeCells]
    go_enter Tryz.func107, Tryz.ntmps107
    go_wp2_with (at_builtin; refine Lib.wpList_append_run _ rfl _ _ _ _ rfl _ _ rfl rfl _ _ (hrun _) ?_)
    go_ret
    exact ⟨⟨_, rfl⟩, (Below.refl _ w).alloc (Nat.le_refl _) _⟩
end Go.Proofs.YtnapockikkbkcaaGreat
namespace Go.Proofs.YtnapockikkbkcaaGreat
open Go Go.Abs Go.RowKit
theorem clones58 {args : List AVal} {M : AMem} {x : AVal × AMem} (h : pClone 3 32 args M = some x) : SoundCall Tryz.prog 58 args M x :=
  clone_sound (by omega) (by omega) (fun b off n c news w => clone58 b off n c news w) (fun A c w => clone58_none A c w) h
theorem clones85 {args : List AVal} {M : AMem} {x : AVal × AMem} (h : pClone 6 80 args M = some x) : SoundCall Tryz.prog 85 args M x :=
  clone_sound (by omega) (by omega) (fun b off n c news w => clone85 b off n c news w) (fun A c w => clone85_none A c w) h
theorem copys107 {args : List AVal} {M : AMem} {x : AVal × AMem} (h : pCopy 1 1 args M = some x) : SoundCall Tryz.prog 107 args M x :=
  copy_sound (by omega) (by omega) (fun b off n c news w => clone107 b off n c news w) (fun A c w => clone107_none A c w) h
theorem delete84 {args : List AVal} {M : AMem} {x : AVal × AMem} (h : pDelete 3 args M = some x) : SoundCall Tryz.prog 84 args M x :=
  delete_sound (sz := 3) (z := [.string ⟨#[]⟩, .int .i64 0, .int .i64 0]) (by omega) rfl (fun blk cap i i' n cs w h1 h2 h3 h4 h5 h6 => del84 blk cap i i' n cs w h1 h2 h3 h4 h5 h6) h
theorem delete109 {args : List AVal} {M : AMem} {x : AVal × AMem} (h : pDelete 6 args M = some x) : SoundCall Tryz.prog 109 args M x :=
  delete_sound (sz := 6) (z := [.int .i64 0, .int .i64 0, .int .i64 0, .slice none 0 0, .slice none 0 0, .int .i64 0]) (by omega) rfl (fun blk cap i i' n cs w h1 h2 h3 h4 h5 h6 => del109 blk cap i i' n cs w h1 h2 h3 h4 h5 h6) h
theorem ins86_all (b n c i vb voff vc : Nat) (cs vs : List Value) (w : World) (row : Array Value) (t : TypeId) (hi : i ≤ n) (hnc : n ≤ c) (hbig : (n + 1) * 80 ≤ 140737488355328) (h63 : n + 1 ≤ 9223372036854775807) (hvb : vb ≠ b)
    (hcl : cs.length = n * 6) (hvl : vs.length = 6) (hw : w.heap[b]? = some (.cells row t (0, 0))) (hrow : c * 6 ≤ row.size) (hat : ∀ (p : Nat) (v : Value), cs[p]? = some v → row[p]? = some v)
    (hvs : ∀ (p : Nat) (v : Value), vs[p]? = some v → w.cell? ⟨vb, voff + p, none⟩ = some v) (h1c : ∀ v ∈ cs, v.oneCell' = true) (h1v : ∀ v ∈ vs, v.oneCell' = true) :
    Calls Tryz.prog 86 #[.slice (some ⟨b, 0, none⟩) n c, .int .i64 i, .slice (some ⟨vb, voff, none⟩) 1 vc] w (InsPost 6 w b row t n i cs vs) := by
  have hcs : ∀ (p : Nat) (v : Value), cs[p]? = some v → w.cell? ⟨b, p, none⟩ = some v := fun p v hp => by simp [World.cell?, hw, hat p v hp]
  by_cases hroom : n + 1 ≤ c
  · by_cases hin : i < n
    · refine (ins86_shift b n c i vb voff vc cs vs w hin hroom h63 hvb hcl hvl row t hw hrow hcs hvs h1c h1v).mono ?_
      rintro e w' ⟨he, hw'⟩
      exact ins_shift hin hroom hcl hvl hw hrow hat he hw'
    · obtain rfl : i = n := by omega
      refine (ins86_end_room b i c vb voff vc vs w hroom h63 hvl row t hw hrow hvs h1v).mono ?_
      rintro e w' ⟨he, hw'⟩
      exact ins_room hroom hcl hvl hw hrow hat he hw'
  · have hG := grownCap_ge w (n + 1) c 40
    by_cases hin : i < n
    · refine (ins86_grow b n c i vb voff vc cs vs w hin hnc (by omega) hbig hcl hvl hcs hvs h1c h1v).mono ?_
      rintro e w' ⟨he, hw'⟩
      exact ins_grow (z := .agg #[.int .i64 0, .int .i64 0, .int .i64 0, .slice none 0 0, .slice none 0 0, .int .i64 0]) (by omega) rfl hin hcl hvl hG he hw'
    · obtain rfl : i = n := by omega
      refine (ins86_end_grow (some ⟨b, 0, none⟩) i c vb voff vc cs vs w hnc (by omega) hbig hcl hvl (by simp) (fun a ha p v hp => by injection ha with ha; subst ha; rw [Addr.add_lit, Nat.zero_add]; exact hcs p v hp) hvs h1v).mono ?_
      rintro e w' ⟨he, hw'⟩
      exact ins_end_grow (z := .agg #[.int .i64 0, .int .i64 0, .int .i64 0, .slice none 0 0, .slice none 0 0, .int .i64 0]) (by omega) rfl hcl hvl hG he hw'
theorem ins86_nil (A : Option Addr) (vb voff vc : Nat) (vs : List Value) (w : World) (row : Array Value) (hvl : vs.length = 6)
    (hvs : ∀ (p : Nat) (v : Value), vs[p]? = some v → w.cell? ⟨vb, voff + p, none⟩ = some v) (h1v : ∀ v ∈ vs, v.oneCell' = true) :
    Calls Tryz.prog 86 #[.slice A 0 0, .int .i64 0, .slice (some ⟨vb, voff, none⟩) 1 vc] w (InsPost 6 w w.heap.size row 0 0 0 [] vs) := by
  refine (ins86_end_grow A 0 0 vb voff vc [] vs w (Nat.le_refl _) (by omega) (by omega) rfl hvl (fun _ => rfl) (fun a ha p v hp => by simp at hp) hvs h1v).mono ?_
  rintro e w' ⟨he, hw'⟩
  exact ins_end_grow (z := .agg #[.int .i64 0, .int .i64 0, .int .i64 0, .slice none 0 0, .slice none 0 0, .int .i64 0]) (by omega) rfl rfl hvl (grownCap_ge w 1 0 40) he hw'
theorem insert86 {args : List AVal} {M : AMem} {x : AVal × AMem} (h : pInsert 6 80 args M = some x) : SoundCall Tryz.prog 86 args M x :=
  insert_sound (by omega) (by omega) (fun b n c i vb voff vc cs vs w row t => ins86_all b n c i vb voff vc cs vs w row t) (fun A vb voff vc vs w row => ins86_nil A vb voff vc vs w row) h
theorem ins87_all (b n c i vb voff vc : Nat) (cs vs : List Value) (w : World) (row : Array Value) (t : TypeId) (hi : i ≤ n) (hnc : n ≤ c) (hbig : (n + 1) * 32 ≤ 140737488355328) (h63 : n + 1 ≤ 9223372036854775807) (hvb : vb ≠ b)
    (hcl : cs.length = n * 3) (hvl : vs.length = 3) (hw : w.heap[b]? = some (.cells row t (0, 0))) (hrow : c * 3 ≤ row.size) (hat : ∀ (p : Nat) (v : Value), cs[p]? = some v → row[p]? = some v)
    (hvs : ∀ (p : Nat) (v : Value), vs[p]? = some v → w.cell? ⟨vb, voff + p, none⟩ = some v) (h1c : ∀ v ∈ cs, v.oneCell' = true) (h1v : ∀ v ∈ vs, v.oneCell' = true) :
    Calls Tryz.prog 87 #[.slice (some ⟨b, 0, none⟩) n c, .int .i64 i, .slice (some ⟨vb, voff, none⟩) 1 vc] w (InsPost 3 w b row t n i cs vs) := by
  have hcs : ∀ (p : Nat) (v : Value), cs[p]? = some v → w.cell? ⟨b, p, none⟩ = some v := fun p v hp => by simp [World.cell?, hw, hat p v hp]
  by_cases hroom : n + 1 ≤ c
  · by_cases hin : i < n
    · refine (ins87_shift b n c i vb voff vc cs vs w hin hroom h63 hvb hcl hvl row t hw hrow hcs hvs h1c h1v).mono ?_
      rintro e w' ⟨he, hw'⟩
      exact ins_shift hin hroom hcl hvl hw hrow hat he hw'
    · obtain rfl : i = n := by omega
      refine (ins87_end_room b i c vb voff vc vs w hroom h63 hvl row t hw hrow hvs h1v).mono ?_
      rintro e w' ⟨he, hw'⟩
      exact ins_room hroom hcl hvl hw hrow hat he hw'
  · have hG := grownCap_ge w (n + 1) c 54
    by_cases hin : i < n
    · refine (ins87_grow b n c i vb voff vc cs vs w hin hnc (by omega) hbig hcl hvl hcs hvs h1c h1v).mono ?_
      rintro e w' ⟨he, hw'⟩
      exact ins_grow (z := .agg #[.string ⟨#[]⟩, .int .i64 0, .int .i64 0]) (by omega) rfl hin hcl hvl hG he hw'
    · obtain rfl : i = n := by omega
      refine (ins87_end_grow (some ⟨b, 0, none⟩) i c vb voff vc cs vs w hnc (by omega) hbig hcl hvl (by simp) (fun a ha p v hp => by injection ha with ha; subst ha; rw [Addr.add_lit, Nat.zero_add]; exact hcs p v hp) hvs h1v).mono ?_
      rintro e w' ⟨he, hw'⟩
      exact ins_end_grow (z := .agg #[.string ⟨#[]⟩, .int .i64 0, .int .i64 0]) (by omega) rfl hcl hvl hG he hw'
theorem ins87_nil (A : Option Addr) (vb voff vc : Nat) (vs : List Value) (w : World) (row : Array Value) (hvl : vs.length = 3)
    (hvs : ∀ (p : Nat) (v : Value), vs[p]? = some v → w.cell? ⟨vb, voff + p, none⟩ = some v) (h1v : ∀ v ∈ vs, v.oneCell' = true) :
    Calls Tryz.prog 87 #[.slice A 0 0, .int .i64 0, .slice (some ⟨vb, voff, none⟩) 1 vc] w (InsPost 3 w w.heap.size row 0 0 0 [] vs) := by
  refine (ins87_end_grow A 0 0 vb voff vc [] vs w (Nat.le_refl _) (by omega) (by omega) rfl hvl (fun _ => rfl) (fun a ha p v hp => by simp at hp) hvs h1v).mono ?_
  rintro e w' ⟨he, hw'⟩
  exact ins_end_grow (z := .agg #[.string ⟨#[]⟩, .int .i64 0, .int .i64 0]) (by omega) rfl rfl hvl (grownCap_ge w 1 0 54) he hw'
theorem insert87 {args : List AVal} {M : AMem} {x : AVal × AMem} (h : pInsert 3 32 args M = some x) : SoundCall Tryz.prog 87 args M x :=
  insert_sound (by omega) (by omega) (fun b n c i vb voff vc cs vs w row t => ins87_all b n c i vb voff vc cs vs w row t) (fun A vb voff vc vs w row => ins87_nil A vb voff vc vs w row) h
end Go.Proofs.YtnapockikkbkcaaGreat
namespace Go.Proofs.YtnapockikkbkcaaGreat
open Go Go.Abs Go.RowKit
set_option maxHeartbeats 1000000 in
set_option maxRecDepth 100000 in
theorem compare110 (a b : ByteArray) (w : World) :
    Calls Tryz.prog 110 #[.string a, .string b] w fun e w' => e = .returned (.int .i64 (Lib.compareBytes a.data.toList b.data.toList)) ∧ w' = w := by
  go_enter Tryz.func110, Tryz.ntmps110
  go_wp2
  rw [run_callFunc_extern Tryz.func132 (by kernel_rfl) (by kernel_rfl) (by kernel_rfl) (e := Extern.BytealgCompare.compare) (by kernel_rfl), Lib.run_compareString]
  simp only [Result.andThen]
  rw [Oper.upon_value]
  go_wp2
  go_ret
  exact ⟨rfl, rfl⟩
noncomputable def pCompare : List AVal → AMem → Option (AVal × AMem)
  | [.str a, .str b], M => some (.int .i64 (Lib.compareBytes a b), M)
  | _, _ => none
theorem compares110 {args : List AVal} {M : AMem} {x : AVal × AMem} (h : pCompare args M = some x) : SoundCall Tryz.prog 110 args M x := by
  unfold pCompare at h
  split at h
  · rename_i a b
    injection h with h; subst h
    intro j w vs hr hl hv
    obtain ⟨l⟩ := vs
    match l, hl with
    | [u1, u2], _ =>
      have h1 := (hv 0 _ u1 rfl rfl).str_inv
      have h2 := (hv 1 _ u2 rfl rfl).str_inv
      subst h1; subst h2
      refine (compare110 (bs a) (bs b) w).mono ?_
      rintro e w' ⟨rfl, rfl⟩
      exact ⟨_, j, rfl, hr, .refl _ _ _, .plain (.int _ _)⟩
  · cases h
end Go.Proofs.YtnapockikkbkcaaGreat
namespace Go.Proofs.YtnapockikkbkcaaGreat
open Go Go.Abs
def code : Nat → Option AFn
  | 11 => some fn11
  | 12 => some fn12
  | 13 => some fn13
  | 14 => some fn14
  | 15 => some fn15
  | 16 => some fn16
  | 17 => some fn17
  | 18 => some fn18
  | 19 => some fn19
  | 22 => some fn22
  | 23 => some fn23
  | 24 => some fn24
  | 25 => some fn25
  | 27 => some fn27
  | 28 => some fn28
  | 32 => some fn32
  | 35 => some fn35
  | 36 => some fn36
  | 37 => some fn37
  | 38 => some fn38
  | 39 => some fn39
  | 40 => some fn40
  | 41 => some fn41
  | 42 => some fn42
  | 43 => some fn43
  | 44 => some fn44
  | 45 => some fn45
  | 46 => some fn46
  | 47 => some fn47
  | 48 => some fn48
  | 49 => some fn49
  | 50 => some fn50
  | 51 => some fn51
  | 52 => some fn52
  | 53 => some fn53
  | 54 => some fn54
  | 55 => some fn55
  | 56 => some fn56
  | 57 => some fn57
  | 59 => some fn59
  | 60 => some fn60
  | 61 => some fn61
  | 62 => some fn62
  | 63 => some fn63
  | 64 => some fn64
  | 65 => some fn65
  | 66 => some fn66
  | 67 => some fn67
  | 68 => some fn68
  | 70 => some fn70
  | 71 => some fn71
  | 72 => some fn72
  | 73 => some fn73
  | 75 => some fn75
  | 76 => some fn76
  | 77 => some fn77
  | 78 => some fn78
  | 79 => some fn79
  | 80 => some fn80
  | 81 => some fn81
  | 82 => some fn82
  | 83 => some fn83
  | 88 => some fn88
  | 89 => some fn89
  | 90 => some fn90
  | 91 => some fn91
  | 92 => some fn92
  | 93 => some fn93
  | 94 => some fn94
  | 95 => some fn95
  | 96 => some fn96
  | 97 => some fn97
  | 98 => some fn98
  | 99 => some fn99
  | 100 => some fn100
  | 101 => some fn101
  | 102 => some fn102
  | 103 => some fn103
  | 104 => some fn104
  | 105 => some fn105
  | 106 => some fn106
  | 108 => some fn108
  | 111 => some fn111
  | 112 => some fn112
  | 113 => some fn113
  | 118 => some fn118
  | 126 => some fn126
  | 127 => some fn127
  | 128 => some fn128
  | 129 => some fn129
  | 130 => some fn130
  | 140 => some fn140
  | 145 => some fn145
  | _ => none
noncomputable def prim : Nat → Option (List AVal → AMem → Option (AVal × AMem))
  | 58 => some (pClone 3 32)
  | 84 => some (pDelete 3)
  | 85 => some (pClone 6 80)
  | 86 => some (pInsert 6 80)
  | 87 => some (pInsert 3 32)
  | 107 => some (pCopy 1 1)
  | 109 => some (pDelete 6)
  | 110 => some (pCompare)
  | _ => none
noncomputable def tab : Tab := ⟨code, prim⟩
theorem code_ok (f : Nat) (fn : AFn) (h : code f = some fn) : ∃ A func, Tryz.prog.funcs[f]? = some func ∧ compFn Tryz.prog A func = some fn := by
  unfold code at h
  split at h
  · injection h with h; subst h; exact ⟨_, _, Tryz.func11, ok11⟩
  · injection h with h; subst h; exact ⟨_, _, Tryz.func12, ok12⟩
  · injection h with h; subst h; exact ⟨_, _, Tryz.func13, ok13⟩
  · injection h with h; subst h; exact ⟨_, _, Tryz.func14, ok14⟩
  · injection h with h; subst h; exact ⟨_, _, Tryz.func15, ok15⟩
  · injection h with h; subst h; exact ⟨_, _, Tryz.func16, ok16⟩
  · injection h with h; subst h; exact ⟨_, _, Tryz.func17, ok17⟩
  · injection h with h; subst h; exact ⟨_, _, Tryz.func18, ok18⟩
  · injection h with h; subst h; exact ⟨_, _, Tryz.func19, ok19⟩
  · injection h with h; subst h; exact ⟨_, _, Tryz.func22, ok22⟩
  · injection h with h; subst h; exact ⟨_, _, Tryz.func23, ok23⟩
  · injection h with h; subst h; exact ⟨_, _, Tryz.func24, ok24⟩
  · injection h with h; subst h; exact ⟨_, _, Tryz.func25, ok25⟩
  · injection h with h; subst h; exact ⟨_, _, Tryz.func27, ok27⟩
  · injection h with h; subst h; exact ⟨_, _, Tryz.func28, ok28⟩
  · injection h with h; subst h; exact ⟨_, _, Tryz.func32, ok32⟩
  · injection h with h; subst h; exact ⟨_, _, Tryz.func35, ok35⟩
  · injection h with h; subst h; exact ⟨_, _, Tryz.func36, ok36⟩
  · injection h with h; subst h; exact ⟨_, _, Tryz.func37, ok37⟩
  · injection h with h; subst h; exact ⟨_, _, Tryz.func38, ok38⟩
  · injection h with h; subst h; exact ⟨_, _, Tryz.func39, ok39⟩
  · injection h with h; subst h; exact ⟨_, _, Tryz.func40, ok40⟩
  · injection h with h; subst h; exact ⟨_, _, Tryz.func41, ok41⟩
  · injection h with h; subst h; exact ⟨_, _, Tryz.func42, ok42⟩
  · injection h with h; subst h; exact ⟨_, _, Tryz.func43, ok43⟩
  · injection h with h; subst h; exact ⟨_, _, Tryz.func44, ok44⟩
  · injection h with h; subst h; exact ⟨_, _, Tryz.func45, ok45⟩
  · injection h with h; subst h; exact ⟨_, _, Tryz.func46, ok46⟩
  · injection h with h; subst h; exact ⟨_, _, Tryz.func47, ok47⟩
  · injection h with h; subst h; exact ⟨_, _, Tryz.func48, ok48⟩
  · injection h with h; subst h; exact ⟨_, _, Tryz.func49, ok49⟩
  · injection h with h; subst h; exact ⟨_, _, Tryz.func50, ok50⟩
  · injection h with h; subst h; exact ⟨_, _, Tryz.func51, ok51⟩
  · injection h with h; subst h; exact ⟨_, _, Tryz.func52, ok52⟩
  · injection h with h; subst h; exact ⟨_, _, Tryz.func53, ok53⟩
  · injection h with h; subst h; exact ⟨_, _, Tryz.func54, ok54⟩
  · injection h with h; subst h; exact ⟨_, _, Tryz.func55, ok55⟩
  · injection h with h; subst h; exact ⟨_, _, Tryz.func56, ok56⟩
  · injection h with h; subst h; exact ⟨_, _, Tryz.func57, ok57⟩
  · injection h with h; subst h; exact ⟨_, _, Tryz.func59, ok59⟩
  · injection h with h; subst h; exact ⟨_, _, Tryz.func60, ok60⟩
  · injection h with h; subst h; exact ⟨_, _, Tryz.func61, ok61⟩
  · injection h with h; subst h; exact ⟨_, _, Tryz.func62, ok62⟩
  · injection h with h; subst h; exact ⟨_, _, Tryz.func63, ok63⟩
  · injection h with h; subst h; exact ⟨_, _, Tryz.func64, ok64⟩
  · injection h with h; subst h; exact ⟨_, _, Tryz.func65, ok65⟩
  · injection h with h; subst h; exact ⟨_, _, Tryz.func66, ok66⟩
  · injection h with h; subst h; exact ⟨_, _, Tryz.func67, ok67⟩
  · injection h with h; subst h; exact ⟨_, _, Tryz.func68, ok68⟩
  · injection h with h; subst h; exact ⟨_, _, Tryz.func70, ok70⟩
  · injection h with h; subst h; exact ⟨_, _, Tryz.func71, ok71⟩
  · injection h with h; subst h; exact ⟨_, _, Tryz.func72, ok72⟩
  · injection h with h; subst h; exact ⟨_, _, Tryz.func73, ok73⟩
  · injection h with h; subst h; exact ⟨_, _, Tryz.func75, ok75⟩
  · injection h with h; subst h; exact ⟨_, _, Tryz.func76, ok76⟩
  · injection h with h; subst h; exact ⟨_, _, Tryz.func77, ok77⟩
  · injection h with h; subst h; exact ⟨_, _, Tryz.func78, ok78⟩
  · injection h with h; subst h; exact ⟨_, _, Tryz.func79, ok79⟩
  · injection h with h; subst h; exact ⟨_, _, Tryz.func80, ok80⟩
  · injection h with h; subst h; exact ⟨_, _, Tryz.func81, ok81⟩
  · injection h with h; subst h; exact ⟨_, _, Tryz.func82, ok82⟩
  · injection h with h; subst h; exact ⟨_, _, Tryz.func83, ok83⟩
  · injection h with h; subst h; exact ⟨_, _, Tryz.func88, ok88⟩
  · injection h with h; subst h; exact ⟨_, _, Tryz.func89, ok89⟩
  · injection h with h; subst h; exact ⟨_, _, Tryz.func90, ok90⟩
  · injection h with h; subst h; exact ⟨_, _, Tryz.func91, ok91⟩
  · injection h with h; subst h; exact ⟨_, _, Tryz.func92, ok92⟩
  · injection h with h; subst h; exact ⟨_, _, Tryz.func93, ok93⟩
  · injection h with h; subst h; exact ⟨_, _, Tryz.func94, ok94⟩
  · injection h with h; subst h; exact ⟨_, _, Tryz.func95, ok95⟩
  · injection h with h; subst h; exact ⟨_, _, Tryz.func96, ok96⟩
  · injection h with h; subst h; exact ⟨_, _, Tryz.func97, ok97⟩
  · injection h with h; subst h; exact ⟨_, _, Tryz.func98, ok98⟩
  · injection h with h; subst h; exact ⟨_, _, Tryz.func99, ok99⟩
  · injection h with h; subst h; exact ⟨_, _, Tryz.func100, ok100⟩
  · injection h with h; subst h; exact ⟨_, _, Tryz.func101, ok101⟩
  · injection h with h; subst h; exact ⟨_, _, Tryz.func102, ok102⟩
  · injection h with h; subst h; exact ⟨_, _, Tryz.func103, ok103⟩
  · injection h with h; subst h; exact ⟨_, _, Tryz.func104, ok104⟩
  · injection h with h; subst h; exact ⟨_, _, Tryz.func105, ok105⟩
  · injection h with h; subst h; exact ⟨_, _, Tryz.func106, ok106⟩
  · injection h with h; subst h; exact ⟨_, _, Tryz.func108, ok108⟩
  · injection h with h; subst h; exact ⟨_, _, Tryz.func111, ok111⟩
  · injection h with h; subst h; exact ⟨_, _, Tryz.func112, ok112⟩
  · injection h with h; subst h; exact ⟨_, _, Tryz.func113, ok113⟩
  · injection h with h; subst h; exact ⟨_, _, Tryz.func118, ok118⟩
  · injection h with h; subst h; exact ⟨_, _, Tryz.func126, ok126⟩
  · injection h with h; subst h; exact ⟨_, _, Tryz.func127, ok127⟩
  · injection h with h; subst h; exact ⟨_, _, Tryz.func128, ok128⟩
  · injection h with h; subst h; exact ⟨_, _, Tryz.func129, ok129⟩
  · injection h with h; subst h; exact ⟨_, _, Tryz.func130, ok130⟩
  · injection h with h; subst h; exact ⟨_, _, Tryz.func140, ok140⟩
  · injection h with h; subst h; exact ⟨_, _, Tryz.func145, ok145⟩
  · cases h
theorem prim_ok (f : Nat) (g : List AVal → AMem → Option (AVal × AMem)) (h : prim f = some g) (args : List AVal) (M : AMem) (x : AVal × AMem) (hx : g args M = some x) : enterable Tryz.prog f = true ∧ SoundCall Tryz.prog f args M x := by
  unfold prim at h
  split at h
  · injection h with h; subst h; exact ⟨by kernel_rfl, clones58 hx⟩
  · injection h with h; subst h; exact ⟨by kernel_rfl, delete84 hx⟩
  · injection h with h; subst h; exact ⟨by kernel_rfl, clones85 hx⟩
  · injection h with h; subst h; exact ⟨by kernel_rfl, insert86 hx⟩
  · injection h with h; subst h; exact ⟨by kernel_rfl, insert87 hx⟩
  · injection h with h; subst h; exact ⟨by kernel_rfl, copys107 hx⟩
  · injection h with h; subst h; exact ⟨by kernel_rfl, delete109 hx⟩
  · injection h with h; subst h; exact ⟨by kernel_rfl, compares110 hx⟩
  · cases h
theorem tab_ok : TabOk Tryz.prog tab := ⟨code_ok, prim_ok⟩
theorem sound : SoundC Tryz.prog (acall tab) := acall_sound (by kernel_rfl) tab_ok
end Go.Proofs.YtnapockikkbkcaaGreat
namespace Go.Proofs.YtnapockikkbkcaaGreat
open Go Go.Abs
abbrev Bytes := List UInt8
structure Ent where
  name : Bytes
  ino : Int
  cookie : Int
  deriving DecidableEq, Inhabited
structure Node where
  ino : Int
  kind : Int
  links : Int
  data : Bytes
  ents : List Ent
  up : Int
  deriving DecidableEq, Inhabited
structure Tree where
  nodes : List Node
  next : Int
  cookie : Int
  deriving DecidableEq, Inhabited
def Node.zero : Node := ⟨0, 0, 0, [], [], 0⟩
abbrev eI (n : Int) : AVal := .int .i64 n
def eByte (b : UInt8) : AVal := .int .u8 b.toNat
def eEntC (e : Ent) : List AVal := [.str e.name, .int .i64 e.ino, .int .i64 e.cookie]
def eEnt (e : Ent) : AVal := .agg (eEntC e)
abbrev eEnts (l : List Ent) : AVal := .slice .sh (l.map eEnt)
abbrev eData (d : Bytes) : AVal := .slice .sh (d.map eByte)
def eNodeC (n : Node) : List AVal := [.int .i64 n.ino, .int .i64 n.kind, .int .i64 n.links, eData n.data, eEnts n.ents, .int .i64 n.up]
def eNode (n : Node) : AVal := .agg (eNodeC n)
abbrev eNodes (l : List Node) : AVal := .slice .sh (l.map eNode)
def eTreeC (t : Tree) : List AVal := [eNodes t.nodes, .int .i64 t.next, .int .i64 t.cookie]
def eTree (t : Tree) : AVal := .agg (eTreeC t)
theorem BK0 : (∀ (k : IntKind) (n : Int), AVal.shut (.int k n) = (.int k n)) ∧
    (∀ (k : IntKind) (n : Int), AVal.shutD (.int k n) = (.int k n)) ∧
    (∀ (b : Bool), AVal.shut (.bool b) = (.bool b)) ∧
    (∀ (b : Bool), AVal.shutD (.bool b) = (.bool b)) ∧
    (∀ (s : Bytes), AVal.shut (.str s) = (.str s)) ∧
    (∀ (s : Bytes), AVal.shutD (.str s) = (.str s)) ∧
    (∀ (id off : Nat), AVal.shut (.ptr id off) = (.ptr id off)) ∧
    (∀ (id off : Nat), AVal.shutD (.ptr id off) = (.ptr id off)) ∧
    (∀ (cs : List AVal), AVal.shut (.rptr cs) = (.rptr cs)) ∧
    (∀ (cs : List AVal), AVal.shutD (.rptr cs) = (.rptr cs)) ∧
    (∀ (v : Value), AVal.shut (.raw v) = (.raw v)) ∧
    (∀ (v : Value), AVal.shutD (.raw v) = (.raw v)) ∧
    (AVal.shut .any = .any) ∧
    (AVal.shutD .any = .any) ∧
    (∀ (l : List Node), AVal.shut (eNodes l) = (eNodes l)) ∧
    (∀ (l : List Node), AVal.shutD (eNodes l) = (eNodes l)) ∧
    (∀ (l : List Ent), AVal.shut (eEnts l) = (eEnts l)) ∧
    (∀ (l : List Ent), AVal.shutD (eEnts l) = (eEnts l)) ∧
    (∀ (l : Bytes), AVal.shut (eData l) = (eData l)) ∧
    (∀ (l : Bytes), AVal.shutD (eData l) = (eData l)) ∧
    (∀ (tk : Tk) (xs : List AVal), AVal.shut (.slice tk xs) = .slice .sh xs) ∧
    (∀ (tk : Tk) (xs : List AVal), AVal.shutD (.slice tk xs) = .slice .sh xs) ∧
    (∀ (cs : List AVal), AVal.shutD (.agg cs) = .agg (cs.map AVal.shut)) ∧
    (∀ (f : Nat) (cs : List AVal), AVal.shutD (.func f cs) = .func f cs) ∧
    (∀ (id : Nat), AVal.shutD (.mref id) = .mref id) ∧
    (∀ (i a b c d : Nat), AVal.shut (.aref i a b c d) = .aref i a b c d) ∧
    (∀ (i a b c d : Nat), AVal.shutD (.aref i a b c d) = .aref i a b c d) ∧
    (∀ (ks vs : List AVal), AVal.shutD (.fmap ks vs) = .fmap ks vs) ∧
    (∀ (B : Nat) (M : AMem) (k : IntKind) (n : Int), AVal.back0 B M (.int k n) = (.int k n)) ∧
    (∀ (B : Nat) (M : AMem) (b : Bool), AVal.back0 B M (.bool b) = (.bool b)) ∧
    (∀ (B : Nat) (M : AMem) (s : Bytes), AVal.back0 B M (.str s) = (.str s)) ∧
    (∀ (B : Nat) (M : AMem) (cs : List AVal), AVal.back0 B M (.rptr cs) = (.rptr cs)) ∧
    (∀ (B : Nat) (M : AMem) (v : Value), AVal.back0 B M (.raw v) = (.raw v)) ∧
    (∀ (B : Nat) (M : AMem) , AVal.back0 B M .any = .any) ∧
    (∀ (B : Nat) (M : AMem) (l : List Node), AVal.back0 B M (eNodes l) = (eNodes l)) ∧
    (∀ (B : Nat) (M : AMem) (l : List Ent), AVal.back0 B M (eEnts l) = (eEnts l)) ∧
    (∀ (B : Nat) (M : AMem) (l : Bytes), AVal.back0 B M (eData l) = (eData l)) ∧
    (∀ (B : Nat) (M : AMem) (id off : Nat), AVal.back0 B M (.ptr id off) = if id < B then .ptr id off else .any) ∧
    (∀ (B : Nat) (M : AMem) (ks vs : List AVal), AVal.back0 B M (.fmap ks vs) = .fmap ks vs) ∧
    (∀ (B : Nat) (M : AMem) (xs : List AVal), AVal.back0 B M (.slice .sh xs) = .slice .sh xs) := by
  refine ⟨?_, ?_, ?_, ?_, ?_, ?_, ?_, ?_, ?_, ?_, ?_, ?_, ?_, ?_, ?_, ?_, ?_, ?_, ?_, ?_, ?_, ?_, ?_, ?_, ?_, ?_, ?_, ?_, ?_, ?_, ?_, ?_, ?_, ?_, ?_, ?_, ?_, ?_, ?_, ?_⟩ <;> intros <;> rfl
theorem BK1 : (∀ (B : Nat) (M : AMem) (xs : List AVal), AVal.back0 B M (.slice .c0 xs) = .slice .c0 xs) ∧
    (∀ (B : Nat) (M : AMem) (k : Nat) (xs : List AVal), AVal.back0 B M (.slice (.own k) xs) = if k < B then .slice (.own k) xs else .slice .sh xs) ∧
    (∀ (B : Nat) (M : AMem) (id : Nat), AVal.back0 B M (.mref id) = if id < B then .mref id else .any) ∧
    (∀ (B : Nat) (M : AMem) (id : Nat), AVal.back0 B M (.iref id) = if id < B then .iref id else .any) ∧
    (∀ (B : Nat) (M : AMem) (id ver sz lo hi : Nat), AVal.back0 B M (.aref id ver sz lo hi) = if id < B then .aref id ver sz lo hi else match M[id]? with | some (.arr _ v xs) => if v = ver then .slice .sh ((xs.take hi).drop lo) else .any | _ => .any) ∧
    (∀ (B : Nat) (M : AMem) (id ver i off : Nat), AVal.back0 B M (.eptr id ver i off) = if id < B then .eptr id ver i off else .any) ∧
    (∀ (B : Nat) (M : AMem) (k : IntKind) (n : Int), AVal.back1 B M (.int k n) = (.int k n)) ∧
    (∀ (B : Nat) (M : AMem) (b : Bool), AVal.back1 B M (.bool b) = (.bool b)) ∧
    (∀ (B : Nat) (M : AMem) (s : Bytes), AVal.back1 B M (.str s) = (.str s)) ∧
    (∀ (B : Nat) (M : AMem) (cs : List AVal), AVal.back1 B M (.rptr cs) = (.rptr cs)) ∧
    (∀ (B : Nat) (M : AMem) (v : Value), AVal.back1 B M (.raw v) = (.raw v)) ∧
    (∀ (B : Nat) (M : AMem) , AVal.back1 B M .any = .any) ∧
    (∀ (B : Nat) (M : AMem) (l : List Node), AVal.back1 B M (eNodes l) = (eNodes l)) ∧
    (∀ (B : Nat) (M : AMem) (l : List Ent), AVal.back1 B M (eEnts l) = (eEnts l)) ∧
    (∀ (B : Nat) (M : AMem) (l : Bytes), AVal.back1 B M (eData l) = (eData l)) ∧
    (∀ (B : Nat) (M : AMem) (id off : Nat), AVal.back1 B M (.ptr id off) = if id < B then .ptr id off else .any) ∧
    (∀ (B : Nat) (M : AMem) (ks vs : List AVal), AVal.back1 B M (.fmap ks vs) = .fmap ks vs) ∧
    (∀ (B : Nat) (M : AMem) (xs : List AVal), AVal.back1 B M (.slice .sh xs) = .slice .sh xs) ∧
    (∀ (B : Nat) (M : AMem) (xs : List AVal), AVal.back1 B M (.slice .c0 xs) = .slice .c0 xs) ∧
    (∀ (B : Nat) (M : AMem) (k : Nat) (xs : List AVal), AVal.back1 B M (.slice (.own k) xs) = if k < B then .slice (.own k) xs else .slice .sh xs) ∧
    (∀ (B : Nat) (M : AMem) (id : Nat), AVal.back1 B M (.mref id) = if id < B then .mref id else .any) ∧
    (∀ (B : Nat) (M : AMem) (id : Nat), AVal.back1 B M (.iref id) = if id < B then .iref id else .any) ∧
    (∀ (B : Nat) (M : AMem) (id ver sz lo hi : Nat), AVal.back1 B M (.aref id ver sz lo hi) = if id < B then .aref id ver sz lo hi else match M[id]? with | some (.arr _ v xs) => if v = ver then .slice .sh ((xs.take hi).drop lo) else .any | _ => .any) ∧
    (∀ (B : Nat) (M : AMem) (id ver i off : Nat), AVal.back1 B M (.eptr id ver i off) = if id < B then .eptr id ver i off else .any) ∧
    (∀ (B : Nat) (M : AMem) (f : Nat) (cs : List AVal), AVal.back1 B M (.func f cs) = .func f (cs.map (AVal.back0 B M))) ∧
    (∀ (B : Nat) (M : AMem) (k : IntKind) (n : Int), AVal.back2 B M (.int k n) = (.int k n)) ∧
    (∀ (B : Nat) (M : AMem) (b : Bool), AVal.back2 B M (.bool b) = (.bool b)) ∧
    (∀ (B : Nat) (M : AMem) (s : Bytes), AVal.back2 B M (.str s) = (.str s)) ∧
    (∀ (B : Nat) (M : AMem) (cs : List AVal), AVal.back2 B M (.rptr cs) = (.rptr cs)) ∧
    (∀ (B : Nat) (M : AMem) (v : Value), AVal.back2 B M (.raw v) = (.raw v)) ∧
    (∀ (B : Nat) (M : AMem) , AVal.back2 B M .any = .any) ∧
    (∀ (B : Nat) (M : AMem) (l : List Node), AVal.back2 B M (eNodes l) = (eNodes l)) ∧
    (∀ (B : Nat) (M : AMem) (l : List Ent), AVal.back2 B M (eEnts l) = (eEnts l)) ∧
    (∀ (B : Nat) (M : AMem) (l : Bytes), AVal.back2 B M (eData l) = (eData l)) ∧
    (∀ (B : Nat) (M : AMem) (id off : Nat), AVal.back2 B M (.ptr id off) = if id < B then .ptr id off else .any) ∧
    (∀ (B : Nat) (M : AMem) (ks vs : List AVal), AVal.back2 B M (.fmap ks vs) = .fmap ks vs) ∧
    (∀ (B : Nat) (M : AMem) (xs : List AVal), AVal.back2 B M (.slice .sh xs) = .slice .sh xs) ∧
    (∀ (B : Nat) (M : AMem) (xs : List AVal), AVal.back2 B M (.slice .c0 xs) = .slice .c0 xs) ∧
    (∀ (B : Nat) (M : AMem) (k : Nat) (xs : List AVal), AVal.back2 B M (.slice (.own k) xs) = if k < B then .slice (.own k) xs else .slice .sh xs) ∧
    (∀ (B : Nat) (M : AMem) (id : Nat), AVal.back2 B M (.mref id) = if id < B then .mref id else .any) := by
  refine ⟨?_, ?_, ?_, ?_, ?_, ?_, ?_, ?_, ?_, ?_, ?_, ?_, ?_, ?_, ?_, ?_, ?_, ?_, ?_, ?_, ?_, ?_, ?_, ?_, ?_, ?_, ?_, ?_, ?_, ?_, ?_, ?_, ?_, ?_, ?_, ?_, ?_, ?_, ?_, ?_⟩ <;> intros <;> rfl
theorem BK2 : (∀ (B : Nat) (M : AMem) (id : Nat), AVal.back2 B M (.iref id) = if id < B then .iref id else .any) ∧
    (∀ (B : Nat) (M : AMem) (id ver sz lo hi : Nat), AVal.back2 B M (.aref id ver sz lo hi) = if id < B then .aref id ver sz lo hi else match M[id]? with | some (.arr _ v xs) => if v = ver then .slice .sh ((xs.take hi).drop lo) else .any | _ => .any) ∧
    (∀ (B : Nat) (M : AMem) (id ver i off : Nat), AVal.back2 B M (.eptr id ver i off) = if id < B then .eptr id ver i off else .any) ∧
    (∀ (B : Nat) (M : AMem) (f : Nat) (cs : List AVal), AVal.back2 B M (.func f cs) = .func f (cs.map (AVal.back0 B M))) ∧
    (∀ (B : Nat) (M : AMem) (cs : List AVal), AVal.back2 B M (.agg cs) = .agg (cs.map (AVal.back1 B M))) ∧
    (∀ (B : Nat) (M : AMem) (k : IntKind) (n : Int), AVal.backV B M (.int k n) = (.int k n)) ∧
    (∀ (B : Nat) (M : AMem) (b : Bool), AVal.backV B M (.bool b) = (.bool b)) ∧
    (∀ (B : Nat) (M : AMem) (s : Bytes), AVal.backV B M (.str s) = (.str s)) ∧
    (∀ (B : Nat) (M : AMem) (cs : List AVal), AVal.backV B M (.rptr cs) = (.rptr cs)) ∧
    (∀ (B : Nat) (M : AMem) (v : Value), AVal.backV B M (.raw v) = (.raw v)) ∧
    (∀ (B : Nat) (M : AMem) , AVal.backV B M .any = .any) ∧
    (∀ (B : Nat) (M : AMem) (l : List Node), AVal.backV B M (eNodes l) = (eNodes l)) ∧
    (∀ (B : Nat) (M : AMem) (l : List Ent), AVal.backV B M (eEnts l) = (eEnts l)) ∧
    (∀ (B : Nat) (M : AMem) (l : Bytes), AVal.backV B M (eData l) = (eData l)) ∧
    (∀ (B : Nat) (M : AMem) (id off : Nat), AVal.backV B M (.ptr id off) = if id < B then .ptr id off else .any) ∧
    (∀ (B : Nat) (M : AMem) (ks vs : List AVal), AVal.backV B M (.fmap ks vs) = .fmap ks vs) ∧
    (∀ (B : Nat) (M : AMem) (xs : List AVal), AVal.backV B M (.slice .sh xs) = .slice .sh xs) ∧
    (∀ (B : Nat) (M : AMem) (xs : List AVal), AVal.backV B M (.slice .c0 xs) = .slice .c0 xs) ∧
    (∀ (B : Nat) (M : AMem) (k : Nat) (xs : List AVal), AVal.backV B M (.slice (.own k) xs) = if k < B then .slice (.own k) xs else .slice .sh xs) ∧
    (∀ (B : Nat) (M : AMem) (id : Nat), AVal.backV B M (.mref id) = if id < B then .mref id else .any) ∧
    (∀ (B : Nat) (M : AMem) (id : Nat), AVal.backV B M (.iref id) = if id < B then .iref id else .any) ∧
    (∀ (B : Nat) (M : AMem) (id ver sz lo hi : Nat), AVal.backV B M (.aref id ver sz lo hi) = if id < B then .aref id ver sz lo hi else match M[id]? with | some (.arr _ v xs) => if v = ver then .slice .sh ((xs.take hi).drop lo) else .any | _ => .any) ∧
    (∀ (B : Nat) (M : AMem) (id ver i off : Nat), AVal.backV B M (.eptr id ver i off) = if id < B then .eptr id ver i off else .any) ∧
    (∀ (B : Nat) (M : AMem) (f : Nat) (cs : List AVal), AVal.backV B M (.func f cs) = .func f (cs.map (AVal.back0 B M))) ∧
    (∀ (B : Nat) (M : AMem) (cs : List AVal), AVal.backV B M (.agg cs) = .agg (cs.map (AVal.back1 B M))) ∧
    (∀ (B : Nat) (M : AMem) (cs : List AVal), AVal.backV B M (.tuple cs) = .tuple (cs.map (AVal.back2 B M))) ∧
    (∀ (B : Nat) (M : AMem) (k : IntKind) (n : Int), AVal.backR1 B M (.int k n) = (.int k n)) ∧
    (∀ (B : Nat) (M : AMem) (b : Bool), AVal.backR1 B M (.bool b) = (.bool b)) ∧
    (∀ (B : Nat) (M : AMem) (s : Bytes), AVal.backR1 B M (.str s) = (.str s)) ∧
    (∀ (B : Nat) (M : AMem) (cs : List AVal), AVal.backR1 B M (.rptr cs) = (.rptr cs)) ∧
    (∀ (B : Nat) (M : AMem) (v : Value), AVal.backR1 B M (.raw v) = (.raw v)) ∧
    (∀ (B : Nat) (M : AMem) , AVal.backR1 B M .any = .any) ∧
    (∀ (B : Nat) (M : AMem) (l : List Node), AVal.backR1 B M (eNodes l) = (eNodes l)) ∧
    (∀ (B : Nat) (M : AMem) (l : List Ent), AVal.backR1 B M (eEnts l) = (eEnts l)) ∧
    (∀ (B : Nat) (M : AMem) (l : Bytes), AVal.backR1 B M (eData l) = (eData l)) ∧
    (∀ (B : Nat) (M : AMem) (id off : Nat), AVal.backR1 B M (.ptr id off) = if id < B then .ptr id off else .any) ∧
    (∀ (B : Nat) (M : AMem) (ks vs : List AVal), AVal.backR1 B M (.fmap ks vs) = .fmap ks vs) ∧
    (∀ (B : Nat) (M : AMem) (tk : Tk) (xs : List AVal), AVal.backR1 B M (.slice tk xs) = .slice .sh xs) ∧
    (∀ (B : Nat) (M : AMem) (id : Nat), AVal.backR1 B M (.mref id) = if id < B then .mref id else match M[id]? with | some (.map ks vs) => if vs.all AVal.plain && ks.all AVal.plainCell then .fmap ks vs else .any | _ => .any) ∧
    (∀ (B : Nat) (M : AMem) (id : Nat), AVal.backR1 B M (.iref id) = if id < B then .iref id else .any) := by
  refine ⟨?_, ?_, ?_, ?_, ?_, ?_, ?_, ?_, ?_, ?_, ?_, ?_, ?_, ?_, ?_, ?_, ?_, ?_, ?_, ?_, ?_, ?_, ?_, ?_, ?_, ?_, ?_, ?_, ?_, ?_, ?_, ?_, ?_, ?_, ?_, ?_, ?_, ?_, ?_, ?_⟩ <;> intros <;> rfl
theorem BK3 : (∀ (B : Nat) (M : AMem) (id ver sz lo hi : Nat), AVal.backR1 B M (.aref id ver sz lo hi) = if id < B then .aref id ver sz lo hi else match M[id]? with | some (.arr _ v xs) => if v = ver then .slice .sh ((xs.take hi).drop lo) else .any | _ => .any) ∧
    (∀ (B : Nat) (M : AMem) (id ver i off : Nat), AVal.backR1 B M (.eptr id ver i off) = if id < B then .eptr id ver i off else .any) ∧
    (∀ (B : Nat) (M : AMem) (f : Nat) (cs : List AVal), AVal.backR1 B M (.func f cs) = .func f (cs.map (AVal.back0 B M))) ∧
    (∀ (B : Nat) (M : AMem) (k : IntKind) (n : Int), AVal.backR2 B M (.int k n) = (.int k n)) ∧
    (∀ (B : Nat) (M : AMem) (b : Bool), AVal.backR2 B M (.bool b) = (.bool b)) ∧
    (∀ (B : Nat) (M : AMem) (s : Bytes), AVal.backR2 B M (.str s) = (.str s)) ∧
    (∀ (B : Nat) (M : AMem) (cs : List AVal), AVal.backR2 B M (.rptr cs) = (.rptr cs)) ∧
    (∀ (B : Nat) (M : AMem) (v : Value), AVal.backR2 B M (.raw v) = (.raw v)) ∧
    (∀ (B : Nat) (M : AMem) , AVal.backR2 B M .any = .any) ∧
    (∀ (B : Nat) (M : AMem) (l : List Node), AVal.backR2 B M (eNodes l) = (eNodes l)) ∧
    (∀ (B : Nat) (M : AMem) (l : List Ent), AVal.backR2 B M (eEnts l) = (eEnts l)) ∧
    (∀ (B : Nat) (M : AMem) (l : Bytes), AVal.backR2 B M (eData l) = (eData l)) ∧
    (∀ (B : Nat) (M : AMem) (id off : Nat), AVal.backR2 B M (.ptr id off) = if id < B then .ptr id off else .any) ∧
    (∀ (B : Nat) (M : AMem) (ks vs : List AVal), AVal.backR2 B M (.fmap ks vs) = .fmap ks vs) ∧
    (∀ (B : Nat) (M : AMem) (tk : Tk) (xs : List AVal), AVal.backR2 B M (.slice tk xs) = .slice .sh xs) ∧
    (∀ (B : Nat) (M : AMem) (id : Nat), AVal.backR2 B M (.mref id) = if id < B then .mref id else match M[id]? with | some (.map ks vs) => if vs.all AVal.plain && ks.all AVal.plainCell then .fmap ks vs else .any | _ => .any) ∧
    (∀ (B : Nat) (M : AMem) (id : Nat), AVal.backR2 B M (.iref id) = if id < B then .iref id else .any) ∧
    (∀ (B : Nat) (M : AMem) (id ver sz lo hi : Nat), AVal.backR2 B M (.aref id ver sz lo hi) = if id < B then .aref id ver sz lo hi else match M[id]? with | some (.arr _ v xs) => if v = ver then .slice .sh ((xs.take hi).drop lo) else .any | _ => .any) ∧
    (∀ (B : Nat) (M : AMem) (id ver i off : Nat), AVal.backR2 B M (.eptr id ver i off) = if id < B then .eptr id ver i off else .any) ∧
    (∀ (B : Nat) (M : AMem) (f : Nat) (cs : List AVal), AVal.backR2 B M (.func f cs) = .func f (cs.map (AVal.back0 B M))) ∧
    (∀ (B : Nat) (M : AMem) (cs : List AVal), AVal.backR2 B M (.agg cs) = .agg (cs.map (AVal.backR1 B M))) ∧
    (∀ (B : Nat) (M : AMem) (k : IntKind) (n : Int), AVal.backR B M (.int k n) = (.int k n)) ∧
    (∀ (B : Nat) (M : AMem) (b : Bool), AVal.backR B M (.bool b) = (.bool b)) ∧
    (∀ (B : Nat) (M : AMem) (s : Bytes), AVal.backR B M (.str s) = (.str s)) ∧
    (∀ (B : Nat) (M : AMem) (cs : List AVal), AVal.backR B M (.rptr cs) = (.rptr cs)) ∧
    (∀ (B : Nat) (M : AMem) (v : Value), AVal.backR B M (.raw v) = (.raw v)) ∧
    (∀ (B : Nat) (M : AMem) , AVal.backR B M .any = .any) ∧
    (∀ (B : Nat) (M : AMem) (l : List Node), AVal.backR B M (eNodes l) = (eNodes l)) ∧
    (∀ (B : Nat) (M : AMem) (l : List Ent), AVal.backR B M (eEnts l) = (eEnts l)) ∧
    (∀ (B : Nat) (M : AMem) (l : Bytes), AVal.backR B M (eData l) = (eData l)) ∧
    (∀ (B : Nat) (M : AMem) (id off : Nat), AVal.backR B M (.ptr id off) = if id < B then .ptr id off else .any) ∧
    (∀ (B : Nat) (M : AMem) (ks vs : List AVal), AVal.backR B M (.fmap ks vs) = .fmap ks vs) ∧
    (∀ (B : Nat) (M : AMem) (tk : Tk) (xs : List AVal), AVal.backR B M (.slice tk xs) = .slice .sh xs) ∧
    (∀ (B : Nat) (M : AMem) (id : Nat), AVal.backR B M (.mref id) = if id < B then .mref id else match M[id]? with | some (.map ks vs) => if vs.all AVal.plain && ks.all AVal.plainCell then .fmap ks vs else .any | _ => .any) ∧
    (∀ (B : Nat) (M : AMem) (id : Nat), AVal.backR B M (.iref id) = if id < B then .iref id else .any) ∧
    (∀ (B : Nat) (M : AMem) (id ver sz lo hi : Nat), AVal.backR B M (.aref id ver sz lo hi) = if id < B then .aref id ver sz lo hi else match M[id]? with | some (.arr _ v xs) => if v = ver then .slice .sh ((xs.take hi).drop lo) else .any | _ => .any) ∧
    (∀ (B : Nat) (M : AMem) (id ver i off : Nat), AVal.backR B M (.eptr id ver i off) = if id < B then .eptr id ver i off else .any) ∧
    (∀ (B : Nat) (M : AMem) (f : Nat) (cs : List AVal), AVal.backR B M (.func f cs) = .func f (cs.map (AVal.back0 B M))) ∧
    (∀ (B : Nat) (M : AMem) (cs : List AVal), AVal.backR B M (.agg cs) = .agg (cs.map (AVal.backR1 B M))) ∧
    (∀ (B : Nat) (M : AMem) (cs : List AVal), AVal.backR B M (.tuple cs) = .tuple (cs.map (AVal.backR2 B M))) := by
  refine ⟨?_, ?_, ?_, ?_, ?_, ?_, ?_, ?_, ?_, ?_, ?_, ?_, ?_, ?_, ?_, ?_, ?_, ?_, ?_, ?_, ?_, ?_, ?_, ?_, ?_, ?_, ?_, ?_, ?_, ?_, ?_, ?_, ?_, ?_, ?_, ?_, ?_, ?_, ?_, ?_⟩ <;> intros <;> rfl
theorem BK4 : (∀ (l : List Node), AVal.cells? (eNodes l) = some [eNodes l]) ∧
    (∀ (l : List Ent), AVal.cells? (eEnts l) = some [eEnts l]) ∧
    (∀ (l : Bytes), AVal.cells? (eData l) = some [eData l]) ∧
    (∀ (cs : List AVal), AVal.cells? (.agg cs) = some cs) ∧
    (∀ (k : IntKind) (n : Int), AVal.cells? (.int k n) = some [(.int k n)]) ∧
    (∀ (k : IntKind) (n : Int), AVal.isCell (.int k n) = true) ∧
    (∀ (b : Bool), AVal.cells? (.bool b) = some [(.bool b)]) ∧
    (∀ (b : Bool), AVal.isCell (.bool b) = true) ∧
    (∀ (s : Bytes), AVal.cells? (.str s) = some [(.str s)]) ∧
    (∀ (s : Bytes), AVal.isCell (.str s) = true) ∧
    (∀ (id off : Nat), AVal.cells? (.ptr id off) = some [(.ptr id off)]) ∧
    (∀ (id off : Nat), AVal.isCell (.ptr id off) = true) ∧
    (∀ (cs : List AVal), AVal.cells? (.rptr cs) = some [(.rptr cs)]) ∧
    (∀ (cs : List AVal), AVal.isCell (.rptr cs) = true) ∧
    (∀ (tk : Tk) (xs : List AVal), AVal.cells? (.slice tk xs) = some [.slice tk xs]) ∧
    (∀ (tk : Tk) (xs : List AVal), AVal.isCell (.slice tk xs) = true) ∧
    (∀ (i a b c d : Nat), AVal.cells? (.aref i a b c d) = some [.aref i a b c d]) ∧
    (∀ (i a b c d : Nat), AVal.isCell (.aref i a b c d) = true) ∧
    (∀ (f : Nat) (cs : List AVal), AVal.cells? (.func f cs) = some [.func f cs]) ∧
    (∀ (f : Nat) (cs : List AVal), AVal.isCell (.func f cs) = true) ∧
    (∀ (i : Nat), AVal.cells? (.mref i) = some [.mref i]) ∧
    (∀ (i : Nat), AVal.isCell (.mref i) = true) ∧
    (∀ (l : List Node), AVal.isCell (eNodes l) = true) ∧
    (∀ (l : List Ent), AVal.isCell (eEnts l) = true) ∧
    (∀ (l : Bytes), AVal.isCell (eData l) = true) := by
  refine ⟨?_, ?_, ?_, ?_, ?_, ?_, ?_, ?_, ?_, ?_, ?_, ?_, ?_, ?_, ?_, ?_, ?_, ?_, ?_, ?_, ?_, ?_, ?_, ?_, ?_⟩ <;> intros <;> rfl
structure Small (t : Tree) : Prop where
  nodes : t.nodes.length ≤ 100000
  ents : ∀ n, n ∈ t.nodes → n.ents.length ≤ 100000
  data : ∀ n, n ∈ t.nodes → n.data.length ≤ 100000
theorem cells_eNode (n : Node) : (eNode n).cells = eNodeC n := rfl
theorem cells_eEnt (e : Ent) : (eEnt e).cells = eEntC e := rfl
theorem len_eNodeC (n : Node) : (eNodeC n).length = 6 := rfl
theorem len_eEntC (e : Ent) : (eEntC e).length = 3 := rfl
theorem fork_split {C : CallF} {fn : List ARes} {base : Nat} {k : List K} {t : Bool} {x y : ACode} {env : Env} {M : AMem} {r : Option (AVal × AMem)}
    (h1 : t = true → exK C fn base k x env M = r) (h2 : t = false → exK C fn base k y env M = r) : forkK C fn base k (.bool t) x y env M = r := by
  cases t
  · exact h2 rfl
  · exact h1 rfl
theorem guard_split {C : CallF} {fn : List ARes} {base : Nat} {k : List K} {live : List Nat} {t w : Bool} {o : AOper} {l : List AOper} {env : Env} {M : AMem} {r : Option (AVal × AMem)}
    (h1 : t = w → opK C fn base k live o.dst l env (astep C o env M) = r) (h2 : t = !w → opsK C fn base k live l (putS env o.dst (.tuple [])) M = r) : gK C fn base k live (.bool t) w o l env M = r := by
  cases t <;> cases w
  · exact h1 rfl
  · exact h2 rfl
  · exact h2 rfl
  · exact h1 rfl
theorem oif_split {α : Type} {t : Bool} {x y r : Option α} (h1 : t = true → x = r) (h2 : t = false → y = r) : oif t x y = r := by
  cases t
  · exact h2 rfl
  · exact h1 rfl
theorem opK_pick {C : CallF} {fn : List ARes} {base : Nat} {k : List K} {live : List Nat} {d : Option Nat} {l : List AOper} {env : Env} {t : Bool} {x y r : Option (AVal × AMem)}
    (h1 : t = true → opK C fn base k live d l env x = r) (h2 : t = false → opK C fn base k live d l env y = r) : opK C fn base k live d l env (oif t x y) = r := by
  cases t
  · exact h2 rfl
  · exact h1 rfl
theorem room_ok {a b : Nat} (h : a ≤ 1000000) (hb : b ≤ 1000) : roomOk a b = True := by
  have : a * b ≤ 1000000 * 1000 := Nat.mul_le_mul h hb
  simp only [eq_iff_iff, iff_true]
  unfold roomOk
  omega
theorem wid_nodes (l : List Node) : wid (l.map eNode) 6 = True := by
  simp only [eq_iff_iff, iff_true]
  intro x hx
  obtain ⟨n, _, rfl⟩ := List.mem_map.1 hx
  rfl
theorem wid_ents (l : List Ent) : wid (l.map eEnt) 3 = True := by
  simp only [eq_iff_iff, iff_true]
  intro x hx
  obtain ⟨n, _, rfl⟩ := List.mem_map.1 hx
  rfl
theorem wid_bytes (l : Bytes) : wid (l.map eByte) 1 = True := by
  simp only [eq_iff_iff, iff_true]
  intro x hx
  obtain ⟨n, _, rfl⟩ := List.mem_map.1 hx
  rfl
theorem wid_one (x : AVal) (n : Nat) : wid [x] n = (x.cells.length = n) := by simp [wid]
theorem wid_app (a b : List AVal) (n : Nat) : wid (a ++ b) n = (wid a n ∧ wid b n) := by
  simp only [eq_iff_iff]
  exact ⟨fun h => ⟨fun x hx => h x (List.mem_append_left _ hx), fun x hx => h x (List.mem_append_right _ hx)⟩, fun h => wid_append h.1 h.2⟩
theorem wid_nil (n : Nat) : wid [] n = True := by simp [wid]
theorem PL : (∀ k n, AVal.plainCell (.int k n) = true) ∧ (∀ s, AVal.plainCell (.str s) = true) ∧ (∀ b, AVal.plainCell (.bool b) = true) ∧ (∀ xs, AVal.plainCell (.slice .sh xs) = true) ∧ (∀ l, AVal.plainCell (eData l) = true) ∧ (∀ l, AVal.plainCell (eEnts l) = true) ∧
    (∀ l, AVal.plainCell (eNodes l) = true) ∧ (∀ cs, AVal.plain (.agg cs) = cs.all AVal.plainCell) ∧ (∀ k n, AVal.plain (.int k n) = true) ∧ (∀ s, AVal.plain (.str s) = true) ∧ (∀ cs, AVal.cells (.agg cs) = cs) ∧ (∀ k n, AVal.cells (.int k n) = [.int k n]) ∧ (∀ s, AVal.cells (.str s) = [.str s]) := by
  refine ⟨?_, ?_, ?_, ?_, ?_, ?_, ?_, ?_, ?_, ?_, ?_, ?_, ?_⟩ <;> intros <;> rfl
theorem map_node (l : List Node) (a b c : Int) (d : Bytes) (e : List Ent) (u : Int) : l.map eNode ++ [.agg [.int .i64 a, .int .i64 b, .int .i64 c, eData d, eEnts e, .int .i64 u]] = (l ++ [Node.mk a b c d e u]).map eNode := by simp [eNode, eNodeC]
theorem map_ent (l : List Ent) (s : Bytes) (a b : Int) : l.map eEnt ++ [.agg [.str s, .int .i64 a, .int .i64 b]] = (l ++ [Ent.mk s a b]).map eEnt := by simp [eEnt, eEntC]
theorem IDS : (∀ cs, AVal.ids (.agg cs) = cs.flatMap AVal.ids1) ∧ (∀ k n, AVal.ids (.int k n) = []) ∧ (∀ k, AVal.ids (.str k) = []) ∧ (∀ k, AVal.ids (.bool k) = []) ∧ (∀ xs, AVal.ids (.slice .sh xs) = []) ∧ (∀ i o, AVal.ids (.ptr i o) = [i]) ∧
    (∀ k n, AVal.ids1 (.int k n) = []) ∧ (∀ k, AVal.ids1 (.str k) = []) ∧ (∀ k, AVal.ids1 (.bool k) = []) ∧ (∀ xs, AVal.ids1 (.slice .sh xs) = []) := by
  refine ⟨?_, ?_, ?_, ?_, ?_, ?_, ?_, ?_, ?_, ?_⟩ <;> intros <;> rfl
structure Step where
  kind : Nat
  a : Nat
  b : Nat
  n : Nat
  m : Nat
  data : Bytes
def eStepC (s : Step) : List AVal := [.int .u8 s.kind, .int .u8 s.a, .int .u8 s.b, .int .u8 s.n, .int .u8 s.m, eData s.data]
def eStep (s : Step) : AVal := .agg (eStepC s)
theorem cells_eStep (n : Step) : (eStep n).cells = eStepC n := rfl
theorem len_eStepC (n : Step) : (eStepC n).length = 6 := rfl
theorem wid_steps (l : List Step) : wid (l.map eStep) 6 = True := by
  simp only [eq_iff_iff, iff_true]
  intro x hx
  obtain ⟨n, _, rfl⟩ := List.mem_map.1 hx
  rfl
theorem nat_lt0 (m : Nat) : ((m : Int) < 0) = False := by simp
theorem wrap_small {n : Int} (h0 : -9223372036854775808 ≤ n) (h1 : n ≤ 9223372036854775807) : IntKind.i64.wrap n = n := by rw [IntKind.wrap_i64]; omega
theorem callOp0 {C : CallF} {f : Nat} {vs : List AVal} {r : AVal} (h : C f vs [] = some (r, [])) (h1 : vs.all AVal.flat = true) (h2 : vs.flatMap AVal.ids = []) (h3 : r.flatR = true)
    (h4 : vs.map (AVal.ren (idxN [])) = vs) (h5 : r.renR (atN []) = r) (M : AMem) : callOp C f vs M = some (r, M) := by
  have e0 : reach M [] = [] := rfl
  have e1 : reach1 M [] = [] := rfl
  have e2 : (vs.map (AVal.ren (idxN []))) = vs := h4
  unfold callOp
  rw [if_pos h1, h2, e0]
  simp only [pickM, obind_some]
  rw [if_pos e1, e2, h]
  simp [h3, h5, wback]
theorem set_nth_same {M : AMem} {p : Nat} {b : ABox} (h : nth M p = some b) : ∀ b', nth (setN M p b') p = some b' := by
  intro b'
  rw [nth_eq] at h ⊢
  rw [setN_eq]
  exact set_same (lt_of_some h)
theorem callOp1 {C : CallF} {f p : Nat} {vs : List AVal} {r : AVal} {M : AMem} {cs cs' : List AVal} (hM : nth M p = some (.cells cs)) (h : C f (.ptr 0 0 :: vs) [.cells cs] = some (r, [.cells cs'])) (h1 : vs.all AVal.flat = true) (h2 : vs.flatMap AVal.ids = []) (h3 : r.flatR = true)
    (h4 : vs.map (AVal.ren (idxN [p])) = vs) (h5 : r.renR (atN [p]) = r) (h6 : cs.all AVal.flat1 = true) (h7 : cs.flatMap AVal.ids1 = []) (h8 : cs.map (AVal.ren1 (idxN [p])) = cs) (h9 : cs'.all AVal.flat1 = true) (h10 : cs'.map (AVal.ren1 (atN [p])) = cs') :
    callOp C f (.ptr p 0 :: vs) M = some (r, setN M p (.cells cs')) := by
  have hids : (AVal.ptr p 0 :: vs).flatMap AVal.ids = [p] := by simp [AVal.ids, AVal.ids1, AVal.ids0, h2]
  have hi : idsAt M [p] = [] := by simp [idsAt, hM, ABox.ids, h7]
  have e0 : reach1 M [p] = [p] := by simp [reach1, hi, addAll]
  have e1 : reach M [p] = [p] := by
    have ea : addAll [] [p] = [p] := rfl
    simp only [reach, ea, e0]
  have hfl : (AVal.ptr p 0 :: vs).all AVal.flat = true := by simp only [List.all_cons, h1, Bool.and_true]; rfl
  unfold callOp
  rw [if_pos hfl, hids, e1]
  have hpk : pickM M (idxN [p]) [p] = some [.cells cs] := by simp [pickM, hM, ABox.flat, h6, ABox.ren, h8]
  rw [hpk]
  simp only [obind_some]
  rw [if_pos e0]
  have hrn : (AVal.ptr p 0 :: vs).map (AVal.ren (idxN [p])) = .ptr 0 0 :: vs := by
    simp only [List.map_cons, h4]
    simp [AVal.ren, AVal.ren1, AVal.ren0, idxN]
  rw [hrn, h]
  simp only [obind_some]
  rw [if_pos ⟨rfl, h3, by simp [ABox.flat, h9]⟩, h5]
  simp only [wback, ABox.ren, h10]
end Go.Proofs.YtnapockikkbkcaaGreat
namespace Go.Proofs.YtnapockikkbkcaaGreat
open Go Go.Abs
set_option linter.defProp false in
def EVT := And.intro @exK_skip (And.intro @exK_exit (And.intro @exK_ret (And.intro @exK_seq (And.intro @exK_block (And.intro @exK_cond (And.intro @exK_region (And.intro @opsK_nil (And.intro @opsK_none (And.intro @opsK_some (And.intro @opK_some (And.intro @gK_tt (And.intro @gK_ff (And.intro @gK_tf (And.intro @gK_ft (And.intro @gK_un (And.intro @forkK_t (And.intro @forkK_f (And.intro @kr_seq (And.intro @kr_seq_exit (And.intro @kr_seq_ret (And.intro @kr_block (And.intro @kr_block_exit (And.intro @kr_block_ret (And.intro @kr_loop (And.intro @kr_loop_exit (And.intro @kr_loop_ret (And.intro @kr_nil (And.intro @List.map_cons.{0,0} (And.intro @List.map_nil.{0,0} (And.intro @obind_some (And.intro @oif_true (And.intro @oif_false (And.intro @Nat.add_zero (And.intro @Nat.zero_add (And.intro @List.length_cons.{0} (And.intro @List.length_nil.{0} (And.intro @List.all_cons.{0} (And.intro @List.all_nil.{0} (And.intro @Bool.and_self (And.intro @List.take_zero.{0} (And.intro @List.nil_append.{0} (And.intro @List.take_succ_cons.{0} (And.intro @List.drop_succ_cons.{0} (And.intro @List.drop_zero.{0} (And.intro @List.drop_nil.{0} (And.intro @List.take_nil.{0} (And.intro @List.append_nil.{0} (And.intro @List.cons_append.{0} (And.intro @Nat.le_refl (And.intro @and_self (And.intro @not_true_eq_false (And.intro @not_false_eq_true (And.intro @Nat.one_ne_zero (And.intro @Nat.zero_ne_one (And.intro @Nat.not_lt_zero (And.intro @Nat.lt_irrefl (And.intro @List.map_take.{0,0} (And.intro @List.length_map.{0,0} (And.intro @Int.toNat_natCast (And.intro @List.getElem?_map.{0,0} (And.intro @Option.map_some.{0,0} (And.intro @owhen_true (And.intro @Int.natCast_nonneg (And.intro @cells_eNode (And.intro @cells_eEnt (And.intro @len_eNodeC (And.intro @len_eEntC (And.intro @decide_true (And.intro @decide_false (And.intro @BEq.rfl.{0} (And.intro @beq_self_eq_true.{0} (And.intro @Bool.not_true (And.intro @Bool.not_false (And.intro @BK0 (And.intro @BK1 (And.intro @BK2 (And.intro @BK3 (And.intro @BK4 (And.intro @nat_lt0 (And.intro @PL (And.intro @wid_one (And.intro @wid_nil (And.intro @wid_nodes (And.intro @wid_ents (And.intro @wid_bytes (And.intro @and_true (And.intro @true_and (And.intro @Bool.and_true (And.intro @List.length_append.{0} (And.intro @ge_iff_le.{0} (And.intro @gt_iff_lt.{0} (And.intro @wid_app (And.intro @List.prefix_refl.{0} (And.intro @true_or (And.intro @or_true (And.intro @List.cons_prefix_cons.{0} (And.intro @List.nil_prefix.{0} (And.intro @List.cons_ne_nil.{0} (And.intro @IDS (And.intro @List.flatMap_cons.{0,0} (And.intro @List.flatMap_nil.{0,0} (And.intro @cells_eStep (And.intro @len_eStepC (@wid_steps))))))))))))))))))))))))))))))))))))))))))))))))))))))))))))))))))))))))))))))))))))))))))))))))))))))))
set_option linter.defProp false in
def EVD := And.intro @finish.eq_1 (And.intro @resAll.eq_1 (And.intro @resAll.eq_2 (And.intro @resOf.eq_1 (And.intro @resOf.eq_2 (And.intro @resOf.eq_3 (And.intro @one.eq_1 (And.intro @one.eq_2 (And.intro @astep.eq_1 (And.intro @aop.eq_1 (And.intro @aop.eq_2 (And.intro @aop.eq_3 (And.intro @aop.eq_4 (And.intro @aop.eq_5 (And.intro @aop.eq_6 (And.intro @aop.eq_7 (And.intro @aop.eq_8 (And.intro @aop.eq_9 (And.intro @aop.eq_10 (And.intro @aop.eq_11 (And.intro @aop.eq_12 (And.intro @aop.eq_13 (And.intro @aop.eq_14 (And.intro @aop.eq_15 (And.intro @aop.eq_16 (And.intro @aop.eq_17 (And.intro @aop.eq_18 (And.intro @aop.eq_19 (And.intro @aop.eq_20 (And.intro @aop.eq_21 (And.intro @aop.eq_22 (And.intro @aop.eq_23 (And.intro @aop.eq_24 (And.intro @aop.eq_25 (And.intro @aop.eq_26 (And.intro @aop.eq_27 (And.intro @aop.eq_28 (And.intro @aop.eq_29 (And.intro @aop.eq_30 (And.intro @aop.eq_31 (And.intro @aop.eq_32 (And.intro @aop.eq_33 (And.intro @aop.eq_34 (And.intro @aop.eq_35 (And.intro @aop.eq_36 (And.intro @aop.eq_37 (And.intro @aop.eq_38 (And.intro @aop.eq_39 (And.intro @aop.eq_40 (And.intro @aop.eq_41 (And.intro @aop.eq_42 (And.intro @aop.eq_43 (And.intro @aop.eq_44 (And.intro @parsFrom.eq_1 (And.intro @parsFrom.eq_2 (And.intro @Opd.ev.eq_1 (And.intro @Opd.ev.eq_2 (And.intro @getS.eq_1 (And.intro @getS.eq_2 (And.intro @putS.eq_1 (And.intro @putS.eq_2 (And.intro @keepS.eq_1 (And.intro @nth.eq_1 (And.intro @nth.eq_2 (And.intro @nth.eq_3 (And.intro @setN.eq_1 (And.intro @setN.eq_2 (And.intro @setN.eq_3 (And.intro @abin.eq_1 (And.intro @abin.eq_2 (And.intro @abin.eq_3 (And.intro @abin.eq_4 (And.intro @abin.eq_5 (And.intro @abin.eq_6 (And.intro @abin.eq_7 (And.intro @abin.eq_8 (And.intro @abin.eq_9 (And.intro @abin.eq_10 (And.intro @abin.eq_11 (And.intro @abin.eq_12 (And.intro @abin.eq_13 (And.intro @abin.eq_14 (And.intro @abin.eq_15 (And.intro @abin.eq_16 (And.intro @abin.eq_17 (And.intro @abin.eq_18 (And.intro @abin.eq_19 (And.intro @abin.eq_20 (And.intro @abin.eq_21 (And.intro @abin.eq_22 (And.intro @abin.eq_23 (And.intro @writeAt.eq_1 (And.intro @backE.eq_1 (And.intro @backM.eq_1 (And.intro @ABox.back.eq_1 (And.intro @ABox.back.eq_2 (And.intro @ABox.back.eq_3 (And.intro @ABox.back.eq_4 (And.intro @ABox.back.eq_5 (And.intro @litsOf.eq_1 (And.intro @litsOf.eq_2 (And.intro @sepAll.eq_1 (And.intro @sepAll.eq_2 (And.intro @fillParts.eq_1 (And.intro @fillParts.eq_2 (And.intro @AOp.argIds.eq_1 (And.intro @AOp.argIds.eq_2 (And.intro @AOp.argIds.eq_3 (And.intro @ob.eq_1 (And.intro @og.eq_1 (@ox.eq_1))))))))))))))))))))))))))))))))))))))))))))))))))))))))))))))))))))))))))))))))))))))))))))))))))))))))))))))
set_option linter.defProp false in
def BBT := And.intro @Bool.and_true (And.intro @Bool.true_and (And.intro @Bool.and_false (And.intro @Bool.false_and (And.intro @Bool.or_true (And.intro @Bool.true_or (And.intro @Bool.or_false (And.intro @Bool.false_or (And.intro @Bool.not_true (And.intro @Bool.not_false (And.intro @Bool.and_self (And.intro @Bool.or_self (And.intro @Bool.false_eq_true (@beq_self_eq_true.{0})))))))))))))
end Go.Proofs.YtnapockikkbkcaaGreat
namespace Go.Proofs.YtnapockikkbkcaaGreat
open Go Go.Abs
attribute [local irreducible] exK opsK opK gK forkK kr acall callOp owhen obind
theorem at_mid {α : Type} {l : List α} {pre r : List α} {n : α} (h : l = pre ++ n :: r) : l[pre.length]? = some n := by rw [h]; simp
theorem lt_mid {α : Type} {l : List α} {pre r : List α} {n : α} (h : l = pre ++ n :: r) : ((pre.length : Int) < (l.length : Int)) = True := by rw [h]; simp; omega
theorem lt_end {α : Type} {l : List α} {pre : List α} (h : l = pre ++ []) : ((pre.length : Int) < (l.length : Int)) = False := by rw [h]; simp
theorem step_len {α : Type} {pre : List α} {n : α} : ((pre.length : Int) + 1) = ((pre ++ [n]).length : Int) := by simp
def placeGo (ino : Int) : List Node → Nat → Int
  | [], _ => -1
  | n :: r, i => if n.ino = ino then i else placeGo ino r (i + 1)
theorem loop88 {t : Tree} {ino : Int} (ht : t.nodes.length ≤ 100000) {k : List K} {R : Int → Option (AVal × AMem)}
    (hx : ∀ e, kr (acall tab) [.tmp 4] 0 k ⟨.exit 0, e, [.cells (eTreeC t)]⟩ = R (-1)) (hr : ∀ (i : Nat), kr (acall tab) [.tmp 4] 0 k ⟨.ret, [(4, .int .i64 i)], [.cells (eTreeC t)]⟩ = R i) :
    ∀ (l pre : List Node), t.nodes = pre ++ l → exK (acall tab) [.tmp 4] 0 k (.loop [1, 2, 5] lb88_0) [(1, .int .i64 ino), (2, .ptr 0 0), (5, .int .i64 pre.length)] [.cells (eTreeC t)] = R (placeGo ino l pre.length) := by
  intro l
  induction l with
  | nil =>
    intro pre h
    rw [exK_loop]
    simp only [E88, eTreeC, eNodes, lt_end h, EVT, EVD, ↓reduceIte, Nat.reduceEqDiff, reduceCtorEq, Nat.reduceAdd, Nat.reduceLeDiff, ne_eq, Nat.reduceLT, Int.reduceLT, Int.reduceLE, Int.reduceNeg]
    exact hx _
  | cons n r ih =>
    intro pre h
    rw [exK_loop]
    have hlen : pre.length + 1 ≤ 100000 := by rw [h] at ht; simp at ht; omega
    have hw : IntKind.i64.wrap ((pre.length : Int) + 1) = ((pre ++ [n]).length : Int) := by rw [wrap_small (by omega) (by omega)]; exact step_len
    simp only [E88, eTreeC, eNodes, lt_mid h, at_mid h, eNodeC, EVT, EVD, ↓reduceIte, Nat.reduceEqDiff, reduceCtorEq, Nat.reduceAdd, Nat.reduceLeDiff, ne_eq, Nat.reduceLT, Int.reduceLT, Int.reduceLE, Int.reduceNeg]
    refine fork_split (fun hb => ?_) (fun hb => ?_)
    · have hb : n.ino = ino := by simpa using hb
      simp only [E88, EVT, EVD, ↓reduceIte, Nat.reduceEqDiff, reduceCtorEq, Nat.reduceAdd, Nat.reduceLeDiff, ne_eq, Nat.reduceLT, Int.reduceLT, Int.reduceLE, Int.reduceNeg]
      rw [placeGo, if_pos hb]
      exact hr _
    · have hb : ¬ n.ino = ino := by simpa using hb
      simp only [E88, hw, EVT, EVD, ↓reduceIte, Nat.reduceEqDiff, reduceCtorEq, Nat.reduceAdd, Nat.reduceLeDiff, ne_eq, Nat.reduceLT, Int.reduceLT, Int.reduceLE, Int.reduceNeg]
      rw [placeGo, if_neg hb]
      have := ih (pre ++ [n]) (by rw [h]; simp)
      simp only [List.length_append, List.length_cons, List.length_nil] at this ⊢
      exact this
theorem c88 (t : Tree) (ino : Int) (ht : t.nodes.length ≤ 100000) : acall tab 88 [eTree t, .int .i64 ino] [] = some (.int .i64 (placeGo ino t.nodes 0), []) := by
  refine acall_ex rfl rfl rfl ?_
  simp only [fn88, E88, eTree, EVT, EVD, ↓reduceIte, Nat.reduceEqDiff, reduceCtorEq, Nat.reduceAdd, Nat.reduceLeDiff, ne_eq, Nat.reduceLT, Int.reduceLT, Int.reduceLE, Int.reduceNeg]
  exact loop88 (R := fun z => some (.int .i64 z, [])) ht (fun e => by simp only [E88, EVT, EVD, ↓reduceIte, Nat.reduceEqDiff, reduceCtorEq, Nat.reduceAdd, Nat.reduceLeDiff, ne_eq, Nat.reduceLT, Int.reduceLT, Int.reduceLE, Int.reduceNeg]) (fun i => by simp only [E88, EVT, EVD, ↓reduceIte, Nat.reduceEqDiff, reduceCtorEq, Nat.reduceAdd, Nat.reduceLeDiff, ne_eq, Nat.reduceLT, Int.reduceLT, Int.reduceLE, Int.reduceNeg]) t.nodes [] rfl
theorem k88 (nodes : List Node) (next cookie ino : Int) (h : nodes.length ≤ 100000) (M : AMem) : callOp (acall tab) 88 [.agg [eNodes nodes, .int .i64 next, .int .i64 cookie], .int .i64 ino] M = some (.int .i64 (placeGo ino nodes 0), M) :=
  callOp0 (c88 ⟨nodes, next, cookie⟩ ino h) rfl rfl rfl rfl rfl M
def find (nodes : List Node) (ino : Int) : Option Node := nodes.find? fun n => n.ino == ino
theorem placeGo_spec (ino : Int) : ∀ (l : List Node) (i : Nat), (find l ino = none ∧ placeGo ino l i = -1) ∨ ∃ m n, l[m]? = some n ∧ find l ino = some n ∧ placeGo ino l i = ((i + m : Nat) : Int)
  | [], _ => .inl ⟨rfl, rfl⟩
  | n :: r, i => by
    unfold find placeGo
    by_cases h : n.ino = ino
    · exact .inr ⟨0, n, rfl, by simp [h], by simp [h]⟩
    · rcases placeGo_spec ino r (i + 1) with ⟨h1, h2⟩ | ⟨m, n', h1, h2, h3⟩
      · exact .inl ⟨by simp [h]; simpa [find] using h1, by simp [h, h2]⟩
      · exact .inr ⟨m + 1, n', by simpa using h1, by simp [h]; simpa [find] using h2, by simp [h, h3]; omega⟩
theorem c56 (t : Tree) (ino : Int) (ht : t.nodes.length ≤ 100000) : acall tab 56 [eTree t, .int .i64 ino] [] = some (.tuple [eNode ((find t.nodes ino).getD Node.zero), .bool (find t.nodes ino).isSome], []) := by
  refine acall_ex rfl rfl rfl ?_
  simp only [fn56, E56, eTree, eTreeC, k88, ht, EVT, EVD, ↓reduceIte, Nat.reduceEqDiff, reduceCtorEq, Nat.reduceAdd, Nat.reduceLeDiff, ne_eq, Nat.reduceLT, Int.reduceLT, Int.reduceLE, Int.reduceNeg]
  rcases placeGo_spec ino t.nodes 0 with ⟨h1, h2⟩ | ⟨m, n, h1, h2, h3⟩
  · rw [h2]
    simp only [E56, h1, EVT, EVD, ↓reduceIte, Nat.reduceEqDiff, reduceCtorEq, Nat.reduceAdd, Nat.reduceLeDiff, ne_eq, Nat.reduceLT, Int.reduceLT, Int.reduceLE, Int.reduceNeg]
    rfl
  · rw [h3]
    simp only [E56, h1, h2, eNodes, eNodeC, EVT, EVD, ↓reduceIte, Nat.reduceEqDiff, reduceCtorEq, Nat.reduceAdd, Nat.reduceLeDiff, ne_eq, Nat.reduceLT, Int.reduceLT, Int.reduceLE, Int.reduceNeg]
    rfl
theorem k56 (nodes : List Node) (next cookie ino : Int) (h : nodes.length ≤ 100000) (M : AMem) : callOp (acall tab) 56 [.agg [eNodes nodes, .int .i64 next, .int .i64 cookie], .int .i64 ino] M = some (.tuple [eNode ((find nodes ino).getD Node.zero), .bool (find nodes ino).isSome], M) :=
  callOp0 (c56 ⟨nodes, next, cookie⟩ ino h) rfl rfl rfl rfl rfl M
def dirN (nodes : List Node) (ino : Int) : Node × Int := match find nodes ino with
  | none => (Node.zero, 70)
  | some n => if n.kind = 2 then (n, 0) else (Node.zero, 73)
theorem c99 (t : Tree) (ino : Int) (ht : t.nodes.length ≤ 100000) : acall tab 99 [eTree t, .int .i64 ino] [] = some (.tuple [eNode (dirN t.nodes ino).1, .int .i64 (dirN t.nodes ino).2], []) := by
  refine acall_ex rfl rfl rfl ?_
  simp only [fn99, E99, eTree, eTreeC, k56, ht, eNode, eNodeC, EVT, EVD, ↓reduceIte, Nat.reduceEqDiff, reduceCtorEq, Nat.reduceAdd, Nat.reduceLeDiff, ne_eq, Nat.reduceLT, Int.reduceLT, Int.reduceLE, Int.reduceNeg]
  unfold dirN
  cases hf : find t.nodes ino with
  | none => simp only [E99, Option.isSome, EVT, EVD, ↓reduceIte, Nat.reduceEqDiff, reduceCtorEq, Nat.reduceAdd, Nat.reduceLeDiff, ne_eq, Nat.reduceLT, Int.reduceLT, Int.reduceLE, Int.reduceNeg]; first | done | rfl
  | some n =>
    simp only [E99, Option.isSome, Option.getD_some, EVT, EVD, ↓reduceIte, Nat.reduceEqDiff, reduceCtorEq, Nat.reduceAdd, Nat.reduceLeDiff, ne_eq, Nat.reduceLT, Int.reduceLT, Int.reduceLE, Int.reduceNeg]
    repeat' (first | (refine fork_split (fun hb => ?_) (fun hb => ?_) <;> simp only [hb, E99, EVT, EVD, ↓reduceIte, Nat.reduceEqDiff, reduceCtorEq, Nat.reduceAdd, Nat.reduceLeDiff, ne_eq, Nat.reduceLT, Int.reduceLT, Int.reduceLE, Int.reduceNeg]) | (refine guard_split (fun hb => ?_) (fun hb => ?_) <;> simp only [hb, E99, EVT, EVD, ↓reduceIte, Nat.reduceEqDiff, reduceCtorEq, Nat.reduceAdd, Nat.reduceLeDiff, ne_eq, Nat.reduceLT, Int.reduceLT, Int.reduceLE, Int.reduceNeg]) | (refine opK_pick (fun hb => ?_) (fun hb => ?_) <;> simp only [hb, E99, EVT, EVD, ↓reduceIte, Nat.reduceEqDiff, reduceCtorEq, Nat.reduceAdd, Nat.reduceLeDiff, ne_eq, Nat.reduceLT, Int.reduceLT, Int.reduceLE, Int.reduceNeg]))
    all_goals simp_all [Node.zero]
theorem k99 (nodes : List Node) (next cookie ino : Int) (h : nodes.length ≤ 100000) (M : AMem) : callOp (acall tab) 99 [.agg [eNodes nodes, .int .i64 next, .int .i64 cookie], .int .i64 ino] M = some (.tuple [eNode (dirN nodes ino).1, .int .i64 (dirN nodes ino).2], M) :=
  callOp0 (c99 ⟨nodes, next, cookie⟩ ino h) rfl rfl rfl rfl rfl M
end Go.Proofs.YtnapockikkbkcaaGreat
namespace Go.Proofs.YtnapockikkbkcaaGreat
open Go Go.Abs
attribute [local irreducible] exK opsK opK gK forkK kr acall callOp owhen obind
def namedGo (s : Bytes) : List Ent → Nat → Int
  | [], _ => -1
  | n :: r, i => if n.name = s then i else namedGo s r (i + 1)
def findE (l : List Ent) (s : Bytes) : Option Ent := l.find? fun e => e.name == s
theorem namedGo_spec (s : Bytes) : ∀ (l : List Ent) (i : Nat), (findE l s = none ∧ namedGo s l i = -1) ∨ ∃ m n, l[m]? = some n ∧ findE l s = some n ∧ namedGo s l i = ((i + m : Nat) : Int)
  | [], _ => .inl ⟨rfl, rfl⟩
  | n :: r, i => by
    unfold findE namedGo
    by_cases h : n.name = s
    · exact .inr ⟨0, n, rfl, by simp [h], by simp [h]⟩
    · rcases namedGo_spec s r (i + 1) with ⟨h1, h2⟩ | ⟨m, n', h1, h2, h3⟩
      · exact .inl ⟨by simp [h]; simpa [findE] using h1, by simp [h, h2]⟩
      · exact .inr ⟨m + 1, n', by simpa using h1, by simp [h]; simpa [findE] using h2, by simp [h, h3]; omega⟩
theorem loop100 {t : Node} {s : Bytes} (ht : t.ents.length ≤ 100000) {k : List K} {R : Int → Option (AVal × AMem)}
    (hx : ∀ e, kr (acall tab) [.tmp 4] 0 k ⟨.exit 0, e, [.cells (eNodeC t)]⟩ = R (-1)) (hr : ∀ (i : Nat), kr (acall tab) [.tmp 4] 0 k ⟨.ret, [(4, .int .i64 i)], [.cells (eNodeC t)]⟩ = R i) :
    ∀ (l pre : List Ent), t.ents = pre ++ l → exK (acall tab) [.tmp 4] 0 k (.loop [1, 2, 5] lb100_0) [(1, .str s), (2, .ptr 0 0), (5, .int .i64 pre.length)] [.cells (eNodeC t)] = R (namedGo s l pre.length) := by
  intro l
  induction l with
  | nil =>
    intro pre h
    rw [exK_loop]
    simp only [E100, eNodeC, eEnts, lt_end h, EVT, EVD, ↓reduceIte, Nat.reduceEqDiff, reduceCtorEq, Nat.reduceAdd, Nat.reduceLeDiff, ne_eq, Nat.reduceLT, Int.reduceLT, Int.reduceLE, Int.reduceNeg]
    exact hx _
  | cons n r ih =>
    intro pre h
    rw [exK_loop]
    have hlen : pre.length + 1 ≤ 100000 := by rw [h] at ht; simp at ht; omega
    have hw : IntKind.i64.wrap ((pre.length : Int) + 1) = ((pre ++ [n]).length : Int) := by rw [wrap_small (by omega) (by omega)]; exact step_len
    simp only [E100, eNodeC, eEnts, lt_mid h, at_mid h, eEntC, EVT, EVD, ↓reduceIte, Nat.reduceEqDiff, reduceCtorEq, Nat.reduceAdd, Nat.reduceLeDiff, ne_eq, Nat.reduceLT, Int.reduceLT, Int.reduceLE, Int.reduceNeg]
    refine fork_split (fun hb => ?_) (fun hb => ?_)
    · have hb : n.name = s := by simpa using hb
      simp only [E100, EVT, EVD, ↓reduceIte, Nat.reduceEqDiff, reduceCtorEq, Nat.reduceAdd, Nat.reduceLeDiff, ne_eq, Nat.reduceLT, Int.reduceLT, Int.reduceLE, Int.reduceNeg]
      rw [namedGo, if_pos hb]
      exact hr _
    · have hb : ¬ n.name = s := by simpa using hb
      simp only [E100, hw, EVT, EVD, ↓reduceIte, Nat.reduceEqDiff, reduceCtorEq, Nat.reduceAdd, Nat.reduceLeDiff, ne_eq, Nat.reduceLT, Int.reduceLT, Int.reduceLE, Int.reduceNeg]
      rw [namedGo, if_neg hb]
      have := ih (pre ++ [n]) (by rw [h]; simp)
      simp only [List.length_append, List.length_cons, List.length_nil] at this ⊢
      exact this
theorem c100 (t : Node) (s : Bytes) (ht : t.ents.length ≤ 100000) : acall tab 100 [eNode t, .str s] [] = some (.int .i64 (namedGo s t.ents 0), []) := by
  refine acall_ex rfl rfl rfl ?_
  simp only [fn100, E100, eNode, EVT, EVD, ↓reduceIte, Nat.reduceEqDiff, reduceCtorEq, Nat.reduceAdd, Nat.reduceLeDiff, ne_eq, Nat.reduceLT, Int.reduceLT, Int.reduceLE, Int.reduceNeg]
  exact loop100 (R := fun z => some (.int .i64 z, [])) ht (fun e => by simp only [E100, EVT, EVD, ↓reduceIte, Nat.reduceEqDiff, reduceCtorEq, Nat.reduceAdd, Nat.reduceLeDiff, ne_eq, Nat.reduceLT, Int.reduceLT, Int.reduceLE, Int.reduceNeg]) (fun i => by simp only [E100, EVT, EVD, ↓reduceIte, Nat.reduceEqDiff, reduceCtorEq, Nat.reduceAdd, Nat.reduceLeDiff, ne_eq, Nat.reduceLT, Int.reduceLT, Int.reduceLE, Int.reduceNeg]) t.ents [] rfl
theorem k100 (a b c : Int) (d : Bytes) (e : List Ent) (u : Int) (s : Bytes) (h : e.length ≤ 100000) (M : AMem) : callOp (acall tab) 100 [.agg [.int .i64 a, .int .i64 b, .int .i64 c, eData d, eEnts e, .int .i64 u], .str s] M = some (.int .i64 (namedGo s e 0), M) :=
  callOp0 (c100 ⟨a, b, c, d, e, u⟩ s h) rfl rfl rfl rfl rfl M
def okByte (b : UInt8) : Bool := !(decide ((b.toNat : Int) < 32) || ((b.toNat : Int) == 47))
def nameOk (s : Bytes) : Bool := !(decide ((s.length : Int) < 1) || (decide ((s.length : Int) > 32) || (s == [46] || s == [46, 46]))) && s.all okByte
theorem loop22 {s : Bytes} (hs : s.length ≤ 100000) {k : List K} {R : Bool → Option (AVal × AMem)}
    (hx : ∀ e, kr (acall tab) [.tmp 2] 0 k ⟨.exit 0, e, []⟩ = R true) (hr : kr (acall tab) [.tmp 2] 0 k ⟨.ret, [(2, .bool false)], []⟩ = R false) :
    ∀ (l pre : Bytes), s = pre ++ l → exK (acall tab) [.tmp 2] 0 k (.loop [0, 3] lb22_0) [(0, .str s), (3, .int .i64 pre.length)] [] = R (l.all okByte) := by
  intro l
  induction l with
  | nil =>
    intro pre h
    rw [exK_loop]
    simp only [E22, lt_end h, EVT, EVD, ↓reduceIte, Nat.reduceEqDiff, reduceCtorEq, Nat.reduceAdd, Nat.reduceLeDiff, ne_eq, Nat.reduceLT, Int.reduceLT, Int.reduceLE, Int.reduceNeg]
    exact hx _
  | cons n r ih =>
    intro pre h
    rw [exK_loop]
    have hlen : pre.length + 1 ≤ 100000 := by rw [h] at hs; simp at hs; omega
    have hw : IntKind.i64.wrap ((pre.length : Int) + 1) = ((pre ++ [n]).length : Int) := by rw [wrap_small (by omega) (by omega)]; exact step_len
    have hi := ih (pre ++ [n]) (by rw [h]; simp)
    simp only [List.length_append, List.length_cons, List.length_nil] at hi
    simp only [E22, lt_mid h, at_mid h, EVT, EVD, ↓reduceIte, Nat.reduceEqDiff, reduceCtorEq, Nat.reduceAdd, Nat.reduceLeDiff, ne_eq, Nat.reduceLT, Int.reduceLT, Int.reduceLE, Int.reduceNeg]
    repeat' (first | (refine fork_split (fun hb => ?_) (fun hb => ?_) <;> simp only [hb, E22, at_mid h, hw, EVT, EVD, ↓reduceIte, Nat.reduceEqDiff, reduceCtorEq, Nat.reduceAdd, Nat.reduceLeDiff, ne_eq, Nat.reduceLT, Int.reduceLT, Int.reduceLE, Int.reduceNeg]) | (refine guard_split (fun hb => ?_) (fun hb => ?_) <;> simp only [hb, E22, at_mid h, hw, EVT, EVD, ↓reduceIte, Nat.reduceEqDiff, reduceCtorEq, Nat.reduceAdd, Nat.reduceLeDiff, ne_eq, Nat.reduceLT, Int.reduceLT, Int.reduceLE, Int.reduceNeg]) | (refine opK_pick (fun hb => ?_) (fun hb => ?_) <;> simp only [hb, E22, at_mid h, hw, EVT, EVD, ↓reduceIte, Nat.reduceEqDiff, reduceCtorEq, Nat.reduceAdd, Nat.reduceLeDiff, ne_eq, Nat.reduceLT, Int.reduceLT, Int.reduceLE, Int.reduceNeg]))
    all_goals try simp only [E22, List.length_append, List.length_cons, List.length_nil, EVT, EVD, ↓reduceIte, Nat.reduceEqDiff, reduceCtorEq, Nat.reduceAdd, Nat.reduceLeDiff, ne_eq, Nat.reduceLT, Int.reduceLT, Int.reduceLE, Int.reduceNeg]
    all_goals first
      | (refine hr.trans ?_; congr 1; symm; simp_all [okByte]; done)
      | (refine hi.trans ?_; congr 1; symm; simp_all [okByte]; done)
theorem c22 (s : Bytes) (hs : s.length ≤ 100000) : acall tab 22 [.str s] [] = some (.bool (nameOk s), []) := by
  refine acall_ex rfl rfl rfl ?_
  simp only [fn22, E22, EVT, EVD, ↓reduceIte, Nat.reduceEqDiff, reduceCtorEq, Nat.reduceAdd, Nat.reduceLeDiff, ne_eq, Nat.reduceLT, Int.reduceLT, Int.reduceLE, Int.reduceNeg]
  have hl := fun k hx hr => loop22 (k := k) (R := fun b => some (AVal.bool b, [])) hs hx hr s [] rfl
  repeat' (first | (refine fork_split (fun hb => ?_) (fun hb => ?_) <;> simp only [hb, E22, EVT, EVD, ↓reduceIte, Nat.reduceEqDiff, reduceCtorEq, Nat.reduceAdd, Nat.reduceLeDiff, ne_eq, Nat.reduceLT, Int.reduceLT, Int.reduceLE, Int.reduceNeg]) | (refine guard_split (fun hb => ?_) (fun hb => ?_) <;> simp only [hb, E22, EVT, EVD, ↓reduceIte, Nat.reduceEqDiff, reduceCtorEq, Nat.reduceAdd, Nat.reduceLeDiff, ne_eq, Nat.reduceLT, Int.reduceLT, Int.reduceLE, Int.reduceNeg]) | (refine opK_pick (fun hb => ?_) (fun hb => ?_) <;> simp only [hb, E22, EVT, EVD, ↓reduceIte, Nat.reduceEqDiff, reduceCtorEq, Nat.reduceAdd, Nat.reduceLeDiff, ne_eq, Nat.reduceLT, Int.reduceLT, Int.reduceLE, Int.reduceNeg]))
  all_goals first
    | (simp_all [nameOk]; done)
    | (refine (hl _ (fun e => by simp only [E22, EVT, EVD, ↓reduceIte, Nat.reduceEqDiff, reduceCtorEq, Nat.reduceAdd, Nat.reduceLeDiff, ne_eq, Nat.reduceLT, Int.reduceLT, Int.reduceLE, Int.reduceNeg]) (by simp only [E22, EVT, EVD, ↓reduceIte, Nat.reduceEqDiff, reduceCtorEq, Nat.reduceAdd, Nat.reduceLeDiff, ne_eq, Nat.reduceLT, Int.reduceLT, Int.reduceLE, Int.reduceNeg])).trans ?_; simp_all [nameOk]; done)
theorem k22 (s : Bytes) (hs : s.length ≤ 100000) (M : AMem) : callOp (acall tab) 22 [.str s] M = some (.bool (nameOk s), M) := callOp0 (c22 s hs) rfl rfl rfl rfl rfl M
def lookN (nodes : List Node) (ino : Int) (s : Bytes) : Int × Int :=
  if (dirN nodes ino).2 ≠ 0 then (0, (dirN nodes ino).2) else if nameOk s = false then (0, 60) else match findE (dirN nodes ino).1.ents s with
    | none => (0, 70)
    | some e => (e.ino, 0)
theorem find_mem {nodes : List Node} {ino : Int} {n : Node} (h : find nodes ino = some n) : n ∈ nodes ∧ n.ino = ino := by
  unfold find at h
  exact ⟨List.mem_of_find?_eq_some h, by simpa using List.find?_some h⟩
theorem dirN_ents {t : Tree} (hs : Small t) (ino : Int) : (dirN t.nodes ino).1.ents.length ≤ 100000 := by
  unfold dirN
  split
  · simp [Node.zero]
  · rename_i n hn
    split
    · exact hs.ents n (find_mem hn).1
    · simp [Node.zero]
theorem c96 (t : Tree) (ino : Int) (s : Bytes) (ht : Small t) (hs : s.length ≤ 100000) : acall tab 96 [eTree t, .int .i64 ino, .str s] [] = some (.tuple [.int .i64 (lookN t.nodes ino s).1, .int .i64 (lookN t.nodes ino s).2], []) := by
  refine acall_ex rfl rfl rfl ?_
  have hd := dirN_ents ht ino
  simp only [fn96, E96, eTree, eTreeC, k99, ht.nodes, eNode, eNodeC, EVT, EVD, ↓reduceIte, Nat.reduceEqDiff, reduceCtorEq, Nat.reduceAdd, Nat.reduceLeDiff, ne_eq, Nat.reduceLT, Int.reduceLT, Int.reduceLE, Int.reduceNeg]
  unfold lookN
  refine fork_split (fun hb => ?_) (fun hb => ?_)
  · simp only [E96, EVT, EVD, ↓reduceIte, Nat.reduceEqDiff, reduceCtorEq, Nat.reduceAdd, Nat.reduceLeDiff, ne_eq, Nat.reduceLT, Int.reduceLT, Int.reduceLE, Int.reduceNeg]
    simp_all
  · simp only [E96, k22, hs, EVT, EVD, ↓reduceIte, Nat.reduceEqDiff, reduceCtorEq, Nat.reduceAdd, Nat.reduceLeDiff, ne_eq, Nat.reduceLT, Int.reduceLT, Int.reduceLE, Int.reduceNeg]
    refine fork_split (fun hb' => ?_) (fun hb' => ?_)
    · simp only [E96, EVT, EVD, ↓reduceIte, Nat.reduceEqDiff, reduceCtorEq, Nat.reduceAdd, Nat.reduceLeDiff, ne_eq, Nat.reduceLT, Int.reduceLT, Int.reduceLE, Int.reduceNeg]
      simp_all
    · simp only [E96, k100, hd, EVT, EVD, ↓reduceIte, Nat.reduceEqDiff, reduceCtorEq, Nat.reduceAdd, Nat.reduceLeDiff, ne_eq, Nat.reduceLT, Int.reduceLT, Int.reduceLE, Int.reduceNeg]
      rcases namedGo_spec s (dirN t.nodes ino).1.ents 0 with ⟨h1, h2⟩ | ⟨m, n, h1, h2, h3⟩
      · rw [h2]
        simp only [E96, EVT, EVD, ↓reduceIte, Nat.reduceEqDiff, reduceCtorEq, Nat.reduceAdd, Nat.reduceLeDiff, ne_eq, Nat.reduceLT, Int.reduceLT, Int.reduceLE, Int.reduceNeg]
        simp_all
      · rw [h3]
        simp only [E96, h1, eEnts, eEntC, EVT, EVD, ↓reduceIte, Nat.reduceEqDiff, reduceCtorEq, Nat.reduceAdd, Nat.reduceLeDiff, ne_eq, Nat.reduceLT, Int.reduceLT, Int.reduceLE, Int.reduceNeg]
        simp_all
theorem k96 (nodes : List Node) (next cookie ino : Int) (s : Bytes) (ht : Small ⟨nodes, next, cookie⟩) (hs : s.length ≤ 100000) (M : AMem) : callOp (acall tab) 96 [.agg [eNodes nodes, .int .i64 next, .int .i64 cookie], .int .i64 ino, .str s] M =
    some (.tuple [.int .i64 (lookN nodes ino s).1, .int .i64 (lookN nodes ino s).2], M) := callOp0 (c96 ⟨nodes, next, cookie⟩ ino s ht hs) rfl rfl rfl rfl rfl M
end Go.Proofs.YtnapockikkbkcaaGreat
namespace Go.Proofs.YtnapockikkbkcaaGreat
open Go Go.Abs
attribute [local irreducible] exK opsK opK gK forkK kr acall callOp owhen obind
def zT : List AVal := [.slice .c0 [], .int .i64 0, .int .i64 0]
def withL (n : Node) : List Node → List Node → Bool → List Node × Bool
  | [], out, done => (out, done)
  | m :: r, out, done =>
    withL n r ((if (!done && decide (m.ino ≥ n.ino)) = true then out ++ [n] else out) ++ (if m.ino = n.ino then [] else [m])) (done || decide (m.ino ≥ n.ino))
def withN (nodes : List Node) (n : Node) : List Node := (withL n nodes [] false).1 ++ (if (withL n nodes [] false).2 = true then [] else [n])
theorem loop95 {t : Tree} {n : Node} (ht : t.nodes.length ≤ 100000) {k : List K} {R : List Node → Bool → Option (AVal × AMem)}
    (hx : ∀ out done v e, out.length ≤ 300000 → kr (acall tab) [.cellA 4 3] 0 k ⟨.exit 0, [(2, .ptr 0 0), (3, .ptr 1 0), (4, .ptr 2 0), (5, .slice (.own 3) (out.map eNode)), (6, .bool done), (7, v), (12, e)], [.cells (eTreeC t), .cells (eNodeC n), .cells zT, .tick 6 out.length]⟩ = R out done) :
    ∀ (l pre out : List Node) (done : Bool), t.nodes = pre ++ l → out.length + 2 * l.length ≤ 300000 → exK (acall tab) [.cellA 4 3] 0 k (.loop [2, 3, 4, 5, 6, 7] lb95_0) [(2, .ptr 0 0), (3, .ptr 1 0), (4, .ptr 2 0), (5, .slice (.own 3) (out.map eNode)), (6, .bool done), (7, .int .i64 pre.length)] [.cells (eTreeC t), .cells (eNodeC n), .cells zT, .tick 6 out.length] = R (withL n l out done).1 (withL n l out done).2 := by
  intro l
  induction l with
  | nil =>
    intro pre out done h ho
    rw [exK_loop]
    simp only [E95, eTreeC, eNodes, lt_end h, EVT, EVD, ↓reduceIte, Nat.reduceEqDiff, reduceCtorEq, Nat.reduceAdd, Nat.reduceLeDiff, ne_eq, Nat.reduceLT, Int.reduceLT, Int.reduceLE, Int.reduceNeg]
    exact hx _ _ _ _ (by simp at ho; omega)
  | cons m r ih =>
    intro pre out done h ho
    rw [exK_loop]
    have hlen : pre.length + 1 ≤ 100000 := by rw [h] at ht; simp at ht; omega
    have hw : IntKind.i64.wrap ((pre.length : Int) + 1) = ((pre ++ [m]).length : Int) := by rw [wrap_small (by omega) (by omega)]; exact step_len
    have hi := fun out done ho => ih (pre ++ [m]) out done (by rw [h]; simp) ho
    simp only [List.length_cons] at ho
    have r1 : roomOk (out.length + 1) 80 = True := room_ok (by omega) (by omega)
    have r2 : roomOk (out.length + 1 + 1) 80 = True := room_ok (by omega) (by omega)
    rw [withL]
    simp only [E95, eTreeC, eNodes, lt_mid h, at_mid h, eNodeC, EVT, EVD, ↓reduceIte, Nat.reduceEqDiff, reduceCtorEq, Nat.reduceAdd, Nat.reduceLeDiff, ne_eq, Nat.reduceLT, Int.reduceLT, Int.reduceLE, Int.reduceNeg]
    repeat' (first | (refine fork_split (fun hb => ?_) (fun hb => ?_) <;> simp only [hb, E95, at_mid h, hw, r1, r2, eNodeC, EVT, EVD, ↓reduceIte, Nat.reduceEqDiff, reduceCtorEq, Nat.reduceAdd, Nat.reduceLeDiff, ne_eq, Nat.reduceLT, Int.reduceLT, Int.reduceLE, Int.reduceNeg]) | (refine guard_split (fun hb => ?_) (fun hb => ?_) <;> simp only [hb, E95, at_mid h, hw, r1, r2, eNodeC, EVT, EVD, ↓reduceIte, Nat.reduceEqDiff, reduceCtorEq, Nat.reduceAdd, Nat.reduceLeDiff, ne_eq, Nat.reduceLT, Int.reduceLT, Int.reduceLE, Int.reduceNeg]) | (refine opK_pick (fun hb => ?_) (fun hb => ?_) <;> simp only [hb, E95, at_mid h, hw, r1, r2, eNodeC, EVT, EVD, ↓reduceIte, Nat.reduceEqDiff, reduceCtorEq, Nat.reduceAdd, Nat.reduceLeDiff, ne_eq, Nat.reduceLT, Int.reduceLT, Int.reduceLE, Int.reduceNeg]))
    all_goals try simp only [E95, at_mid h, hw, r1, r2, eNodeC, EVT, EVD, ↓reduceIte, Nat.reduceEqDiff, reduceCtorEq, Nat.reduceAdd, Nat.reduceLeDiff, ne_eq, Nat.reduceLT, Int.reduceLT, Int.reduceLE, Int.reduceNeg]
    all_goals first
      | (refine Eq.trans ?_ ((hi (out ++ [n] ++ [m]) true (by simp; omega)).trans ?_)
         · simp only [List.map_append, List.map_cons, List.map_nil, List.length_append, List.length_cons, List.length_nil]; rfl
         · clear hi ih hx hw h; simp_all; done)
      | (refine Eq.trans ?_ ((hi (out ++ [n]) true (by simp; omega)).trans ?_)
         · simp only [List.map_append, List.map_cons, List.map_nil, List.length_append, List.length_cons, List.length_nil]; rfl
         · clear hi ih hx hw h; simp_all; done)
      | (refine Eq.trans ?_ ((hi (out ++ [m]) done (by simp; omega)).trans ?_)
         · simp only [List.map_append, List.map_cons, List.map_nil, List.length_append, List.length_cons, List.length_nil]; rfl
         · clear hi ih hx hw h; simp_all; done)
      | (refine Eq.trans ?_ ((hi out done (by omega)).trans ?_)
         · simp only [List.map_append, List.map_cons, List.map_nil, List.length_append, List.length_cons, List.length_nil]; rfl
         · clear hi ih hx hw h; simp_all; done)
theorem c95 (t : Tree) (n : Node) (ht : t.nodes.length ≤ 100000) : acall tab 95 [eTree t, eNode n] [] = some (eTree ⟨withN t.nodes n, t.next, t.cookie⟩, []) := by
  refine acall_ex rfl rfl rfl ?_
  simp only [fn95, E95, eTree, eNode, EVT, EVD, ↓reduceIte, Nat.reduceEqDiff, reduceCtorEq, Nat.reduceAdd, Nat.reduceLeDiff, ne_eq, Nat.reduceLT, Int.reduceLT, Int.reduceLE, Int.reduceNeg]
  refine loop95 (R := fun out done => some (eTree ⟨out ++ (if done = true then [] else [n]), t.next, t.cookie⟩, [])) ht (fun out done v e ho => ?_) t.nodes [] [] false rfl (by simp; omega)
  have r1 : roomOk (out.length + 1) 80 = True := room_ok (by omega) (by omega)
  cases done
  · simp only [E95, r1, eTree, eTreeC, zT, eNodeC, EVT, EVD, ↓reduceIte, Nat.reduceEqDiff, reduceCtorEq, Nat.reduceAdd, Nat.reduceLeDiff, ne_eq, Nat.reduceLT, Int.reduceLT, Int.reduceLE, Int.reduceNeg]
    simp [eNodes, eNode, eNodeC]
  · simp only [E95, r1, eTree, eTreeC, zT, eNodeC, EVT, EVD, ↓reduceIte, Nat.reduceEqDiff, reduceCtorEq, Nat.reduceAdd, Nat.reduceLeDiff, ne_eq, Nat.reduceLT, Int.reduceLT, Int.reduceLE, Int.reduceNeg]
    try simp [eNodes]
theorem k95 (nodes : List Node) (next cookie a b c : Int) (d : Bytes) (e : List Ent) (u : Int) (h : nodes.length ≤ 100000) (M : AMem) : callOp (acall tab) 95 [.agg [eNodes nodes, .int .i64 next, .int .i64 cookie], .agg [.int .i64 a, .int .i64 b, .int .i64 c, eData d, eEnts e, .int .i64 u]] M =
    some (.agg [eNodes (withN nodes ⟨a, b, c, d, e, u⟩), .int .i64 next, .int .i64 cookie], M) := callOp0 (c95 ⟨nodes, next, cookie⟩ ⟨a, b, c, d, e, u⟩ h) rfl rfl rfl rfl rfl M
def withoutN (nodes : List Node) (ino : Int) : List Node := nodes.filter fun n => n.ino != ino
theorem loop105 {t : Tree} {ino : Int} (ht : t.nodes.length ≤ 100000) {k : List K} {R : List Node → Option (AVal × AMem)}
    (hx : ∀ out v e, out.length ≤ 300000 → kr (acall tab) [.cellA 4 3] 0 k ⟨.exit 0, [(1, .int .i64 ino), (2, .ptr 0 0), (4, .ptr 1 0), (5, .slice (.own 2) (out.map eNode)), (6, v), (11, e)], [.cells (eTreeC t), .cells zT, .tick 6 out.length]⟩ = R out) :
    ∀ (l pre out : List Node), t.nodes = pre ++ l → out.length + l.length ≤ 150000 → exK (acall tab) [.cellA 4 3] 0 k (.loop [1, 2, 4, 5, 6] lb105_0) [(1, .int .i64 ino), (2, .ptr 0 0), (4, .ptr 1 0), (5, .slice (.own 2) (out.map eNode)), (6, .int .i64 pre.length)] [.cells (eTreeC t), .cells zT, .tick 6 out.length] = R (out ++ withoutN l ino) := by
  intro l
  induction l with
  | nil =>
    intro pre out h ho
    rw [exK_loop]
    simp only [E105, eTreeC, eNodes, lt_end h, EVT, EVD, ↓reduceIte, Nat.reduceEqDiff, reduceCtorEq, Nat.reduceAdd, Nat.reduceLeDiff, ne_eq, Nat.reduceLT, Int.reduceLT, Int.reduceLE, Int.reduceNeg]
    refine (hx _ _ _ (by simp at ho; omega)).trans (by simp [withoutN])
  | cons m r ih =>
    intro pre out h ho
    rw [exK_loop]
    have hlen : pre.length + 1 ≤ 100000 := by rw [h] at ht; simp at ht; omega
    have hw : IntKind.i64.wrap ((pre.length : Int) + 1) = ((pre ++ [m]).length : Int) := by rw [wrap_small (by omega) (by omega)]; exact step_len
    have hi := fun out ho => ih (pre ++ [m]) out (by rw [h]; simp) ho
    simp only [List.length_cons] at ho
    have r1 : roomOk (out.length + 1) 80 = True := room_ok (by omega) (by omega)
    simp only [E105, eTreeC, eNodes, lt_mid h, at_mid h, eNodeC, EVT, EVD, ↓reduceIte, Nat.reduceEqDiff, reduceCtorEq, Nat.reduceAdd, Nat.reduceLeDiff, ne_eq, Nat.reduceLT, Int.reduceLT, Int.reduceLE, Int.reduceNeg]
    repeat' (first | (refine fork_split (fun hb => ?_) (fun hb => ?_) <;> simp only [hb, E105, at_mid h, hw, r1, eNodeC, EVT, EVD, ↓reduceIte, Nat.reduceEqDiff, reduceCtorEq, Nat.reduceAdd, Nat.reduceLeDiff, ne_eq, Nat.reduceLT, Int.reduceLT, Int.reduceLE, Int.reduceNeg]) | (refine guard_split (fun hb => ?_) (fun hb => ?_) <;> simp only [hb, E105, at_mid h, hw, r1, eNodeC, EVT, EVD, ↓reduceIte, Nat.reduceEqDiff, reduceCtorEq, Nat.reduceAdd, Nat.reduceLeDiff, ne_eq, Nat.reduceLT, Int.reduceLT, Int.reduceLE, Int.reduceNeg]) | (refine opK_pick (fun hb => ?_) (fun hb => ?_) <;> simp only [hb, E105, at_mid h, hw, r1, eNodeC, EVT, EVD, ↓reduceIte, Nat.reduceEqDiff, reduceCtorEq, Nat.reduceAdd, Nat.reduceLeDiff, ne_eq, Nat.reduceLT, Int.reduceLT, Int.reduceLE, Int.reduceNeg]))
    all_goals first
      | (refine Eq.trans ?_ ((hi (out ++ [m]) (by simp; omega)).trans ?_)
         · simp only [List.map_append, List.map_cons, List.map_nil, List.length_append, List.length_cons, List.length_nil]; rfl
         · clear hi ih hx hw h; simp_all[withoutN]; done)
      | (refine Eq.trans ?_ ((hi out (by omega)).trans ?_)
         · simp only [List.map_append, List.map_cons, List.map_nil, List.length_append, List.length_cons, List.length_nil]; rfl
         · clear hi ih hx hw h; simp_all[withoutN]; done)
theorem c105 (t : Tree) (ino : Int) (ht : t.nodes.length ≤ 100000) : acall tab 105 [eTree t, .int .i64 ino] [] = some (eTree ⟨withoutN t.nodes ino, t.next, t.cookie⟩, []) := by
  refine acall_ex rfl rfl rfl ?_
  simp only [fn105, E105, eTree, EVT, EVD, ↓reduceIte, Nat.reduceEqDiff, reduceCtorEq, Nat.reduceAdd, Nat.reduceLeDiff, ne_eq, Nat.reduceLT, Int.reduceLT, Int.reduceLE, Int.reduceNeg]
  refine (loop105 (R := fun out => some (eTree ⟨out, t.next, t.cookie⟩, [])) ht (fun out v e ho => ?_) t.nodes [] [] rfl (by simp; omega)).trans (by simp [eTree])
  simp only [E105, eTree, eTreeC, zT, EVT, EVD, ↓reduceIte, Nat.reduceEqDiff, reduceCtorEq, Nat.reduceAdd, Nat.reduceLeDiff, ne_eq, Nat.reduceLT, Int.reduceLT, Int.reduceLE, Int.reduceNeg]
  try simp [eNodes]
theorem k105 (nodes : List Node) (next cookie ino : Int) (h : nodes.length ≤ 100000) (M : AMem) : callOp (acall tab) 105 [.agg [eNodes nodes, .int .i64 next, .int .i64 cookie], .int .i64 ino] M =
    some (.agg [eNodes (withoutN nodes ino), .int .i64 next, .int .i64 cookie], M) := callOp0 (c105 ⟨nodes, next, cookie⟩ ino h) rfl rfl rfl rfl rfl M
def dropE (l : List Ent) (s : Bytes) : List Ent := l.filter fun e => e.name != s
theorem loop98 {T : List AVal} {n : Node} {s : Bytes} (hn : n.ents.length ≤ 100000) {k : List K} {R : List Ent → Option (AVal × AMem)}
    (hx : ∀ out v e, out.length ≤ 300000 → kr (acall tab) [.cellA 6 3] 0 k ⟨.exit 0, [(2, .str s), (3, .ptr 0 0), (6, .ptr 1 0), (7, .ptr 2 0), (9, .slice (.own 3) (out.map eEnt)), (10, v), (21, e)], [.cells T, .cells zT, .cells (eNodeC n), .tick 3 out.length]⟩ = R out)
    (hT : ∀ B M, T.map (AVal.back1 B M) = T) :
    ∀ (l pre out : List Ent), n.ents = pre ++ l → out.length + l.length ≤ 150000 → exK (acall tab) [.cellA 6 3] 0 k (.loop [2, 3, 6, 7, 9, 10] lb98_0) [(2, .str s), (3, .ptr 0 0), (6, .ptr 1 0), (7, .ptr 2 0), (9, .slice (.own 3) (out.map eEnt)), (10, .int .i64 pre.length)] [.cells T, .cells zT, .cells (eNodeC n), .tick 3 out.length] = R (out ++ dropE l s) := by
  intro l
  induction l with
  | nil =>
    intro pre out h ho
    rw [exK_loop]
    simp only [E98, eNodeC, eEnts, lt_end h, EVT, EVD, ↓reduceIte, Nat.reduceEqDiff, reduceCtorEq, Nat.reduceAdd, Nat.reduceLeDiff, ne_eq, Nat.reduceLT, Int.reduceLT, Int.reduceLE, Int.reduceNeg]
    refine (hx _ _ _ (by simp at ho; omega)).trans (by simp [dropE])
  | cons m r ih =>
    intro pre out h ho
    rw [exK_loop]
    have hlen : pre.length + 1 ≤ 100000 := by rw [h] at hn; simp at hn; omega
    have hw : IntKind.i64.wrap ((pre.length : Int) + 1) = ((pre ++ [m]).length : Int) := by rw [wrap_small (by omega) (by omega)]; exact step_len
    have hi := fun out ho => ih (pre ++ [m]) out (by rw [h]; simp) ho
    simp only [List.length_cons] at ho
    have r1 : roomOk (out.length + 1) 32 = True := room_ok (by omega) (by omega)
    simp only [E98, eNodeC, eEnts, lt_mid h, at_mid h, eEntC, hT, zT, EVT, EVD, ↓reduceIte, Nat.reduceEqDiff, reduceCtorEq, Nat.reduceAdd, Nat.reduceLeDiff, ne_eq, Nat.reduceLT, Int.reduceLT, Int.reduceLE, Int.reduceNeg]
    repeat' (first | (refine fork_split (fun hb => ?_) (fun hb => ?_) <;> simp only [hb, E98, at_mid h, hw, r1, eEntC, hT, zT, EVT, EVD, ↓reduceIte, Nat.reduceEqDiff, reduceCtorEq, Nat.reduceAdd, Nat.reduceLeDiff, ne_eq, Nat.reduceLT, Int.reduceLT, Int.reduceLE, Int.reduceNeg]) | (refine guard_split (fun hb => ?_) (fun hb => ?_) <;> simp only [hb, E98, at_mid h, hw, r1, eEntC, hT, zT, EVT, EVD, ↓reduceIte, Nat.reduceEqDiff, reduceCtorEq, Nat.reduceAdd, Nat.reduceLeDiff, ne_eq, Nat.reduceLT, Int.reduceLT, Int.reduceLE, Int.reduceNeg]) | (refine opK_pick (fun hb => ?_) (fun hb => ?_) <;> simp only [hb, E98, at_mid h, hw, r1, eEntC, hT, zT, EVT, EVD, ↓reduceIte, Nat.reduceEqDiff, reduceCtorEq, Nat.reduceAdd, Nat.reduceLeDiff, ne_eq, Nat.reduceLT, Int.reduceLT, Int.reduceLE, Int.reduceNeg]))
    all_goals first
      | (refine Eq.trans ?_ ((hi (out ++ [m]) (by simp; omega)).trans ?_)
         · simp only [List.map_append, List.map_cons, List.map_nil, List.length_append, List.length_cons, List.length_nil]; rfl
         · clear hi ih hx hw h hT; simp_all[dropE]; done)
      | (refine Eq.trans ?_ ((hi out (by omega)).trans ?_)
         · simp only [List.map_append, List.map_cons, List.map_nil, List.length_append, List.length_cons, List.length_nil]; rfl
         · clear hi ih hx hw h hT; simp_all[dropE]; done)
def leftN (nodes : List Node) (ino : Int) (s : Bytes) : List Node := withN nodes { (find nodes ino).getD Node.zero with ents := dropE ((find nodes ino).getD Node.zero).ents s }
theorem find_ents {t : Tree} (hs : Small t) (ino : Int) : ((find t.nodes ino).getD Node.zero).ents.length ≤ 100000 := by
  cases h : find t.nodes ino with
  | none => simp [Node.zero]
  | some n => exact hs.ents n (find_mem h).1
theorem c98 (t : Tree) (ino : Int) (s : Bytes) (ht : Small t) : acall tab 98 [eTree t, .int .i64 ino, .str s] [] = some (eTree ⟨leftN t.nodes ino s, t.next, t.cookie⟩, []) := by
  refine acall_ex rfl rfl rfl ?_
  have hd := find_ents ht ino
  unfold leftN
  simp only [fn98, E98, eTree, eTreeC, k56, ht.nodes, eNode, EVT, EVD, ↓reduceIte, Nat.reduceEqDiff, reduceCtorEq, Nat.reduceAdd, Nat.reduceLeDiff, ne_eq, Nat.reduceLT, Int.reduceLT, Int.reduceLE, Int.reduceNeg]
  generalize (find t.nodes ino).getD Node.zero = n at hd ⊢
  simp only [E98, eNodeC, EVT, EVD, ↓reduceIte, Nat.reduceEqDiff, reduceCtorEq, Nat.reduceAdd, Nat.reduceLeDiff, ne_eq, Nat.reduceLT, Int.reduceLT, Int.reduceLE, Int.reduceNeg]
  refine (loop98 (R := fun out => some (eTree ⟨withN t.nodes { n with ents := out }, t.next, t.cookie⟩, [])) hd (fun out v e ho => ?_) (fun B M => by simp only [E98, EVT, EVD, ↓reduceIte, Nat.reduceEqDiff, reduceCtorEq, Nat.reduceAdd, Nat.reduceLeDiff, ne_eq, Nat.reduceLT, Int.reduceLT, Int.reduceLE, Int.reduceNeg]) n.ents [] [] rfl (by simp; omega)).trans (by simp [eTree, eTreeC])
  simp only [E98, zT, eNodeC, k95, ht.nodes, EVT, EVD, ↓reduceIte, Nat.reduceEqDiff, reduceCtorEq, Nat.reduceAdd, Nat.reduceLeDiff, ne_eq, Nat.reduceLT, Int.reduceLT, Int.reduceLE, Int.reduceNeg]
  simp [eTree, eTreeC]
end Go.Proofs.YtnapockikkbkcaaGreat
namespace Go.Proofs.YtnapockikkbkcaaGreat
open Go Go.Abs
attribute [local irreducible] exK opsK opK gK forkK kr acall callOp owhen obind
theorem k98 (nodes : List Node) (next cookie ino : Int) (s : Bytes) (ht : Small ⟨nodes, next, cookie⟩) (M : AMem) : callOp (acall tab) 98 [.agg [eNodes nodes, .int .i64 next, .int .i64 cookie], .int .i64 ino, .str s] M =
    some (.agg [eNodes (leftN nodes ino s), .int .i64 next, .int .i64 cookie], M) := callOp0 (c98 ⟨nodes, next, cookie⟩ ino s ht) rfl rfl rfl rfl rfl M
abbrev w64 (n : Int) : Int := IntKind.i64.wrap n
def gtB (a b : Bytes) : Bool := !(strLt a b || a == b)
def insL (e : Ent) : List Ent → List Ent → Bool → List Ent × Bool
  | [], out, done => (out, done)
  | m :: r, out, done => insL e r ((if (!done && gtB m.name e.name) = true then out ++ [e] else out) ++ [m]) (done || gtB m.name e.name)
def insE (l : List Ent) (e : Ent) : List Ent := (insL e l [] false).1 ++ (if (insL e l [] false).2 = true then [] else [e])
theorem loop94 {T : List AVal} {n : Node} {e : Ent} (hn : n.ents.length ≤ 100000) {k : List K} {R : List Ent → Bool → Option (AVal × AMem)}
    (hx : ∀ out done v q, out.length ≤ 300000 → kr (acall tab) [.cellA 8 3] 0 k ⟨.exit 0, [(2, .str e.name), (4, .ptr 0 0), (8, .ptr 1 0), (9, .ptr 2 0), (11, .ptr 3 0), (12, .slice (.own 4) (out.map eEnt)), (13, .bool done), (14, v), (30, q)], [.cells T, .cells zT, .cells (eNodeC n), .cells (eEntC e), .tick 3 out.length]⟩ = R out done)
    (hT : ∀ B M, T.map (AVal.back1 B M) = T) :
    ∀ (l pre out : List Ent) (done : Bool), n.ents = pre ++ l → out.length + 2 * l.length ≤ 300000 → exK (acall tab) [.cellA 8 3] 0 k (.loop [2, 4, 8, 9, 11, 12, 13, 14] lb94_0) [(2, .str e.name), (4, .ptr 0 0), (8, .ptr 1 0), (9, .ptr 2 0), (11, .ptr 3 0), (12, .slice (.own 4) (out.map eEnt)), (13, .bool done), (14, .int .i64 pre.length)] [.cells T, .cells zT, .cells (eNodeC n), .cells (eEntC e), .tick 3 out.length] = R (insL e l out done).1 (insL e l out done).2 := by
  intro l
  induction l with
  | nil =>
    intro pre out done h ho
    rw [exK_loop]
    simp only [E94, eNodeC, eEnts, lt_end h, EVT, EVD, ↓reduceIte, Nat.reduceEqDiff, reduceCtorEq, Nat.reduceAdd, Nat.reduceLeDiff, ne_eq, Nat.reduceLT, Int.reduceLT, Int.reduceLE, Int.reduceNeg]
    exact hx _ _ _ _ (by simp at ho; omega)
  | cons m r ih =>
    intro pre out done h ho
    rw [exK_loop]
    have hlen : pre.length + 1 ≤ 100000 := by rw [h] at hn; simp at hn; omega
    have hw : IntKind.i64.wrap ((pre.length : Int) + 1) = ((pre ++ [m]).length : Int) := by rw [wrap_small (by omega) (by omega)]; exact step_len
    have hi := fun out done ho => ih (pre ++ [m]) out done (by rw [h]; simp) ho
    simp only [List.length_cons] at ho
    have r1 : roomOk (out.length + 1) 32 = True := room_ok (by omega) (by omega)
    have r2 : roomOk (out.length + 1 + 1) 32 = True := room_ok (by omega) (by omega)
    have hg : (!(strLt m.name e.name || m.name == e.name)) = gtB m.name e.name := rfl
    rw [insL]
    simp only [E94, hg, eNodeC, eEnts, lt_mid h, at_mid h, eEntC, hT, zT, EVT, EVD, ↓reduceIte, Nat.reduceEqDiff, reduceCtorEq, Nat.reduceAdd, Nat.reduceLeDiff, ne_eq, Nat.reduceLT, Int.reduceLT, Int.reduceLE, Int.reduceNeg]
    repeat' (first | (refine fork_split (fun hb => ?_) (fun hb => ?_) <;> simp only [hb, E94, at_mid h, hw, r1, r2, eEntC, hT, zT, hg, EVT, EVD, ↓reduceIte, Nat.reduceEqDiff, reduceCtorEq, Nat.reduceAdd, Nat.reduceLeDiff, ne_eq, Nat.reduceLT, Int.reduceLT, Int.reduceLE, Int.reduceNeg]) | (refine guard_split (fun hb => ?_) (fun hb => ?_) <;> simp only [hb, E94, at_mid h, hw, r1, r2, eEntC, hT, zT, hg, EVT, EVD, ↓reduceIte, Nat.reduceEqDiff, reduceCtorEq, Nat.reduceAdd, Nat.reduceLeDiff, ne_eq, Nat.reduceLT, Int.reduceLT, Int.reduceLE, Int.reduceNeg]) | (refine opK_pick (fun hb => ?_) (fun hb => ?_) <;> simp only [hb, E94, at_mid h, hw, r1, r2, eEntC, hT, zT, hg, EVT, EVD, ↓reduceIte, Nat.reduceEqDiff, reduceCtorEq, Nat.reduceAdd, Nat.reduceLeDiff, ne_eq, Nat.reduceLT, Int.reduceLT, Int.reduceLE, Int.reduceNeg]))
    all_goals try simp only [E94, at_mid h, hw, r1, r2, eEntC, hT, zT, hg, EVT, EVD, ↓reduceIte, Nat.reduceEqDiff, reduceCtorEq, Nat.reduceAdd, Nat.reduceLeDiff, ne_eq, Nat.reduceLT, Int.reduceLT, Int.reduceLE, Int.reduceNeg]
    all_goals first
      | (refine Eq.trans ?_ ((hi (out ++ [e] ++ [m]) true (by simp; omega)).trans ?_)
         · simp only [List.map_append, List.map_cons, List.map_nil, List.length_append, List.length_cons, List.length_nil]; rfl
         · clear hi ih hx hw h hT hg; simp_all; done)
      | (refine Eq.trans ?_ ((hi (out ++ [m]) done (by simp; omega)).trans ?_)
         · simp only [List.map_append, List.map_cons, List.map_nil, List.length_append, List.length_cons, List.length_nil]; rfl
         · clear hi ih hx hw h hT hg; simp_all; done)
def enteredN (t : Tree) (ino : Int) (s : Bytes) (of : Int) : Tree :=
  ⟨withN t.nodes { (find t.nodes ino).getD Node.zero with ents := insE ((find t.nodes ino).getD Node.zero).ents ⟨s, of, t.cookie⟩ }, t.next, w64 (t.cookie + 1)⟩
theorem c94 (t : Tree) (ino : Int) (s : Bytes) (of : Int) (ht : Small t) : acall tab 94 [eTree t, .int .i64 ino, .str s, .int .i64 of] [] = some (eTree (enteredN t ino s of), []) := by
  refine acall_ex rfl rfl rfl ?_
  have hd := find_ents ht ino
  unfold enteredN
  simp only [fn94, E94, eTree, eTreeC, k56, ht.nodes, eNode, EVT, EVD, ↓reduceIte, Nat.reduceEqDiff, reduceCtorEq, Nat.reduceAdd, Nat.reduceLeDiff, ne_eq, Nat.reduceLT, Int.reduceLT, Int.reduceLE, Int.reduceNeg]
  generalize (find t.nodes ino).getD Node.zero = n at hd ⊢
  simp only [E94, eNodeC, EVT, EVD, ↓reduceIte, Nat.reduceEqDiff, reduceCtorEq, Nat.reduceAdd, Nat.reduceLeDiff, ne_eq, Nat.reduceLT, Int.reduceLT, Int.reduceLE, Int.reduceNeg]
  refine (loop94 (e := ⟨s, of, t.cookie⟩) (R := fun out done => some (eTree ⟨withN t.nodes { n with ents := out ++ (if done = true then [] else [⟨s, of, t.cookie⟩]) }, t.next, w64 (t.cookie + 1)⟩, [])) hd (fun out done v e ho => ?_) (fun B M => by simp only [E94, EVT, EVD, ↓reduceIte, Nat.reduceEqDiff, reduceCtorEq, Nat.reduceAdd, Nat.reduceLeDiff, ne_eq, Nat.reduceLT, Int.reduceLT, Int.reduceLE, Int.reduceNeg]) n.ents [] [] false rfl (by simp; omega)).trans (by simp [eTree, eTreeC, insE])
  have r1 : roomOk (out.length + 1) 32 = True := room_ok (by omega) (by omega)
  cases done
  · simp only [E94, zT, eNodeC, eEntC, r1, map_ent, k95, ht.nodes, EVT, EVD, ↓reduceIte, Nat.reduceEqDiff, reduceCtorEq, Nat.reduceAdd, Nat.reduceLeDiff, ne_eq, Nat.reduceLT, Int.reduceLT, Int.reduceLE, Int.reduceNeg]
    simp [eTree, eTreeC]
  · simp only [E94, zT, eNodeC, eEntC, r1, k95, ht.nodes, EVT, EVD, ↓reduceIte, Nat.reduceEqDiff, reduceCtorEq, Nat.reduceAdd, Nat.reduceLeDiff, ne_eq, Nat.reduceLT, Int.reduceLT, Int.reduceLE, Int.reduceNeg]
    simp [eTree, eTreeC]
theorem k94 (nodes : List Node) (next cookie ino : Int) (s : Bytes) (of : Int) (ht : Small ⟨nodes, next, cookie⟩) (M : AMem) : callOp (acall tab) 94 [.agg [eNodes nodes, .int .i64 next, .int .i64 cookie], .int .i64 ino, .str s, .int .i64 of] M =
    some (eTree (enteredN ⟨nodes, next, cookie⟩ ino s of), M) := callOp0 (c94 ⟨nodes, next, cookie⟩ ino s of ht) rfl rfl rfl rfl rfl M
def upOf (nodes : List Node) (ino : Int) : Int := ((find nodes ino).getD Node.zero).up
def depthGo (nodes : List Node) : Nat → Int → Nat → Nat
  | 0, _, d => d
  | m + 1, ino, d => if ino = 1 then d else depthGo nodes m (upOf nodes ino) (d + 1)
def depthN (nodes : List Node) (ino : Int) : Nat := depthGo nodes 201 ino 0
theorem loop103 {t : Tree} (ht : t.nodes.length ≤ 100000) {k : List K} {R : Nat → Option (AVal × AMem)}
    (hx : ∀ (d : Nat) v q, kr (acall tab) [.tmp 4] 0 k ⟨.exit 0, [(1, v), (2, .ptr 0 0), (5, .int .i64 d), (13, q)], [.cells (eTreeC t)]⟩ = R d) :
    ∀ (m : Nat) (ino : Int) (d : Nat), d + m = 201 → exK (acall tab) [.tmp 4] 0 k (.loop [1, 2, 5] lb103_0) [(1, .int .i64 ino), (2, .ptr 0 0), (5, .int .i64 d)] [.cells (eTreeC t)] = R (depthGo t.nodes m ino d) := by
  intro m
  induction m with
  | zero =>
    intro ino d hd
    rw [exK_loop]
    have hd' : ((d : Int) ≤ 200) = False := by simp; omega
    simp only [E103, EVT, EVD, ↓reduceIte, Nat.reduceEqDiff, reduceCtorEq, Nat.reduceAdd, Nat.reduceLeDiff, ne_eq, Nat.reduceLT, Int.reduceLT, Int.reduceLE, Int.reduceNeg]
    repeat' (first | (refine fork_split (fun hb => ?_) (fun hb => ?_) <;> simp only [hb, E103, hd', EVT, EVD, ↓reduceIte, Nat.reduceEqDiff, reduceCtorEq, Nat.reduceAdd, Nat.reduceLeDiff, ne_eq, Nat.reduceLT, Int.reduceLT, Int.reduceLE, Int.reduceNeg]) | (refine guard_split (fun hb => ?_) (fun hb => ?_) <;> simp only [hb, E103, hd', EVT, EVD, ↓reduceIte, Nat.reduceEqDiff, reduceCtorEq, Nat.reduceAdd, Nat.reduceLeDiff, ne_eq, Nat.reduceLT, Int.reduceLT, Int.reduceLE, Int.reduceNeg]) | (refine opK_pick (fun hb => ?_) (fun hb => ?_) <;> simp only [hb, E103, hd', EVT, EVD, ↓reduceIte, Nat.reduceEqDiff, reduceCtorEq, Nat.reduceAdd, Nat.reduceLeDiff, ne_eq, Nat.reduceLT, Int.reduceLT, Int.reduceLE, Int.reduceNeg]))
    all_goals exact hx _ _ _
  | succ m ih =>
    intro ino d hd
    rw [exK_loop]
    have hd' : ((d : Int) ≤ 200) = True := by simp; omega
    have hw : IntKind.i64.wrap ((d : Int) + 1) = ((d + 1 : Nat) : Int) := by rw [wrap_small (by omega) (by omega)]; rfl
    have hi := fun ino => ih ino (d + 1) (by omega)
    rw [depthGo]
    simp only [E103, EVT, EVD, ↓reduceIte, Nat.reduceEqDiff, reduceCtorEq, Nat.reduceAdd, Nat.reduceLeDiff, ne_eq, Nat.reduceLT, Int.reduceLT, Int.reduceLE, Int.reduceNeg]
    refine guard_split (fun hb => ?_) (fun hb => ?_)
    · simp only [E103, hb, hd', hw, eTreeC, k56, ht, eNode, eNodeC, EVT, EVD, ↓reduceIte, Nat.reduceEqDiff, reduceCtorEq, Nat.reduceAdd, Nat.reduceLeDiff, ne_eq, Nat.reduceLT, Int.reduceLT, Int.reduceLE, Int.reduceNeg]
      have h1 : ¬ ino = 1 := by simpa using hb
      rw [if_neg h1]
      exact hi _
    · simp only [E103, hb, hd', hw, eTreeC, k56, ht, eNode, eNodeC, EVT, EVD, ↓reduceIte, Nat.reduceEqDiff, reduceCtorEq, Nat.reduceAdd, Nat.reduceLeDiff, ne_eq, Nat.reduceLT, Int.reduceLT, Int.reduceLE, Int.reduceNeg]
      have h1 : ino = 1 := by simpa using hb
      rw [if_pos h1]
      exact hx _ _ _
theorem c103 (t : Tree) (ino : Int) (ht : t.nodes.length ≤ 100000) : acall tab 103 [eTree t, .int .i64 ino] [] = some (.int .i64 (depthN t.nodes ino), []) := by
  refine acall_ex rfl rfl rfl ?_
  simp only [fn103, E103, eTree, EVT, EVD, ↓reduceIte, Nat.reduceEqDiff, reduceCtorEq, Nat.reduceAdd, Nat.reduceLeDiff, ne_eq, Nat.reduceLT, Int.reduceLT, Int.reduceLE, Int.reduceNeg]
  exact loop103 (R := fun (d : Nat) => some (.int .i64 d, [])) ht (fun d v q => by simp only [E103, EVT, EVD, ↓reduceIte, Nat.reduceEqDiff, reduceCtorEq, Nat.reduceAdd, Nat.reduceLeDiff, ne_eq, Nat.reduceLT, Int.reduceLT, Int.reduceLE, Int.reduceNeg]) 201 ino 0 rfl
theorem k103 (nodes : List Node) (next cookie ino : Int) (h : nodes.length ≤ 100000) (M : AMem) : callOp (acall tab) 103 [.agg [eNodes nodes, .int .i64 next, .int .i64 cookie], .int .i64 ino] M = some (.int .i64 (depthN nodes ino), M) :=
  callOp0 (c103 ⟨nodes, next, cookie⟩ ino h) rfl rfl rfl rfl rfl M
def belowGo (nodes : List Node) (of : Int) : Nat → Int → Bool
  | 0, _ => false
  | m + 1, ino => if ino = of then true else if ino = 1 then false else belowGo nodes of m (upOf nodes ino)
def belowN (nodes : List Node) (ino of : Int) : Bool := belowGo nodes of (nodes.length + 1) ino
theorem loop101 {t : Tree} {of : Int} (ht : t.nodes.length ≤ 100000) {k : List K} {R : Bool → Option (AVal × AMem)}
    (hx : ∀ e, kr (acall tab) [.tmp 6] 0 k ⟨.exit 0, e, [.cells (eTreeC t)]⟩ = R false) (hr : ∀ b, kr (acall tab) [.tmp 6] 0 k ⟨.ret, [(6, .bool b)], [.cells (eTreeC t)]⟩ = R b) :
    ∀ (m : Nat) (ino : Int) (d : Nat), d + m = t.nodes.length + 1 → exK (acall tab) [.tmp 6] 0 k (.loop [1, 2, 3, 7] lb101_0) [(1, .int .i64 ino), (2, .int .i64 of), (3, .ptr 0 0), (7, .int .i64 d)] [.cells (eTreeC t)] = R (belowGo t.nodes of m ino) := by
  intro m
  induction m with
  | zero =>
    intro ino d hd
    rw [exK_loop]
    have hd' : ((d : Int) ≤ (t.nodes.length : Int)) = False := by simp; omega
    simp only [E101, eTreeC, eNodes, hd', EVT, EVD, ↓reduceIte, Nat.reduceEqDiff, reduceCtorEq, Nat.reduceAdd, Nat.reduceLeDiff, ne_eq, Nat.reduceLT, Int.reduceLT, Int.reduceLE, Int.reduceNeg]
    exact hx _
  | succ m ih =>
    intro ino d hd
    rw [exK_loop]
    have hd' : ((d : Int) ≤ (t.nodes.length : Int)) = True := by simp; omega
    have hw : IntKind.i64.wrap ((d : Int) + 1) = ((d + 1 : Nat) : Int) := by rw [wrap_small (by omega) (by omega)]; rfl
    have hi := fun ino => ih ino (d + 1) (by omega)
    rw [belowGo]
    simp only [E101, eTreeC, eNodes, hd', EVT, EVD, ↓reduceIte, Nat.reduceEqDiff, reduceCtorEq, Nat.reduceAdd, Nat.reduceLeDiff, ne_eq, Nat.reduceLT, Int.reduceLT, Int.reduceLE, Int.reduceNeg]
    refine fork_split (fun hb => ?_) (fun hb => ?_)
    · have h1 : ino = of := by simpa using hb
      simp only [E101, EVT, EVD, ↓reduceIte, Nat.reduceEqDiff, reduceCtorEq, Nat.reduceAdd, Nat.reduceLeDiff, ne_eq, Nat.reduceLT, Int.reduceLT, Int.reduceLE, Int.reduceNeg]
      rw [if_pos h1]
      exact hr _
    · have h1 : ¬ ino = of := by simpa using hb
      simp only [E101, EVT, EVD, ↓reduceIte, Nat.reduceEqDiff, reduceCtorEq, Nat.reduceAdd, Nat.reduceLeDiff, ne_eq, Nat.reduceLT, Int.reduceLT, Int.reduceLE, Int.reduceNeg]
      rw [if_neg h1]
      refine fork_split (fun hb => ?_) (fun hb => ?_)
      · have h1 : ino = 1 := by simpa using hb
        simp only [E101, EVT, EVD, ↓reduceIte, Nat.reduceEqDiff, reduceCtorEq, Nat.reduceAdd, Nat.reduceLeDiff, ne_eq, Nat.reduceLT, Int.reduceLT, Int.reduceLE, Int.reduceNeg]
        rw [if_pos h1]
        exact hr _
      · have h1 : ¬ ino = 1 := by simpa using hb
        simp only [E101, hw, k56, ht, eNode, eNodeC, EVT, EVD, ↓reduceIte, Nat.reduceEqDiff, reduceCtorEq, Nat.reduceAdd, Nat.reduceLeDiff, ne_eq, Nat.reduceLT, Int.reduceLT, Int.reduceLE, Int.reduceNeg]
        rw [if_neg h1]
        exact hi _
theorem c101 (t : Tree) (ino of : Int) (ht : t.nodes.length ≤ 100000) : acall tab 101 [eTree t, .int .i64 ino, .int .i64 of] [] = some (.bool (belowN t.nodes ino of), []) := by
  refine acall_ex rfl rfl rfl ?_
  simp only [fn101, E101, eTree, EVT, EVD, ↓reduceIte, Nat.reduceEqDiff, reduceCtorEq, Nat.reduceAdd, Nat.reduceLeDiff, ne_eq, Nat.reduceLT, Int.reduceLT, Int.reduceLE, Int.reduceNeg]
  exact loop101 (R := fun b => some (.bool b, [])) ht (fun e => by simp only [E101, EVT, EVD, ↓reduceIte, Nat.reduceEqDiff, reduceCtorEq, Nat.reduceAdd, Nat.reduceLeDiff, ne_eq, Nat.reduceLT, Int.reduceLT, Int.reduceLE, Int.reduceNeg]) (fun b => by simp only [E101, EVT, EVD, ↓reduceIte, Nat.reduceEqDiff, reduceCtorEq, Nat.reduceAdd, Nat.reduceLeDiff, ne_eq, Nat.reduceLT, Int.reduceLT, Int.reduceLE, Int.reduceNeg]) (t.nodes.length + 1) ino 0 (by omega)
theorem k101 (nodes : List Node) (next cookie ino of : Int) (h : nodes.length ≤ 100000) (M : AMem) : callOp (acall tab) 101 [.agg [eNodes nodes, .int .i64 next, .int .i64 cookie], .int .i64 ino, .int .i64 of] M = some (.bool (belowN nodes ino of), M) :=
  callOp0 (c101 ⟨nodes, next, cookie⟩ ino of h) rfl rfl rfl rfl rfl M
end Go.Proofs.YtnapockikkbkcaaGreat
namespace Go.Proofs.YtnapockikkbkcaaGreat
open Go Go.Abs
attribute [local irreducible] exK opsK opK gK forkK kr acall callOp owhen obind
structure Sz (b : Nat) (t : Tree) : Prop where
  nodes : t.nodes.length ≤ b
  ents : ∀ n, n ∈ t.nodes → n.ents.length ≤ b
  data : ∀ n, n ∈ t.nodes → n.data.length ≤ 100000
theorem Sz.small {b : Nat} {t : Tree} (h : Sz b t) (hb : b ≤ 100000) : Small t := ⟨Nat.le_trans h.nodes hb, fun n hn => Nat.le_trans (h.ents n hn) hb, h.data⟩
theorem withL_len (n : Node) : ∀ (l out : List Node) (d : Bool), (withL n l out d).1.length + (if (withL n l out d).2 = true then 0 else 1) ≤ out.length + l.length + (if d = true then 0 else 1)
  | [], out, d => by simp only [withL, List.length_nil, Nat.add_zero]; exact Nat.le_refl _
  | m :: r, out, d => by
    rw [withL]
    refine Nat.le_trans (withL_len n r _ _) ?_
    cases d <;> by_cases h1 : n.ino ≤ m.ino <;> by_cases h2 : m.ino = n.ino <;> simp [h1, h2] <;> omega
theorem withL_mem (n : Node) : ∀ (l out : List Node) (d : Bool) (x : Node), x ∈ (withL n l out d).1 → x = n ∨ x ∈ out ∨ x ∈ l
  | [], out, d, x, h => by simp [withL] at h; exact .inr (.inl h)
  | m :: r, out, d, x, h => by
    rw [withL] at h
    rcases withL_mem n r _ _ x h with h | h | h
    · exact .inl h
    · rcases List.mem_append.1 h with h | h
      · split at h
        · rcases List.mem_append.1 h with h | h
          · exact .inr (.inl h)
          · exact .inl (by simpa using h)
        · exact .inr (.inl h)
      · split at h
        · cases h
        · exact .inr (.inr (by simp at h; simp [h]))
    · exact .inr (.inr (List.mem_cons_of_mem _ h))
theorem withN_len (nodes : List Node) (n : Node) : (withN nodes n).length ≤ nodes.length + 1 := by
  have := withL_len n nodes [] false
  unfold withN
  split at this <;> simp_all
theorem withN_mem {nodes : List Node} {n x : Node} (h : x ∈ withN nodes n) : x = n ∨ x ∈ nodes := by
  unfold withN at h
  rcases List.mem_append.1 h with h | h
  · rcases withL_mem n nodes [] false x h with h | h | h
    · exact .inl h
    · cases h
    · exact .inr h
  · split at h
    · cases h
    · exact .inl (by simpa using h)
theorem Sz.with {b : Nat} {t : Tree} (h : Sz b t) {n : Node} (h1 : n.ents.length ≤ b + 1) (h2 : n.data.length ≤ 100000) (next cookie : Int) : Sz (b + 1) ⟨withN t.nodes n, next, cookie⟩ :=
  ⟨Nat.le_trans (withN_len _ _) (by have := h.nodes; simp; omega), fun x hx => by
    rcases withN_mem hx with rfl | hx
    · exact h1
    · exact Nat.le_succ_of_le (h.ents x hx), fun x hx => by
    rcases withN_mem hx with rfl | hx
    · exact h2
    · exact h.data x hx⟩
theorem Sz.up {b c : Nat} {t : Tree} (h : Sz b t) (hbc : b ≤ c) : Sz c t := ⟨Nat.le_trans h.nodes hbc, fun n hn => Nat.le_trans (h.ents n hn) hbc, h.data⟩
theorem Sz.find {b : Nat} {t : Tree} (h : Sz b t) (ino : Int) : ((find t.nodes ino).getD Node.zero).ents.length ≤ b ∧ ((find t.nodes ino).getD Node.zero).data.length ≤ 100000 := by
  cases hf : Go.Proofs.YtnapockikkbkcaaGreat.find t.nodes ino with
  | none => simp [Node.zero]
  | some n => exact ⟨h.ents n (find_mem hf).1, h.data n (find_mem hf).1⟩
theorem dropE_len (l : List Ent) (s : Bytes) : (dropE l s).length ≤ l.length := List.length_filter_le _ _
theorem Sz.left {b : Nat} {t : Tree} (h : Sz b t) (ino : Int) (s : Bytes) (next cookie : Int) : Sz (b + 1) ⟨leftN t.nodes ino s, next, cookie⟩ :=
  h.with (n := { (Go.Proofs.YtnapockikkbkcaaGreat.find t.nodes ino).getD Node.zero with ents := dropE ((Go.Proofs.YtnapockikkbkcaaGreat.find t.nodes ino).getD Node.zero).ents s }) (Nat.le_trans (dropE_len _ _) (Nat.le_succ_of_le (h.find ino).1)) (h.find ino).2 next cookie
theorem Sz.without {b : Nat} {t : Tree} (h : Sz b t) (ino : Int) (next cookie : Int) : Sz b ⟨withoutN t.nodes ino, next, cookie⟩ :=
  ⟨Nat.le_trans (List.length_filter_le _ _) h.nodes, fun x hx => h.ents x ((List.mem_filter.1 hx).1), fun x hx => h.data x ((List.mem_filter.1 hx).1)⟩
def fullN (t : Tree) (n : Node) : Bool := decide ((64 : Int) ≤ n.ents.length) || (decide ((12 : Int) ≤ depthN t.nodes n.ino) || decide ((1099511627776 : Int) ≤ t.cookie))
theorem c128 (t : Tree) (n : Node) (ht : Small t) : acall tab 128 [eTree t, eNode n] [] = some (.bool (fullN t n), []) := by
  refine acall_ex rfl rfl rfl ?_
  simp only [fn128, E128, eTree, eTreeC, eNode, eNodeC, k103, ht.nodes, EVT, EVD, ↓reduceIte, Nat.reduceEqDiff, reduceCtorEq, Nat.reduceAdd, Nat.reduceLeDiff, ne_eq, Nat.reduceLT, Int.reduceLT, Int.reduceLE, Int.reduceNeg]
  unfold fullN
  repeat' (first | (refine fork_split (fun hb => ?_) (fun hb => ?_) <;> simp only [hb, E128, k103, ht.nodes, EVT, EVD, ↓reduceIte, Nat.reduceEqDiff, reduceCtorEq, Nat.reduceAdd, Nat.reduceLeDiff, ne_eq, Nat.reduceLT, Int.reduceLT, Int.reduceLE, Int.reduceNeg]) | (refine guard_split (fun hb => ?_) (fun hb => ?_) <;> simp only [hb, E128, k103, ht.nodes, EVT, EVD, ↓reduceIte, Nat.reduceEqDiff, reduceCtorEq, Nat.reduceAdd, Nat.reduceLeDiff, ne_eq, Nat.reduceLT, Int.reduceLT, Int.reduceLE, Int.reduceNeg]) | (refine opK_pick (fun hb => ?_) (fun hb => ?_) <;> simp only [hb, E128, k103, ht.nodes, EVT, EVD, ↓reduceIte, Nat.reduceEqDiff, reduceCtorEq, Nat.reduceAdd, Nat.reduceLeDiff, ne_eq, Nat.reduceLT, Int.reduceLT, Int.reduceLE, Int.reduceNeg]))
  all_goals simp_all
theorem k128 (nodes : List Node) (next cookie a b c : Int) (d : Bytes) (e : List Ent) (u : Int) (h : Small ⟨nodes, next, cookie⟩) (M : AMem) : callOp (acall tab) 128 [.agg [eNodes nodes, .int .i64 next, .int .i64 cookie], .agg [.int .i64 a, .int .i64 b, .int .i64 c, eData d, eEnts e, .int .i64 u]] M =
    some (.bool (fullN ⟨nodes, next, cookie⟩ ⟨a, b, c, d, e, u⟩), M) := callOp0 (c128 ⟨nodes, next, cookie⟩ ⟨a, b, c, d, e, u⟩ h) rfl rfl rfl rfl rfl M
def enterErr (t : Tree) (ino : Int) (s : Bytes) : Int :=
  if (dirN t.nodes ino).2 ≠ 0 then (dirN t.nodes ino).2 else if nameOk s = false then 60 else if (findE (dirN t.nodes ino).1.ents s).isSome = true then 71 else if fullN t (dirN t.nodes ino).1 = true then 76 else 0
theorem c93 (t : Tree) (ino : Int) (s : Bytes) (ht : Small t) (hs : s.length ≤ 100000) : acall tab 93 [eTree t, .int .i64 ino, .str s] [] = some (.int .i64 (enterErr t ino s), []) := by
  refine acall_ex rfl rfl rfl ?_
  have hd := dirN_ents ht ino
  have ht' : Small ⟨t.nodes, t.next, t.cookie⟩ := ht
  simp only [fn93, E93, eTree, eTreeC, k99, ht.nodes, eNode, eNodeC, EVT, EVD, ↓reduceIte, Nat.reduceEqDiff, reduceCtorEq, Nat.reduceAdd, Nat.reduceLeDiff, ne_eq, Nat.reduceLT, Int.reduceLT, Int.reduceLE, Int.reduceNeg]
  unfold enterErr
  refine fork_split (fun hb => ?_) (fun hb => ?_)
  · simp only [E93, EVT, EVD, ↓reduceIte, Nat.reduceEqDiff, reduceCtorEq, Nat.reduceAdd, Nat.reduceLeDiff, ne_eq, Nat.reduceLT, Int.reduceLT, Int.reduceLE, Int.reduceNeg]
    simp_all
  · simp only [E93, k22, hs, EVT, EVD, ↓reduceIte, Nat.reduceEqDiff, reduceCtorEq, Nat.reduceAdd, Nat.reduceLeDiff, ne_eq, Nat.reduceLT, Int.reduceLT, Int.reduceLE, Int.reduceNeg]
    refine fork_split (fun hb' => ?_) (fun hb' => ?_)
    · simp only [E93, EVT, EVD, ↓reduceIte, Nat.reduceEqDiff, reduceCtorEq, Nat.reduceAdd, Nat.reduceLeDiff, ne_eq, Nat.reduceLT, Int.reduceLT, Int.reduceLE, Int.reduceNeg]
      simp_all
    · simp only [E93, k100, hd, EVT, EVD, ↓reduceIte, Nat.reduceEqDiff, reduceCtorEq, Nat.reduceAdd, Nat.reduceLeDiff, ne_eq, Nat.reduceLT, Int.reduceLT, Int.reduceLE, Int.reduceNeg]
      rcases namedGo_spec s (dirN t.nodes ino).1.ents 0 with ⟨h1, h2⟩ | ⟨m, n, h1, h2, h3⟩
      · rw [h2]
        simp only [E93, k128, ht', EVT, EVD, ↓reduceIte, Nat.reduceEqDiff, reduceCtorEq, Nat.reduceAdd, Nat.reduceLeDiff, ne_eq, Nat.reduceLT, Int.reduceLT, Int.reduceLE, Int.reduceNeg]
        refine fork_split (fun hb'' => ?_) (fun hb'' => ?_)
        · simp only [E93, EVT, EVD, ↓reduceIte, Nat.reduceEqDiff, reduceCtorEq, Nat.reduceAdd, Nat.reduceLeDiff, ne_eq, Nat.reduceLT, Int.reduceLT, Int.reduceLE, Int.reduceNeg]
          simp_all
        · simp only [E93, EVT, EVD, ↓reduceIte, Nat.reduceEqDiff, reduceCtorEq, Nat.reduceAdd, Nat.reduceLeDiff, ne_eq, Nat.reduceLT, Int.reduceLT, Int.reduceLE, Int.reduceNeg]
          simp_all
      · rw [h3]
        simp only [E93, Int.natCast_nonneg, EVT, EVD, ↓reduceIte, Nat.reduceEqDiff, reduceCtorEq, Nat.reduceAdd, Nat.reduceLeDiff, ne_eq, Nat.reduceLT, Int.reduceLT, Int.reduceLE, Int.reduceNeg]
        simp_all
theorem k93 (nodes : List Node) (next cookie ino : Int) (s : Bytes) (ht : Small ⟨nodes, next, cookie⟩) (hs : s.length ≤ 100000) (M : AMem) : callOp (acall tab) 93 [.agg [eNodes nodes, .int .i64 next, .int .i64 cookie], .int .i64 ino, .str s] M =
    some (.int .i64 (enterErr ⟨nodes, next, cookie⟩ ino s), M) := callOp0 (c93 ⟨nodes, next, cookie⟩ ino s ht hs) rfl rfl rfl rfl rfl M
end Go.Proofs.YtnapockikkbkcaaGreat
namespace Go.Proofs.YtnapockikkbkcaaGreat
open Go Go.Abs
attribute [local irreducible] exK opsK opK gK forkK kr acall callOp owhen obind
def addN (t : Tree) (ino : Int) (s : Bytes) (kind : Int) : Tree × Int × Int :=
  if (kind != 1 && kind != 2) = true then (t, 0, 1) else if (enterErr t ino s != 0) = true then (t, 0, enterErr t ino s) else
  if (decide ((200 : Int) ≤ t.nodes.length) || decide ((1099511627776 : Int) ≤ t.next)) = true then (t, 0, 76) else
  (enteredN ⟨withN t.nodes ⟨t.next, kind, 1, [], [], if (kind == 2) = true then ino else 0⟩, w64 (t.next + 1), t.cookie⟩ ino s t.next, t.next, 0)
theorem k95z (nodes : List Node) (next cookie a b c u : Int) (h : nodes.length ≤ 100000) (M : AMem) : callOp (acall tab) 95 [.agg [eNodes nodes, .int .i64 next, .int .i64 cookie], .agg [.int .i64 a, .int .i64 b, .int .i64 c, .slice .sh [], .slice .sh [], .int .i64 u]] M =
    some (.agg [eNodes (withN nodes ⟨a, b, c, [], [], u⟩), .int .i64 next, .int .i64 cookie], M) := k95 nodes next cookie a b c [] [] u h M
theorem small_add {t : Tree} (hz : Sz 1000 t) (k u next cookie a c : Int) : Small ⟨withN t.nodes ⟨a, k, c, [], [], u⟩, next, cookie⟩ := (hz.with (by simp) (by simp) next cookie).small (by omega)
set_option maxHeartbeats 1000000 in
theorem c63 (t : Tree) (ino : Int) (s : Bytes) (kind : Int) (hz : Sz 1000 t) (hs : s.length ≤ 100000) : acall tab 63 [eTree t, .int .i64 ino, .str s, .int .i64 kind] [] = some (.tuple [eTree (addN t ino s kind).1, .int .i64 (addN t ino s kind).2.1, .int .i64 (addN t ino s kind).2.2], []) := by
  obtain ⟨nodes, next, cookie⟩ := t
  refine acall_ex rfl rfl rfl ?_
  have ht : Small ⟨nodes, next, cookie⟩ := hz.small (by omega)
  have hn : nodes.length ≤ 100000 := ht.nodes
  have hw := fun k u next' cookie' a c => small_add hz k u next' cookie' a c
  simp only [fn63, E63, eTree, eTreeC, k93, ht, hs, EVT, EVD, ↓reduceIte, Nat.reduceEqDiff, reduceCtorEq, Nat.reduceAdd, Nat.reduceLeDiff, ne_eq, Nat.reduceLT, Int.reduceLT, Int.reduceLE, Int.reduceNeg]
  repeat' (first | (refine fork_split (fun hb => ?_) (fun hb => ?_) <;> simp only [hb, E63, k93, ht, hs, hn, k95z, k94, hw, eTree, eTreeC, EVT, EVD, ↓reduceIte, Nat.reduceEqDiff, reduceCtorEq, Nat.reduceAdd, Nat.reduceLeDiff, ne_eq, Nat.reduceLT, Int.reduceLT, Int.reduceLE, Int.reduceNeg]) | (refine guard_split (fun hb => ?_) (fun hb => ?_) <;> simp only [hb, E63, k93, ht, hs, hn, k95z, k94, hw, eTree, eTreeC, EVT, EVD, ↓reduceIte, Nat.reduceEqDiff, reduceCtorEq, Nat.reduceAdd, Nat.reduceLeDiff, ne_eq, Nat.reduceLT, Int.reduceLT, Int.reduceLE, Int.reduceNeg]) | (refine opK_pick (fun hb => ?_) (fun hb => ?_) <;> simp only [hb, E63, k93, ht, hs, hn, k95z, k94, hw, eTree, eTreeC, EVT, EVD, ↓reduceIte, Nat.reduceEqDiff, reduceCtorEq, Nat.reduceAdd, Nat.reduceLeDiff, ne_eq, Nat.reduceLT, Int.reduceLT, Int.reduceLE, Int.reduceNeg]))
  all_goals (clear hw; simp_all only [addN, eTree, eTreeC, BBT, ↓reduceIte, reduceCtorEq, bne_self_eq_false]; done)
end Go.Proofs.YtnapockikkbkcaaGreat
namespace Go.Proofs.YtnapockikkbkcaaGreat
open Go Go.Abs
attribute [local irreducible] exK opsK opK gK forkK kr acall callOp owhen obind
theorem k63 (nodes : List Node) (next cookie ino : Int) (s : Bytes) (kind : Int) (hz : Sz 1000 ⟨nodes, next, cookie⟩) (hs : s.length ≤ 100000) (M : AMem) : callOp (acall tab) 63 [.agg [eNodes nodes, .int .i64 next, .int .i64 cookie], .int .i64 ino, .str s, .int .i64 kind] M =
    some (.tuple [eTree (addN ⟨nodes, next, cookie⟩ ino s kind).1, .int .i64 (addN ⟨nodes, next, cookie⟩ ino s kind).2.1, .int .i64 (addN ⟨nodes, next, cookie⟩ ino s kind).2.2], M) := callOp0 (c63 ⟨nodes, next, cookie⟩ ino s kind hz hs) rfl rfl rfl rfl rfl M
abbrev nodeN (nodes : List Node) (ino : Int) : Node := (find nodes ino).getD Node.zero
def lnN (t : Tree) (ino to : Int) (s : Bytes) : Tree × Int :=
  if (!(find t.nodes ino).isSome || ((nodeN t.nodes ino).kind == 1 && (nodeN t.nodes ino).links == 0)) = true then (t, 70) else if ((nodeN t.nodes ino).kind == 2) = true then (t, 72) else
  if (enterErr t to s != 0) = true then (t, enterErr t to s) else
  (enteredN ⟨withN t.nodes { nodeN t.nodes ino with links := w64 ((nodeN t.nodes ino).links + 1) }, t.next, t.cookie⟩ to s ino, 0)
theorem c64 (t : Tree) (ino to : Int) (s : Bytes) (hz : Sz 1000 t) (hs : s.length ≤ 100000) : acall tab 64 [eTree t, .int .i64 ino, .int .i64 to, .str s] [] = some (.tuple [eTree (lnN t ino to s).1, .int .i64 (lnN t ino to s).2], []) := by
  obtain ⟨nodes, next, cookie⟩ := t
  refine acall_ex rfl rfl rfl ?_
  have ht : Small ⟨nodes, next, cookie⟩ := hz.small (by omega)
  have hn : nodes.length ≤ 100000 := ht.nodes
  have hf := hz.find ino
  have hw' : ∀ l, Small ⟨withN nodes { nodeN nodes ino with links := l }, next, cookie⟩ := fun l => (hz.with (n := { nodeN nodes ino with links := l }) (Nat.le_succ_of_le hf.1) hf.2 next cookie).small (by omega)
  simp only [fn64, E64, eTree, eTreeC, k56, hn, eNode, eNodeC, EVT, EVD, ↓reduceIte, Nat.reduceEqDiff, reduceCtorEq, Nat.reduceAdd, Nat.reduceLeDiff, ne_eq, Nat.reduceLT, Int.reduceLT, Int.reduceLE, Int.reduceNeg]
  repeat' (first | (refine fork_split (fun hb => ?_) (fun hb => ?_) <;> simp only [hb, E64, k93, ht, hs, hn, k95, k94, hw', eTree, eTreeC, EVT, EVD, ↓reduceIte, Nat.reduceEqDiff, reduceCtorEq, Nat.reduceAdd, Nat.reduceLeDiff, ne_eq, Nat.reduceLT, Int.reduceLT, Int.reduceLE, Int.reduceNeg]) | (refine guard_split (fun hb => ?_) (fun hb => ?_) <;> simp only [hb, E64, k93, ht, hs, hn, k95, k94, hw', eTree, eTreeC, EVT, EVD, ↓reduceIte, Nat.reduceEqDiff, reduceCtorEq, Nat.reduceAdd, Nat.reduceLeDiff, ne_eq, Nat.reduceLT, Int.reduceLT, Int.reduceLE, Int.reduceNeg]) | (refine opK_pick (fun hb => ?_) (fun hb => ?_) <;> simp only [hb, E64, k93, ht, hs, hn, k95, k94, hw', eTree, eTreeC, EVT, EVD, ↓reduceIte, Nat.reduceEqDiff, reduceCtorEq, Nat.reduceAdd, Nat.reduceLeDiff, ne_eq, Nat.reduceLT, Int.reduceLT, Int.reduceLE, Int.reduceNeg]))
  all_goals (clear hw' hf; simp_all only [lnN, eTree, eTreeC, BBT, ↓reduceIte, reduceCtorEq, bne_self_eq_false]; done)
theorem k64 (nodes : List Node) (next cookie ino to : Int) (s : Bytes) (hz : Sz 1000 ⟨nodes, next, cookie⟩) (hs : s.length ≤ 100000) (M : AMem) : callOp (acall tab) 64 [.agg [eNodes nodes, .int .i64 next, .int .i64 cookie], .int .i64 ino, .int .i64 to, .str s] M =
    some (.tuple [eTree (lnN ⟨nodes, next, cookie⟩ ino to s).1, .int .i64 (lnN ⟨nodes, next, cookie⟩ ino to s).2], M) := callOp0 (c64 ⟨nodes, next, cookie⟩ ino to s hz hs) rfl rfl rfl rfl rfl M
def unnamedN (nodes : List Node) (ino : Int) : List Node :=
  if ((nodeN nodes ino).kind == 2) = true then withoutN nodes ino else withN nodes { nodeN nodes ino with links := w64 ((nodeN nodes ino).links - 1) }
theorem c97 (t : Tree) (ino : Int) (ht : Small t) : acall tab 97 [eTree t, .int .i64 ino] [] = some (eTree ⟨unnamedN t.nodes ino, t.next, t.cookie⟩, []) := by
  obtain ⟨nodes, next, cookie⟩ := t
  refine acall_ex rfl rfl rfl ?_
  have hn : nodes.length ≤ 100000 := ht.nodes
  simp only [fn97, E97, eTree, eTreeC, k56, hn, eNode, eNodeC, EVT, EVD, ↓reduceIte, Nat.reduceEqDiff, reduceCtorEq, Nat.reduceAdd, Nat.reduceLeDiff, ne_eq, Nat.reduceLT, Int.reduceLT, Int.reduceLE, Int.reduceNeg]
  repeat' (first | (refine fork_split (fun hb => ?_) (fun hb => ?_) <;> simp only [hb, E97, hn, k95, k105, eTree, eTreeC, EVT, EVD, ↓reduceIte, Nat.reduceEqDiff, reduceCtorEq, Nat.reduceAdd, Nat.reduceLeDiff, ne_eq, Nat.reduceLT, Int.reduceLT, Int.reduceLE, Int.reduceNeg]) | (refine guard_split (fun hb => ?_) (fun hb => ?_) <;> simp only [hb, E97, hn, k95, k105, eTree, eTreeC, EVT, EVD, ↓reduceIte, Nat.reduceEqDiff, reduceCtorEq, Nat.reduceAdd, Nat.reduceLeDiff, ne_eq, Nat.reduceLT, Int.reduceLT, Int.reduceLE, Int.reduceNeg]) | (refine opK_pick (fun hb => ?_) (fun hb => ?_) <;> simp only [hb, E97, hn, k95, k105, eTree, eTreeC, EVT, EVD, ↓reduceIte, Nat.reduceEqDiff, reduceCtorEq, Nat.reduceAdd, Nat.reduceLeDiff, ne_eq, Nat.reduceLT, Int.reduceLT, Int.reduceLE, Int.reduceNeg]))
  all_goals (simp_all only [unnamedN, eTree, eTreeC, BBT, ↓reduceIte, reduceCtorEq, bne_self_eq_false]; done)
theorem k97 (nodes : List Node) (next cookie ino : Int) (ht : Small ⟨nodes, next, cookie⟩) (M : AMem) : callOp (acall tab) 97 [.agg [eNodes nodes, .int .i64 next, .int .i64 cookie], .int .i64 ino] M =
    some (.agg [eNodes (unnamedN nodes ino), .int .i64 next, .int .i64 cookie], M) := callOp0 (c97 ⟨nodes, next, cookie⟩ ino ht) rfl rfl rfl rfl rfl M
def unN (t : Tree) (ino : Int) (s : Bytes) : Tree × Int × Int :=
  if ((lookN t.nodes ino s).2 != 0) = true then (t, 0, (lookN t.nodes ino s).2) else if decide ((0 : Int) < (nodeN t.nodes (lookN t.nodes ino s).1).ents.length) = true then (t, 0, 74) else
  (⟨unnamedN (leftN t.nodes ino s) (lookN t.nodes ino s).1, t.next, t.cookie⟩, (lookN t.nodes ino s).1, 0)
theorem c65 (t : Tree) (ino : Int) (s : Bytes) (hz : Sz 1000 t) (hs : s.length ≤ 100000) : acall tab 65 [eTree t, .int .i64 ino, .str s] [] = some (.tuple [eTree (unN t ino s).1, .int .i64 (unN t ino s).2.1, .int .i64 (unN t ino s).2.2], []) := by
  obtain ⟨nodes, next, cookie⟩ := t
  refine acall_ex rfl rfl rfl ?_
  have ht : Small ⟨nodes, next, cookie⟩ := hz.small (by omega)
  have hn : nodes.length ≤ 100000 := ht.nodes
  have hl : Small ⟨leftN nodes ino s, next, cookie⟩ := (hz.left ino s next cookie).small (by omega)
  simp only [fn65, E65, eTree, eTreeC, k96, ht, hs, eNode, eNodeC, EVT, EVD, ↓reduceIte, Nat.reduceEqDiff, reduceCtorEq, Nat.reduceAdd, Nat.reduceLeDiff, ne_eq, Nat.reduceLT, Int.reduceLT, Int.reduceLE, Int.reduceNeg]
  repeat' (first | (refine fork_split (fun hb => ?_) (fun hb => ?_) <;> simp only [hb, E65, hn, ht, hs, k56, k98, k97, hl, eNode, eNodeC, eTree, eTreeC, EVT, EVD, ↓reduceIte, Nat.reduceEqDiff, reduceCtorEq, Nat.reduceAdd, Nat.reduceLeDiff, ne_eq, Nat.reduceLT, Int.reduceLT, Int.reduceLE, Int.reduceNeg]) | (refine guard_split (fun hb => ?_) (fun hb => ?_) <;> simp only [hb, E65, hn, ht, hs, k56, k98, k97, hl, eNode, eNodeC, eTree, eTreeC, EVT, EVD, ↓reduceIte, Nat.reduceEqDiff, reduceCtorEq, Nat.reduceAdd, Nat.reduceLeDiff, ne_eq, Nat.reduceLT, Int.reduceLT, Int.reduceLE, Int.reduceNeg]) | (refine opK_pick (fun hb => ?_) (fun hb => ?_) <;> simp only [hb, E65, hn, ht, hs, k56, k98, k97, hl, eNode, eNodeC, eTree, eTreeC, EVT, EVD, ↓reduceIte, Nat.reduceEqDiff, reduceCtorEq, Nat.reduceAdd, Nat.reduceLeDiff, ne_eq, Nat.reduceLT, Int.reduceLT, Int.reduceLE, Int.reduceNeg]))
  all_goals (simp_all only [unN, eTree, eTreeC, BBT, ↓reduceIte, reduceCtorEq, bne_self_eq_false]; done)
theorem k65 (nodes : List Node) (next cookie ino : Int) (s : Bytes) (hz : Sz 1000 ⟨nodes, next, cookie⟩) (hs : s.length ≤ 100000) (M : AMem) : callOp (acall tab) 65 [.agg [eNodes nodes, .int .i64 next, .int .i64 cookie], .int .i64 ino, .str s] M =
    some (.tuple [eTree (unN ⟨nodes, next, cookie⟩ ino s).1, .int .i64 (unN ⟨nodes, next, cookie⟩ ino s).2.1, .int .i64 (unN ⟨nodes, next, cookie⟩ ino s).2.2], M) := callOp0 (c65 ⟨nodes, next, cookie⟩ ino s hz hs) rfl rfl rfl rfl rfl M
def clashN (nodes : List Node) (kind : Int) (y : Int) : Int :=
  if (!(find nodes y).isSome) = true then 0 else if (kind == 2 && (nodeN nodes y).kind != 2) = true then 73 else if (kind != 2 && (nodeN nodes y).kind == 2) = true then 72 else if decide ((0 : Int) < (nodeN nodes y).ents.length) = true then 74 else 0
theorem c102 (t : Tree) (x : Node) (y : Int) (ht : Small t) : acall tab 102 [eTree t, eNode x, .int .i64 y] [] = some (.int .i64 (clashN t.nodes x.kind y), []) := by
  obtain ⟨nodes, next, cookie⟩ := t
  refine acall_ex rfl rfl rfl ?_
  have hn : nodes.length ≤ 100000 := ht.nodes
  simp only [fn102, E102, eTree, eTreeC, k56, hn, eNode, eNodeC, EVT, EVD, ↓reduceIte, Nat.reduceEqDiff, reduceCtorEq, Nat.reduceAdd, Nat.reduceLeDiff, ne_eq, Nat.reduceLT, Int.reduceLT, Int.reduceLE, Int.reduceNeg]
  repeat' (first | (refine fork_split (fun hb => ?_) (fun hb => ?_) <;> simp only [hb, E102, EVT, EVD, ↓reduceIte, Nat.reduceEqDiff, reduceCtorEq, Nat.reduceAdd, Nat.reduceLeDiff, ne_eq, Nat.reduceLT, Int.reduceLT, Int.reduceLE, Int.reduceNeg]) | (refine guard_split (fun hb => ?_) (fun hb => ?_) <;> simp only [hb, E102, EVT, EVD, ↓reduceIte, Nat.reduceEqDiff, reduceCtorEq, Nat.reduceAdd, Nat.reduceLeDiff, ne_eq, Nat.reduceLT, Int.reduceLT, Int.reduceLE, Int.reduceNeg]) | (refine opK_pick (fun hb => ?_) (fun hb => ?_) <;> simp only [hb, E102, EVT, EVD, ↓reduceIte, Nat.reduceEqDiff, reduceCtorEq, Nat.reduceAdd, Nat.reduceLeDiff, ne_eq, Nat.reduceLT, Int.reduceLT, Int.reduceLE, Int.reduceNeg]))
  all_goals (simp_all only [clashN, BBT, ↓reduceIte, reduceCtorEq, bne_self_eq_false]; done)
theorem k102 (nodes : List Node) (next cookie a b c : Int) (d : Bytes) (e : List Ent) (u y : Int) (ht : Small ⟨nodes, next, cookie⟩) (M : AMem) : callOp (acall tab) 102 [.agg [eNodes nodes, .int .i64 next, .int .i64 cookie], .agg [.int .i64 a, .int .i64 b, .int .i64 c, eData d, eEnts e, .int .i64 u], .int .i64 y] M =
    some (.int .i64 (clashN nodes b y), M) := callOp0 (c102 ⟨nodes, next, cookie⟩ ⟨a, b, c, d, e, u⟩ y ht) rfl rfl rfl rfl rfl M
def putN (t : Tree) (ino : Int) (data : Bytes) : Tree × Int :=
  if (!(find t.nodes ino).isSome) = true then (t, 70) else if ((nodeN t.nodes ino).kind == 2) = true then (t, 72) else if decide ((4096 : Int) < data.length) = true then (t, 2) else
  (⟨withN t.nodes { nodeN t.nodes ino with data := data }, t.next, t.cookie⟩, 0)
theorem c67 (t : Tree) (ino : Int) (data : Bytes) (ht : Small t) (hd : data.length ≤ 100000) : acall tab 67 [eTree t, .int .i64 ino, eData data] [] = some (.tuple [eTree (putN t ino data).1, .int .i64 (putN t ino data).2], []) := by
  obtain ⟨nodes, next, cookie⟩ := t
  refine acall_ex rfl rfl rfl ?_
  have hn : nodes.length ≤ 100000 := ht.nodes
  have r1 : roomOk data.length 1 = True := room_ok (by omega) (by omega)
  simp only [fn67, E67, eTree, eTreeC, k56, hn, eNode, eNodeC, EVT, EVD, ↓reduceIte, Nat.reduceEqDiff, reduceCtorEq, Nat.reduceAdd, Nat.reduceLeDiff, ne_eq, Nat.reduceLT, Int.reduceLT, Int.reduceLE, Int.reduceNeg]
  repeat' (first | (refine fork_split (fun hb => ?_) (fun hb => ?_) <;> simp only [hb, E67, hn, r1, k95, eTree, eTreeC, EVT, EVD, ↓reduceIte, Nat.reduceEqDiff, reduceCtorEq, Nat.reduceAdd, Nat.reduceLeDiff, ne_eq, Nat.reduceLT, Int.reduceLT, Int.reduceLE, Int.reduceNeg]) | (refine guard_split (fun hb => ?_) (fun hb => ?_) <;> simp only [hb, E67, hn, r1, k95, eTree, eTreeC, EVT, EVD, ↓reduceIte, Nat.reduceEqDiff, reduceCtorEq, Nat.reduceAdd, Nat.reduceLeDiff, ne_eq, Nat.reduceLT, Int.reduceLT, Int.reduceLE, Int.reduceNeg]) | (refine opK_pick (fun hb => ?_) (fun hb => ?_) <;> simp only [hb, E67, hn, r1, k95, eTree, eTreeC, EVT, EVD, ↓reduceIte, Nat.reduceEqDiff, reduceCtorEq, Nat.reduceAdd, Nat.reduceLeDiff, ne_eq, Nat.reduceLT, Int.reduceLT, Int.reduceLE, Int.reduceNeg]))
  all_goals (simp_all only [putN, eTree, eTreeC, BBT, ↓reduceIte, reduceCtorEq, bne_self_eq_false]; done)
theorem k67 (nodes : List Node) (next cookie ino : Int) (data : Bytes) (ht : Small ⟨nodes, next, cookie⟩) (hd : data.length ≤ 100000) (M : AMem) : callOp (acall tab) 67 [.agg [eNodes nodes, .int .i64 next, .int .i64 cookie], .int .i64 ino, eData data] M =
    some (.tuple [eTree (putN ⟨nodes, next, cookie⟩ ino data).1, .int .i64 (putN ⟨nodes, next, cookie⟩ ino data).2], M) := callOp0 (c67 ⟨nodes, next, cookie⟩ ino data ht hd) rfl rfl rfl rfl rfl M
def freeN (t : Tree) (ino : Int) : Tree × Int :=
  if (!(find t.nodes ino).isSome) = true then (t, 70) else if ((nodeN t.nodes ino).kind == 2) = true then (t, 72) else if decide ((0 : Int) < (nodeN t.nodes ino).links) = true then (t, 71) else
  (⟨withoutN t.nodes ino, t.next, t.cookie⟩, 0)
theorem c68 (t : Tree) (ino : Int) (ht : Small t) : acall tab 68 [eTree t, .int .i64 ino] [] = some (.tuple [eTree (freeN t ino).1, .int .i64 (freeN t ino).2], []) := by
  obtain ⟨nodes, next, cookie⟩ := t
  refine acall_ex rfl rfl rfl ?_
  have hn : nodes.length ≤ 100000 := ht.nodes
  simp only [fn68, E68, eTree, eTreeC, k56, hn, eNode, eNodeC, EVT, EVD, ↓reduceIte, Nat.reduceEqDiff, reduceCtorEq, Nat.reduceAdd, Nat.reduceLeDiff, ne_eq, Nat.reduceLT, Int.reduceLT, Int.reduceLE, Int.reduceNeg]
  repeat' (first | (refine fork_split (fun hb => ?_) (fun hb => ?_) <;> simp only [hb, E68, hn, k105, eTree, eTreeC, EVT, EVD, ↓reduceIte, Nat.reduceEqDiff, reduceCtorEq, Nat.reduceAdd, Nat.reduceLeDiff, ne_eq, Nat.reduceLT, Int.reduceLT, Int.reduceLE, Int.reduceNeg]) | (refine guard_split (fun hb => ?_) (fun hb => ?_) <;> simp only [hb, E68, hn, k105, eTree, eTreeC, EVT, EVD, ↓reduceIte, Nat.reduceEqDiff, reduceCtorEq, Nat.reduceAdd, Nat.reduceLeDiff, ne_eq, Nat.reduceLT, Int.reduceLT, Int.reduceLE, Int.reduceNeg]) | (refine opK_pick (fun hb => ?_) (fun hb => ?_) <;> simp only [hb, E68, hn, k105, eTree, eTreeC, EVT, EVD, ↓reduceIte, Nat.reduceEqDiff, reduceCtorEq, Nat.reduceAdd, Nat.reduceLeDiff, ne_eq, Nat.reduceLT, Int.reduceLT, Int.reduceLE, Int.reduceNeg]))
  all_goals (simp_all only [freeN, eTree, eTreeC, BBT, ↓reduceIte, reduceCtorEq, bne_self_eq_false]; done)
theorem k68 (nodes : List Node) (next cookie ino : Int) (ht : Small ⟨nodes, next, cookie⟩) (M : AMem) : callOp (acall tab) 68 [.agg [eNodes nodes, .int .i64 next, .int .i64 cookie], .int .i64 ino] M =
    some (.tuple [eTree (freeN ⟨nodes, next, cookie⟩ ino).1, .int .i64 (freeN ⟨nodes, next, cookie⟩ ino).2], M) := callOp0 (c68 ⟨nodes, next, cookie⟩ ino ht) rfl rfl rfl rfl rfl M
def newN : Tree := ⟨[⟨1, 2, 0, [], [], 1⟩], 2, 1⟩
theorem c39 : acall tab 39 [] [] = some (eTree newN, []) := by
  refine acall_ex rfl rfl rfl ?_
  simp only [fn39, E39, EVT, EVD, ↓reduceIte, Nat.reduceEqDiff, reduceCtorEq, Nat.reduceAdd, Nat.reduceLeDiff, ne_eq, Nat.reduceLT, Int.reduceLT, Int.reduceLE, Int.reduceNeg]
  rfl
theorem k39 (M : AMem) : callOp (acall tab) 39 [] M = some (eTree newN, M) := callOp0 c39 rfl rfl rfl rfl rfl M
end Go.Proofs.YtnapockikkbkcaaGreat
namespace Go.Proofs.YtnapockikkbkcaaGreat
open Go Go.Abs
attribute [local irreducible] exK opsK opK gK forkK kr acall callOp owhen obind
def highStep (nodes : List Node) (ino at' d : Int) (n : Node) (most : Int) : Int :=
  if (n.kind == 2 && belowN nodes n.ino ino) = true then
    (if (if decide ((0 : Int) < n.ents.length) = true then w64 (w64 (w64 (at' + depthN nodes n.ino) - d) + 1) else w64 (w64 (at' + depthN nodes n.ino) - d)) > most
      then (if decide ((0 : Int) < n.ents.length) = true then w64 (w64 (w64 (at' + depthN nodes n.ino) - d) + 1) else w64 (w64 (at' + depthN nodes n.ino) - d)) else most)
  else most
def highGo (nodes : List Node) (ino at' d : Int) : List Node → Int → Int
  | [], most => most
  | n :: r, most => highGo nodes ino at' d r (highStep nodes ino at' d n most)
def highN (nodes : List Node) (ino at' : Int) : Int := highGo nodes ino at' (depthN nodes ino) nodes 0
theorem loop104 {nodes : List Node} {next cookie ino at' d : Int} (ht : nodes.length ≤ 100000) {k : List K} {R : Int → Option (AVal × AMem)}
    (hx : ∀ most v q, kr (acall tab) [.tmp 6] 0 k ⟨.exit 0, [(1, .int .i64 ino), (2, .int .i64 at'), (3, .ptr 0 0), (7, .int .i64 most), (8, .int .i64 d), (9, v), (19, q)], [.cells (eTreeC ⟨nodes, next, cookie⟩)]⟩ = R most) :
    ∀ (l pre : List Node) (most : Int), nodes = pre ++ l → exK (acall tab) [.tmp 6] 0 k (.loop [1, 2, 3, 7, 8, 9] lb104_0) [(1, .int .i64 ino), (2, .int .i64 at'), (3, .ptr 0 0), (7, .int .i64 most), (8, .int .i64 d), (9, .int .i64 pre.length)] [.cells (eTreeC ⟨nodes, next, cookie⟩)] = R (highGo nodes ino at' d l most) := by
  intro l
  induction l with
  | nil =>
    intro pre most h
    rw [exK_loop]
    simp only [E104, eTreeC, lt_end h, EVT, EVD, ↓reduceIte, Nat.reduceEqDiff, reduceCtorEq, Nat.reduceAdd, Nat.reduceLeDiff, ne_eq, Nat.reduceLT, Int.reduceLT, Int.reduceLE, Int.reduceNeg]
    exact hx _ _ _
  | cons n r ih =>
    intro pre most h
    rw [exK_loop]
    have hlen : pre.length + 1 ≤ 100000 := by rw [h] at ht; simp at ht; omega
    have hw : IntKind.i64.wrap ((pre.length : Int) + 1) = ((pre ++ [n]).length : Int) := by rw [wrap_small (by omega) (by omega)]; exact step_len
    have hi := fun most => ih (pre ++ [n]) most (by rw [h]; simp)
    rw [highGo]
    simp only [eTreeC] at hi
    generalize hst : highStep nodes ino at' d n most = m1
    simp only [E104, eTreeC, lt_mid h, at_mid h, eNodeC, EVT, EVD, ↓reduceIte, Nat.reduceEqDiff, reduceCtorEq, Nat.reduceAdd, Nat.reduceLeDiff, ne_eq, Nat.reduceLT, Int.reduceLT, Int.reduceLE, Int.reduceNeg]
    repeat' (first | (refine fork_split (fun hb => ?_) (fun hb => ?_) <;> simp only [hb, E104, hw, k101, k103, ht, eNodeC, EVT, EVD, ↓reduceIte, Nat.reduceEqDiff, reduceCtorEq, Nat.reduceAdd, Nat.reduceLeDiff, ne_eq, Nat.reduceLT, Int.reduceLT, Int.reduceLE, Int.reduceNeg]) | (refine guard_split (fun hb => ?_) (fun hb => ?_) <;> simp only [hb, E104, hw, k101, k103, ht, eNodeC, EVT, EVD, ↓reduceIte, Nat.reduceEqDiff, reduceCtorEq, Nat.reduceAdd, Nat.reduceLeDiff, ne_eq, Nat.reduceLT, Int.reduceLT, Int.reduceLE, Int.reduceNeg]) | (refine opK_pick (fun hb => ?_) (fun hb => ?_) <;> simp only [hb, E104, hw, k101, k103, ht, eNodeC, EVT, EVD, ↓reduceIte, Nat.reduceEqDiff, reduceCtorEq, Nat.reduceAdd, Nat.reduceLeDiff, ne_eq, Nat.reduceLT, Int.reduceLT, Int.reduceLE, Int.reduceNeg]))
    all_goals refine Eq.trans ?_ (hi m1)
    all_goals congr 1
    all_goals (subst hst; clear hi ih hx hw h ht; simp_all only [highStep, w64, gt_iff_lt, List.length_append, List.length_cons, List.length_nil, Nat.zero_add, BBT, ↓reduceIte, reduceCtorEq, bne_self_eq_false]; done)
theorem c104 (t : Tree) (ino at' : Int) (ht : t.nodes.length ≤ 100000) : acall tab 104 [eTree t, .int .i64 ino, .int .i64 at'] [] = some (.int .i64 (highN t.nodes ino at'), []) := by
  obtain ⟨nodes, next, cookie⟩ := t
  have ht : nodes.length ≤ 100000 := ht
  refine acall_ex rfl rfl rfl ?_
  simp only [fn104, E104, eTree, eTreeC, k103, ht, EVT, EVD, ↓reduceIte, Nat.reduceEqDiff, reduceCtorEq, Nat.reduceAdd, Nat.reduceLeDiff, ne_eq, Nat.reduceLT, Int.reduceLT, Int.reduceLE, Int.reduceNeg]
  exact loop104 (R := fun z => some (.int .i64 z, [])) ht (fun most v q => by simp only [E104, EVT, EVD, ↓reduceIte, Nat.reduceEqDiff, reduceCtorEq, Nat.reduceAdd, Nat.reduceLeDiff, ne_eq, Nat.reduceLT, Int.reduceLT, Int.reduceLE, Int.reduceNeg]) nodes [] 0 rfl
theorem k104 (nodes : List Node) (next cookie ino at' : Int) (h : nodes.length ≤ 100000) (M : AMem) : callOp (acall tab) 104 [.agg [eNodes nodes, .int .i64 next, .int .i64 cookie], .int .i64 ino, .int .i64 at'] M = some (.int .i64 (highN nodes ino at'), M) :=
  callOp0 (c104 ⟨nodes, next, cookie⟩ ino at' h) rfl rfl rfl rfl rfl M
def underN (l : List Ent) (s : Bytes) : Int := match findE l s with
  | none => 0
  | some e => e.ino
def manyN (t : Tree) (frm to : Int) (ents : List Ent) (kind y ino : Int) : Bool :=
  ((y == 0 && to != frm) && decide ((64 : Int) ≤ ents.length)) || (decide ((12 : Int) ≤ depthN t.nodes to) || ((kind == 2 && decide ((12 : Int) < highN t.nodes ino (w64 (depthN t.nodes to + 1)))) || decide ((1099511627776 : Int) ≤ t.cookie)))
def moveN (t : Tree) (frm : Int) (s : Bytes) (to : Int) (nm : Bytes) (ino y : Int) : Tree :=
  enteredN ⟨if ((nodeN t.nodes ino).kind == 2) = true then
      withN (if (y != 0) = true then unnamedN (leftN (leftN t.nodes frm s) to nm) y else leftN t.nodes frm s) { nodeN t.nodes ino with up := to }
    else if (y != 0) = true then unnamedN (leftN (leftN t.nodes frm s) to nm) y else leftN t.nodes frm s, t.next, t.cookie⟩ to nm ino
def mvN (t : Tree) (frm : Int) (s : Bytes) (to : Int) (nm : Bytes) : Tree × Int × Int :=
  if ((lookN t.nodes frm s).2 != 0) = true then (t, 0, (lookN t.nodes frm s).2) else
  if ((dirN t.nodes to).2 != 0) = true then (t, 0, (dirN t.nodes to).2) else
  if (!nameOk nm) = true then (t, 0, 60) else
  if (underN (dirN t.nodes to).1.ents nm == (lookN t.nodes frm s).1) = true then (t, 0, 0) else
  if ((nodeN t.nodes (lookN t.nodes frm s).1).kind == 2 && belowN t.nodes to (lookN t.nodes frm s).1) = true then (t, 0, 75) else
  if (clashN t.nodes (nodeN t.nodes (lookN t.nodes frm s).1).kind (underN (dirN t.nodes to).1.ents nm) != 0) = true then (t, 0, clashN t.nodes (nodeN t.nodes (lookN t.nodes frm s).1).kind (underN (dirN t.nodes to).1.ents nm)) else
  if manyN t frm to (dirN t.nodes to).1.ents (nodeN t.nodes (lookN t.nodes frm s).1).kind (underN (dirN t.nodes to).1.ents nm) (lookN t.nodes frm s).1 = true then (t, 0, 76) else
  (moveN t frm s to nm (lookN t.nodes frm s).1 (underN (dirN t.nodes to).1.ents nm), underN (dirN t.nodes to).1.ents nm, 0)
theorem Sz.unnamed {b : Nat} {t : Tree} (h : Sz b t) (ino next cookie : Int) : Sz (b + 1) ⟨unnamedN t.nodes ino, next, cookie⟩ := by
  unfold unnamedN
  split
  · exact (h.without ino next cookie).up (by omega)
  · exact h.with (n := { nodeN t.nodes ino with links := w64 ((nodeN t.nodes ino).links - 1) }) (Nat.le_succ_of_le (h.find ino).1) (h.find ino).2 next cookie
set_option maxHeartbeats 2000000 in
theorem c66 (t : Tree) (frm : Int) (s : Bytes) (to : Int) (nm : Bytes) (hz : Sz 1000 t) (hs : s.length ≤ 100000) (ha : nm.length ≤ 100000) : acall tab 66 [eTree t, .int .i64 frm, .str s, .int .i64 to, .str nm] [] =
    some (.tuple [eTree (mvN t frm s to nm).1, .int .i64 (mvN t frm s to nm).2.1, .int .i64 (mvN t frm s to nm).2.2], []) := by
  obtain ⟨nodes, next, cookie⟩ := t
  have ht : Small ⟨nodes, next, cookie⟩ := hz.small (by omega)
  have hn : nodes.length ≤ 100000 := ht.nodes
  have hd : (dirN nodes to).1.ents.length ≤ 100000 := dirN_ents ht to
  have z1 : Sz 1001 ⟨leftN nodes frm s, next, cookie⟩ := hz.left frm s next cookie
  have z2 : Sz 1002 ⟨leftN (leftN nodes frm s) to nm, next, cookie⟩ := z1.left to nm next cookie
  have z3 : ∀ y, Sz 1003 ⟨unnamedN (leftN (leftN nodes frm s) to nm) y, next, cookie⟩ := fun y => z2.unnamed y next cookie
  have hx := hz.find (lookN nodes frm s).1
  have z4 : ∀ y, Sz 1004 ⟨withN (unnamedN (leftN (leftN nodes frm s) to nm) y) { nodeN nodes (lookN nodes frm s).1 with up := to }, next, cookie⟩ := fun y => (z3 y).with (n := { nodeN nodes (lookN nodes frm s).1 with up := to }) (Nat.le_trans hx.1 (by omega)) hx.2 next cookie
  have z5 : Sz 1002 ⟨withN (leftN nodes frm s) { nodeN nodes (lookN nodes frm s).1 with up := to }, next, cookie⟩ := z1.with (n := { nodeN nodes (lookN nodes frm s).1 with up := to }) (Nat.le_trans hx.1 (by omega)) hx.2 next cookie
  have s1 := z1.small (by omega)
  have s2 := z2.small (by omega)
  have s3 := fun y => (z3 y).small (by omega)
  have s4 := fun y => (z4 y).small (by omega)
  have s5 := z5.small (by omega)
  have n1 : (leftN nodes frm s).length ≤ 100000 := s1.nodes
  have n3 : ∀ y, (unnamedN (leftN (leftN nodes frm s) to nm) y).length ≤ 100000 := fun y => (s3 y).nodes
  clear z1 z2 z3 z4 z5 hx
  refine acall_ex rfl rfl rfl ?_
  simp only [fn66, E66, eTree, eTreeC, k96, ht, hs, EVT, EVD, ↓reduceIte, Nat.reduceEqDiff, reduceCtorEq, Nat.reduceAdd, Nat.reduceLeDiff, ne_eq, Nat.reduceLT, Int.reduceLT, Int.reduceLE, Int.reduceNeg]
  refine fork_split (fun hb0 => ?_) (fun hb0 => ?_)
  · simp only [E66, hb0, EVT, EVD, ↓reduceIte, Nat.reduceEqDiff, reduceCtorEq, Nat.reduceAdd, Nat.reduceLeDiff, ne_eq, Nat.reduceLT, Int.reduceLT, Int.reduceLE, Int.reduceNeg]
    clear s1 s2 s3 s4 s5 n1 n3
    simp_all only [mvN, eTree, eTreeC, BBT, ↓reduceIte, reduceCtorEq, bne_self_eq_false]
  simp only [E66, hb0, k99, hn, eNode, eNodeC, EVT, EVD, ↓reduceIte, Nat.reduceEqDiff, reduceCtorEq, Nat.reduceAdd, Nat.reduceLeDiff, ne_eq, Nat.reduceLT, Int.reduceLT, Int.reduceLE, Int.reduceNeg]
  refine fork_split (fun hb1 => ?_) (fun hb1 => ?_)
  · simp only [E66, hb1, EVT, EVD, ↓reduceIte, Nat.reduceEqDiff, reduceCtorEq, Nat.reduceAdd, Nat.reduceLeDiff, ne_eq, Nat.reduceLT, Int.reduceLT, Int.reduceLE, Int.reduceNeg]
    clear s1 s2 s3 s4 s5 n1 n3
    simp_all only [mvN, eTree, eTreeC, BBT, ↓reduceIte, reduceCtorEq, bne_self_eq_false]
  simp only [E66, hb1, k22, ha, EVT, EVD, ↓reduceIte, Nat.reduceEqDiff, reduceCtorEq, Nat.reduceAdd, Nat.reduceLeDiff, ne_eq, Nat.reduceLT, Int.reduceLT, Int.reduceLE, Int.reduceNeg]
  refine fork_split (fun hb2 => ?_) (fun hb2 => ?_)
  · simp only [E66, hb2, EVT, EVD, ↓reduceIte, Nat.reduceEqDiff, reduceCtorEq, Nat.reduceAdd, Nat.reduceLeDiff, ne_eq, Nat.reduceLT, Int.reduceLT, Int.reduceLE, Int.reduceNeg]
    clear s1 s2 s3 s4 s5 n1 n3
    simp_all only [mvN, eTree, eTreeC, BBT, ↓reduceIte, reduceCtorEq, bne_self_eq_false]
  simp only [E66, hb2, k100, hd, EVT, EVD, ↓reduceIte, Nat.reduceEqDiff, reduceCtorEq, Nat.reduceAdd, Nat.reduceLeDiff, ne_eq, Nat.reduceLT, Int.reduceLT, Int.reduceLE, Int.reduceNeg]
  rcases namedGo_spec nm (dirN nodes to).1.ents 0 with ⟨h1, h2⟩ | ⟨m, n, h1, h2, h3⟩
  · have hu : underN (dirN nodes to).1.ents nm = 0 := by simp [underN, h1]
    rw [h2]
    simp only [E66, EVT, EVD, ↓reduceIte, Nat.reduceEqDiff, reduceCtorEq, Nat.reduceAdd, Nat.reduceLeDiff, ne_eq, Nat.reduceLT, Int.reduceLT, Int.reduceLE, Int.reduceNeg]
    repeat' (first | (refine fork_split (fun hb => ?_) (fun hb => ?_) <;> simp only [hb, E66, k56, hn, ht, eNode, eNodeC, k101, k102, k103, k104, k98, k97, k95, k94, s1, s2, s3, s4, s5, n1, n3, eTree, eTreeC, EVT, EVD, ↓reduceIte, Nat.reduceEqDiff, reduceCtorEq, Nat.reduceAdd, Nat.reduceLeDiff, ne_eq, Nat.reduceLT, Int.reduceLT, Int.reduceLE, Int.reduceNeg]) | (refine guard_split (fun hb => ?_) (fun hb => ?_) <;> simp only [hb, E66, k56, hn, ht, eNode, eNodeC, k101, k102, k103, k104, k98, k97, k95, k94, s1, s2, s3, s4, s5, n1, n3, eTree, eTreeC, EVT, EVD, ↓reduceIte, Nat.reduceEqDiff, reduceCtorEq, Nat.reduceAdd, Nat.reduceLeDiff, ne_eq, Nat.reduceLT, Int.reduceLT, Int.reduceLE, Int.reduceNeg]) | (refine opK_pick (fun hb => ?_) (fun hb => ?_) <;> simp only [hb, E66, k56, hn, ht, eNode, eNodeC, k101, k102, k103, k104, k98, k97, k95, k94, s1, s2, s3, s4, s5, n1, n3, eTree, eTreeC, EVT, EVD, ↓reduceIte, Nat.reduceEqDiff, reduceCtorEq, Nat.reduceAdd, Nat.reduceLeDiff, ne_eq, Nat.reduceLT, Int.reduceLT, Int.reduceLE, Int.reduceNeg]))
    all_goals (clear s1 s2 s3 s4 s5 n1 n3 h2; simp_all only [mvN, moveN, manyN, hu, eTree, eTreeC, BBT, ↓reduceIte, reduceCtorEq, bne_self_eq_false]; done)
  · have hu : underN (dirN nodes to).1.ents nm = n.ino := by simp [underN, h2]
    rw [h3]
    simp only [E66, h1, eEntC, EVT, EVD, ↓reduceIte, Nat.reduceEqDiff, reduceCtorEq, Nat.reduceAdd, Nat.reduceLeDiff, ne_eq, Nat.reduceLT, Int.reduceLT, Int.reduceLE, Int.reduceNeg]
    repeat' (first | (refine fork_split (fun hb => ?_) (fun hb => ?_) <;> simp only [hb, E66, k56, hn, ht, eNode, eNodeC, k101, k102, k103, k104, k98, k97, k95, k94, s1, s2, s3, s4, s5, n1, n3, eTree, eTreeC, EVT, EVD, ↓reduceIte, Nat.reduceEqDiff, reduceCtorEq, Nat.reduceAdd, Nat.reduceLeDiff, ne_eq, Nat.reduceLT, Int.reduceLT, Int.reduceLE, Int.reduceNeg]) | (refine guard_split (fun hb => ?_) (fun hb => ?_) <;> simp only [hb, E66, k56, hn, ht, eNode, eNodeC, k101, k102, k103, k104, k98, k97, k95, k94, s1, s2, s3, s4, s5, n1, n3, eTree, eTreeC, EVT, EVD, ↓reduceIte, Nat.reduceEqDiff, reduceCtorEq, Nat.reduceAdd, Nat.reduceLeDiff, ne_eq, Nat.reduceLT, Int.reduceLT, Int.reduceLE, Int.reduceNeg]) | (refine opK_pick (fun hb => ?_) (fun hb => ?_) <;> simp only [hb, E66, k56, hn, ht, eNode, eNodeC, k101, k102, k103, k104, k98, k97, k95, k94, s1, s2, s3, s4, s5, n1, n3, eTree, eTreeC, EVT, EVD, ↓reduceIte, Nat.reduceEqDiff, reduceCtorEq, Nat.reduceAdd, Nat.reduceLeDiff, ne_eq, Nat.reduceLT, Int.reduceLT, Int.reduceLE, Int.reduceNeg]))
    all_goals (clear s1 s2 s3 s4 s5 n1 n3 h3; simp_all only [mvN, moveN, manyN, hu, eTree, eTreeC, BBT, ↓reduceIte, reduceCtorEq, bne_self_eq_false]; done)
theorem k66 (nodes : List Node) (next cookie frm : Int) (s : Bytes) (to : Int) (nm : Bytes) (hz : Sz 1000 ⟨nodes, next, cookie⟩) (hs : s.length ≤ 100000) (ha : nm.length ≤ 100000) (M : AMem) : callOp (acall tab) 66 [.agg [eNodes nodes, .int .i64 next, .int .i64 cookie], .int .i64 frm, .str s, .int .i64 to, .str nm] M =
    some (.tuple [eTree (mvN ⟨nodes, next, cookie⟩ frm s to nm).1, .int .i64 (mvN ⟨nodes, next, cookie⟩ frm s to nm).2.1, .int .i64 (mvN ⟨nodes, next, cookie⟩ frm s to nm).2.2], M) := callOp0 (c66 ⟨nodes, next, cookie⟩ frm s to nm hz hs ha) rfl rfl rfl rfl rfl M
end Go.Proofs.YtnapockikkbkcaaGreat
namespace Go.Proofs.YtnapockikkbkcaaGreat
open Go Go.Abs
attribute [local irreducible] exK opsK opK gK forkK kr acall callOp owhen obind
structure Step.Ok (s : Step) : Prop where
  kind : s.kind < 256
  a : s.a < 256
  b : s.b < 256
  n : s.n < 256
  m : s.m < 256
  data : s.data.length ≤ 100000
def nameOf (n : Nat) : Bytes := match n % 6 with
  | 0 => [97]
  | 1 => [98]
  | 2 => [99]
  | 3 => [100]
  | 4 => [101]
  | _ => [46, 46]
theorem nameOf_len (n : Nat) : (nameOf n).length ≤ 100000 := by unfold nameOf; split <;> simp
theorem c16 (n : Nat) (hn : n < 256) : acall tab 16 [.int .u8 n] [] = some (.str (nameOf n), []) := by
  refine acall_ex rfl rfl rfl ?_
  have hw : IntKind.i64.wrap (n : Int) = n := wrap_small (by omega) (by omega)
  have hm : (n : Int).tmod 6 = ((n % 6 : Nat) : Int) := by rw [Int.tmod_eq_emod_of_nonneg (by omega)]; rfl
  have h6 : ((6 : Int) = 0) = False := by simp
  simp only [fn16, E16, hw, hm, h6, EVT, EVD, ↓reduceIte, Nat.reduceEqDiff, reduceCtorEq, Nat.reduceAdd, Nat.reduceLeDiff, ne_eq, Nat.reduceLT, Int.reduceLT, Int.reduceLE, Int.reduceNeg]
  unfold nameOf
  have hlt : n % 6 < 6 := Nat.mod_lt _ (by omega)
  generalize n % 6 = r at hlt
  match r, hlt with
  | 0, _ | 1, _ | 2, _ | 3, _ | 4, _ | 5, _ => simp only [E16, List.getElem?_cons_zero, List.getElem?_cons_succ, EVT, EVD, ↓reduceIte, Nat.reduceEqDiff, reduceCtorEq, Nat.reduceAdd, Nat.reduceLeDiff, ne_eq, Nat.reduceLT, Int.reduceLT, Int.reduceLE, Int.reduceNeg]
theorem k16 (n : Nat) (hn : n < 256) (M : AMem) : callOp (acall tab) 16 [.int .u8 n] M = some (.str (nameOf n), M) := callOp0 (c16 n hn) rfl rfl rfl rfl rfl M
def inoAt (t : Tree) (n : Nat) : Int := match t.nodes[n % (t.nodes.length + 1)]? with
  | some m => m.ino
  | none => t.next
theorem c14 (t : Tree) (n : Nat) (hn : n < 256) (ht : t.nodes.length ≤ 100000) : acall tab 14 [eTree t, .int .u8 n] [] = some (.int .i64 (inoAt t n), []) := by
  obtain ⟨nodes, next, cookie⟩ := t
  have ht : nodes.length ≤ 100000 := ht
  refine acall_ex rfl rfl rfl ?_
  have hw : IntKind.i64.wrap (n : Int) = n := wrap_small (by omega) (by omega)
  have hw2 : IntKind.i64.wrap ((nodes.length : Int) + 1) = (nodes.length : Int) + 1 := wrap_small (by omega) (by omega)
  have h0 : (((nodes.length : Int) + 1) = 0) = False := by simp; omega
  have hm : (n : Int).tmod ((nodes.length : Int) + 1) = ((n % (nodes.length + 1) : Nat) : Int) := by rw [Int.tmod_eq_emod_of_nonneg (by omega)]; rfl
  simp only [fn14, E14, eTree, eTreeC, hw, hw2, h0, hm, EVT, EVD, ↓reduceIte, Nat.reduceEqDiff, reduceCtorEq, Nat.reduceAdd, Nat.reduceLeDiff, ne_eq, Nat.reduceLT, Int.reduceLT, Int.reduceLE, Int.reduceNeg]
  unfold inoAt
  simp only
  generalize n % (nodes.length + 1) = r
  refine fork_split (fun hb => ?_) (fun hb => ?_)
  · have hlt : r < nodes.length := by simpa using hb
    have hx := List.getElem?_eq_getElem hlt
    simp only [E14, hx, eNodeC, EVT, EVD, ↓reduceIte, Nat.reduceEqDiff, reduceCtorEq, Nat.reduceAdd, Nat.reduceLeDiff, ne_eq, Nat.reduceLT, Int.reduceLT, Int.reduceLE, Int.reduceNeg]
  · have hge : nodes[r]? = none := List.getElem?_eq_none (by simpa using hb)
    simp only [E14, hge, EVT, EVD, ↓reduceIte, Nat.reduceEqDiff, reduceCtorEq, Nat.reduceAdd, Nat.reduceLeDiff, ne_eq, Nat.reduceLT, Int.reduceLT, Int.reduceLE, Int.reduceNeg]
theorem k14 (nodes : List Node) (next cookie : Int) (n : Nat) (hn : n < 256) (h : nodes.length ≤ 100000) (M : AMem) : callOp (acall tab) 14 [.agg [eNodes nodes, .int .i64 next, .int .i64 cookie], .int .u8 n] M = some (.int .i64 (inoAt ⟨nodes, next, cookie⟩ n), M) :=
  callOp0 (c14 ⟨nodes, next, cookie⟩ n hn h) rfl rfl rfl rfl rfl M
def greatN (l : List Step) : Bool := decide ((60 : Int) < l.length) || l.any fun s => decide ((5000 : Int) < s.data.length)
theorem loop12 {steps : List Step} (hs : steps.length ≤ 100000) {k : List K} {R : Bool → Option (AVal × AMem)}
    (hx : ∀ e, kr (acall tab) [.tmp 2] 0 k ⟨.exit 0, e, []⟩ = R false) (hr : kr (acall tab) [.tmp 2] 0 k ⟨.ret, [(2, .bool true)], []⟩ = R true) :
    ∀ (l pre : List Step), steps = pre ++ l → exK (acall tab) [.tmp 2] 0 k (.loop [0, 3] lb12_0) [(0, .slice .sh (steps.map eStep)), (3, .int .i64 pre.length)] [] = R (l.any fun s => decide ((5000 : Int) < s.data.length)) := by
  intro l
  induction l with
  | nil =>
    intro pre h
    rw [exK_loop]
    simp only [E12, lt_end h, EVT, EVD, ↓reduceIte, Nat.reduceEqDiff, reduceCtorEq, Nat.reduceAdd, Nat.reduceLeDiff, ne_eq, Nat.reduceLT, Int.reduceLT, Int.reduceLE, Int.reduceNeg]
    exact hx _
  | cons n r ih =>
    intro pre h
    rw [exK_loop]
    have hlen : pre.length + 1 ≤ 100000 := by rw [h] at hs; simp at hs; omega
    have hw : IntKind.i64.wrap ((pre.length : Int) + 1) = ((pre ++ [n]).length : Int) := by rw [wrap_small (by omega) (by omega)]; exact step_len
    have hi := ih (pre ++ [n]) (by rw [h]; simp)
    simp only [List.length_append, List.length_cons, List.length_nil] at hi
    simp only [E12, lt_mid h, at_mid h, eStepC, EVT, EVD, ↓reduceIte, Nat.reduceEqDiff, reduceCtorEq, Nat.reduceAdd, Nat.reduceLeDiff, ne_eq, Nat.reduceLT, Int.reduceLT, Int.reduceLE, Int.reduceNeg]
    refine fork_split (fun hb => ?_) (fun hb => ?_)
    · simp only [E12, List.any_cons, hb, Bool.true_or, EVT, EVD, ↓reduceIte, Nat.reduceEqDiff, reduceCtorEq, Nat.reduceAdd, Nat.reduceLeDiff, ne_eq, Nat.reduceLT, Int.reduceLT, Int.reduceLE, Int.reduceNeg]
      exact hr
    · simp only [E12, List.any_cons, hb, Bool.false_or, hw, EVT, EVD, ↓reduceIte, Nat.reduceEqDiff, reduceCtorEq, Nat.reduceAdd, Nat.reduceLeDiff, ne_eq, Nat.reduceLT, Int.reduceLT, Int.reduceLE, Int.reduceNeg]
      exact hi
theorem c12 (steps : List Step) (hs : steps.length ≤ 100000) : acall tab 12 [.slice .sh (steps.map eStep)] [] = some (.bool (greatN steps), []) := by
  refine acall_ex rfl rfl rfl ?_
  simp only [fn12, E12, EVT, EVD, ↓reduceIte, Nat.reduceEqDiff, reduceCtorEq, Nat.reduceAdd, Nat.reduceLeDiff, ne_eq, Nat.reduceLT, Int.reduceLT, Int.reduceLE, Int.reduceNeg]
  unfold greatN
  refine fork_split (fun hb => ?_) (fun hb => ?_)
  · simp only [E12, hb, Bool.true_or, EVT, EVD, ↓reduceIte, Nat.reduceEqDiff, reduceCtorEq, Nat.reduceAdd, Nat.reduceLeDiff, ne_eq, Nat.reduceLT, Int.reduceLT, Int.reduceLE, Int.reduceNeg]
  · simp only [E12, hb, Bool.false_or, EVT, EVD, ↓reduceIte, Nat.reduceEqDiff, reduceCtorEq, Nat.reduceAdd, Nat.reduceLeDiff, ne_eq, Nat.reduceLT, Int.reduceLT, Int.reduceLE, Int.reduceNeg]
    exact loop12 (R := fun b => some (.bool b, [])) hs (fun e => by simp only [E12, EVT, EVD, ↓reduceIte, Nat.reduceEqDiff, reduceCtorEq, Nat.reduceAdd, Nat.reduceLeDiff, ne_eq, Nat.reduceLT, Int.reduceLT, Int.reduceLE, Int.reduceNeg]) (by simp only [E12, EVT, EVD, ↓reduceIte, Nat.reduceEqDiff, reduceCtorEq, Nat.reduceAdd, Nat.reduceLeDiff, ne_eq, Nat.reduceLT, Int.reduceLT, Int.reduceLE, Int.reduceNeg]) steps [] rfl
theorem k12 (steps : List Step) (hs : steps.length ≤ 100000) (M : AMem) : callOp (acall tab) 12 [.slice .sh (steps.map eStep)] M = some (.bool (greatN steps), M) := callOp0 (c12 steps hs) rfl rfl rfl rfl rfl M
def doneN (t : Tree) (s : Step) : Tree × Int × Int :=
  if (((s.kind % 8 : Nat) : Int) == 0 || ((s.kind % 8 : Nat) : Int) == 1) = true then addN t (inoAt t s.a) (nameOf s.n) (((s.m % 2 : Nat) : Int) + 1) else
  if (((s.kind % 8 : Nat) : Int) == 2) = true then ((lnN t (inoAt t s.b) (inoAt t s.a) (nameOf s.n)).1, 0, (lnN t (inoAt t s.b) (inoAt t s.a) (nameOf s.n)).2) else
  if (((s.kind % 8 : Nat) : Int) == 3) = true then unN t (inoAt t s.a) (nameOf s.n) else
  if (((s.kind % 8 : Nat) : Int) == 4 || ((s.kind % 8 : Nat) : Int) == 5) = true then mvN t (inoAt t s.a) (nameOf s.n) (inoAt t s.b) (nameOf s.m) else
  if (((s.kind % 8 : Nat) : Int) == 6) = true then ((putN t (inoAt t s.a) s.data).1, 0, (putN t (inoAt t s.a) s.data).2) else
  ((freeN t (inoAt t s.a)).1, 0, (freeN t (inoAt t s.a)).2)
set_option maxHeartbeats 2000000 in
theorem c25 (t : Tree) (s : Step) (hz : Sz 1000 t) (hs : s.Ok) : acall tab 25 [eTree t, eStep s] [] = some (.tuple [eTree (doneN t s).1, .int .i64 (doneN t s).2.1, .int .i64 (doneN t s).2.2], []) := by
  obtain ⟨nodes, next, cookie⟩ := t
  obtain ⟨kind, a, b, n, m, data⟩ := s
  obtain ⟨h1, h2, h3, h4, h5, h6⟩ := hs
  simp only at h1 h2 h3 h4 h5 h6
  have ht : Small ⟨nodes, next, cookie⟩ := hz.small (by omega)
  have hn : nodes.length ≤ 100000 := ht.nodes
  have l1 := nameOf_len n
  have l2 := nameOf_len m
  have hm8 : (kind : Int).tmod 8 = ((kind % 8 : Nat) : Int) := by rw [Int.tmod_eq_emod_of_nonneg (by omega)]; rfl
  have hm2 : (m : Int).tmod 2 = ((m % 2 : Nat) : Int) := by rw [Int.tmod_eq_emod_of_nonneg (by omega)]; rfl
  have hw : IntKind.i64.wrap (m : Int) = m := wrap_small (by omega) (by omega)
  have hw2 : IntKind.i64.wrap (((m % 2 : Nat) : Int) + 1) = ((m % 2 : Nat) : Int) + 1 := wrap_small (by omega) (by omega)
  have e8 : ((8 : Int) = 0) = False := by simp
  have e2 : ((2 : Int) = 0) = False := by simp
  refine acall_ex rfl rfl rfl ?_
  simp only [fn25, E25, eTree, eTreeC, eStep, eStepC, k14, k16, hn, h2, h3, h4, h5, hm8, e8, EVT, EVD, ↓reduceIte, Nat.reduceEqDiff, reduceCtorEq, Nat.reduceAdd, Nat.reduceLeDiff, ne_eq, Nat.reduceLT, Int.reduceLT, Int.reduceLE, Int.reduceNeg]
  repeat' (first | (refine fork_split (fun hb => ?_) (fun hb => ?_) <;> simp only [hb, E25, k14, k16, hn, h2, h3, h4, h5, hm8, hm2, e8, e2, hw, hw2, k63, k64, k65, k66, k67, k68, hz, ht, l1, l2, h6, eTree, eTreeC, EVT, EVD, ↓reduceIte, Nat.reduceEqDiff, reduceCtorEq, Nat.reduceAdd, Nat.reduceLeDiff, ne_eq, Nat.reduceLT, Int.reduceLT, Int.reduceLE, Int.reduceNeg]) | (refine guard_split (fun hb => ?_) (fun hb => ?_) <;> simp only [hb, E25, k14, k16, hn, h2, h3, h4, h5, hm8, hm2, e8, e2, hw, hw2, k63, k64, k65, k66, k67, k68, hz, ht, l1, l2, h6, eTree, eTreeC, EVT, EVD, ↓reduceIte, Nat.reduceEqDiff, reduceCtorEq, Nat.reduceAdd, Nat.reduceLeDiff, ne_eq, Nat.reduceLT, Int.reduceLT, Int.reduceLE, Int.reduceNeg]) | (refine opK_pick (fun hb => ?_) (fun hb => ?_) <;> simp only [hb, E25, k14, k16, hn, h2, h3, h4, h5, hm8, hm2, e8, e2, hw, hw2, k63, k64, k65, k66, k67, k68, hz, ht, l1, l2, h6, eTree, eTreeC, EVT, EVD, ↓reduceIte, Nat.reduceEqDiff, reduceCtorEq, Nat.reduceAdd, Nat.reduceLeDiff, ne_eq, Nat.reduceLT, Int.reduceLT, Int.reduceLE, Int.reduceNeg]))
  all_goals (simp_all only [doneN, eTree, eTreeC, BBT, ↓reduceIte, reduceCtorEq, bne_self_eq_false]; done)
end Go.Proofs.YtnapockikkbkcaaGreat
