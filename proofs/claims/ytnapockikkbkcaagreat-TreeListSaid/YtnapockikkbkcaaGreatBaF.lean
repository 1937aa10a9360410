import Derived.RangeFuncNested
import Derived.KernelRfl
import Derived.Test.YtnapockikkbkcaaGreatRows
import Derived.Carry
import Derived.OpenShut
import Derived.Deep.Slices
import Derived.Deep.Fields
import Derived.ChangeSame
import Derived.ChangeSlices
import Derived.JoinedOf
import Derived.Handed
import Derived.Test.YtnapockikkbkcaaGreatBaE
set_option linter.unusedSimpArgs false
set_option linter.unusedVariables false
namespace Go.Proofs.YtnapockikkbkcaaGreat
open Go Go.Abs Go.RowKit Go.Shelf
attribute [local go_sem] Oper.semAt_some
def badP (x : Bytes × Bool) (n : Nat) : Bool := !x.2 || !nameOk x.1 || n == 12
def splGo : List (Bytes × Bool) → Nat → Option (List Bytes)
  | [], _ => some []
  | x :: r, n => if badP x n = true then none else (splGo r (n + 1)).map (x.1 :: ·)
theorem splGo_app : ∀ (a b : List (Bytes × Bool)) (n : Nat), splGo (a ++ b) n = (splGo a n).bind fun l => (splGo b (n + a.length)).map (l ++ ·) := by
  intro a
  induction a with
  | nil => intro b n; simp [splGo]
  | cons x r ih =>
    intro b n
    simp only [List.cons_append, splGo]
    split
    · rfl
    · rw [ih, show n + 1 + r.length = n + (x :: r).length by simp; omega]
      cases splGo r (n + 1) with
      | none => rfl
      | some l => simp; rfl
def splitN (s : Bytes) : List Bytes × Int := if s = [47] then ([], 0) else match splGo (piecesS s) 0 with
  | none => ([], 60)
  | some [] => ([], 60)
  | some l => (l, 0)
def goodP (pre : List PA) : Prop := splGo (pre.map (·.1)) 0 = some (pre.map (·.1.1)) ∧ pre.length ≤ 12
theorem goodP_snoc {pre : List PA} {x : PA} (h : goodP pre) (hb : badP x.1 pre.length = false) : goodP (pre ++ [x]) := by
  refine ⟨?_, ?_⟩
  · rw [List.map_append, splGo_app, h.1]
    simp [splGo, hb]
  · have : pre.length ≠ 12 := by intro e; rw [e] at hb; simp [badP] at hb
    have := h.2
    simp; omega
theorem badP_snoc {pre : List PA} {x : PA} (h : goodP pre) (hb : badP x.1 pre.length = true) : splGo ((pre ++ [x]).map (·.1)) 0 = none := by
  rw [List.map_append, splGo_app, h.1]
  simp [splGo, hb]
theorem splGo_pre {a l : List (Bytes × Bool)} (h : a <+: l) (hn : splGo a 0 = none) : splGo l 0 = none := by
  obtain ⟨b, rfl⟩ := h
  rw [splGo_app, hn]; rfl
theorem info9 : (Tryz.prog.info? 9).map (fun i => (i.zero, i.size, i.bytes)) = some (some (.string ⟨#[]⟩), 1, 16) := by kernel_rfl
abbrev encN (b : Bytes) : Value := .string (bs b)
theorem appended {W w1 : World} {n₀ B : Nat} {v v' : Value} {k m : Nat} {xs ys : List Value} {tmp : Obj}
    (hv : Boxed W B 60 v) (hrow : W.ownsRow n₀ 9 1 v k xs) (hown' : w1.ownsRow n₀ 9 1 v' m ys) (hgrow : (W.alloc tmp).grownBy w1 v.ownBlock) :
    Boxed w1 B 60 v ∧ Boxed (w1.setCell ⟨B, 0, none⟩ v') B 60 v' ∧ (w1.setCell ⟨B, 0, none⟩ v').ownsRow n₀ 9 1 v' m ys ∧ KeepsOthers W (w1.setCell ⟨B, 0, none⟩ v') ∧
    (w1.setCell ⟨B, 0, none⟩ v').os = W.os ∧ (w1.setCell ⟨B, 0, none⟩ v').tape = W.tape ∧ (w1.setCell ⟨B, 0, none⟩ v').output = W.output ∧ W.heap.size ≤ (w1.setCell ⟨B, 0, none⟩ v').heap.size ∧
    ∀ q, q < n₀ → q < W.heap.size → q ≠ B → (w1.setCell ⟨B, 0, none⟩ v').heap[q]? = W.heap[q]? := by
  have hv1 : Boxed w1 B 60 v := (hv.alloc tmp).kept hgrow (hv.not_row (by decide) hrow)
  have hs := grownBy_setCell' w1 B v'
  refine ⟨hv1, hv1.set v', hown'.kept hs (.inr (hv1.not_row (by decide) hown').symm), ?_, ?_, ?_, ?_, ?_, ?_⟩
  · refine ((KeepsOthers.alloc W tmp).trans (KeepsOthers.of_grownBy hgrow fun j o ej hj => ?_)).trans (KeepsOthers.setCell _ _ _)
    rcases (hrow.alloc tmp).2 with ⟨rfl, _⟩ | ⟨g, cap, cur, rfl, _, hgb, _⟩
    · simp [Value.ownBlock] at ej
    · obtain rfl : g = j := by simpa [Value.ownBlock] using ej
      rw [hgb] at hj; cases hj; rfl
  · exact hs.os.trans hgrow.os
  · exact hs.tape.trans hgrow.tape
  · exact hs.output.trans hgrow.output
  · have h1 := hgrow.size
    have h2 := hs.size
    simp at h1
    omega
  · intro q hq hqw hqB
    have hlt : q < (W.alloc tmp).heap.size := by simp; omega
    rw [hs.block q (Nat.lt_of_lt_of_le hlt hgrow.size) (fun e => hqB (by cases e; rfl)), hgrow.block q hlt ?_]
    · exact Below.heap_alloc _ _ _ hqw
    · intro e
      rcases hrow.2 with ⟨rfl, _⟩ | ⟨g, cap, cur, rfl, hb, _, _⟩
      · simp [Value.ownBlock] at e
      · obtain rfl : q = g := by simpa [Value.ownBlock] using e
        omega
structure InvS (w : World) (pre : List PA) (W : World) : Prop where
  good : goodP pre
  r0 : Boxed W w.heap.size 60 (.slice none 0 0)
  r1 : Boxed W (w.heap.size + 1) 30 (.int .i64 0)
  row : ∃ v, Boxed W (w.heap.size + 2) 60 v ∧ W.ownsRow (w.heap.size + 4) 9 1 v pre.length (pre.map fun x => encN x.1.1)
  below : Below w.heap.size w W
  sz : w.heap.size + 4 ≤ W.heap.size
structure OutS (w : World) (c : Code) (pre : List PA) (W : World) : Prop where
  ret : c = .ret
  bad : splGo (pre.map (·.1)) 0 = none
  r0 : Boxed W w.heap.size 60 (.slice none 0 0)
  r1 : Boxed W (w.heap.size + 1) 30 (.int .i64 60)
  below : Below w.heap.size w W
theorem boxed_keep {W W' : World} {row : Option Nat} {B k : Nat} {t : TypeId} {v : Value} (h : Boxed W B t v) (hg : W.grownBy W' row) (hr : ∀ r, row = some r → k ≤ r ∧ ∃ o : Obj, W.heap[r]? = some o ∧ o.isCells = false) : Boxed W' B t v :=
  h.kept hg fun e => by obtain ⟨_, o, ho, hc⟩ := hr B e.symm; rw [show W.heap[B]? = _ from h] at ho; cases ho; cases hc
theorem InvS.own {w : World} : OwnFrom (w.heap.size + 4) (InvS w) := fun s A B row hs hg hr => by
  obtain ⟨v, hv, hrow⟩ := hs.row
  exact ⟨hs.good, boxed_keep hs.r0 hg hr, boxed_keep hs.r1 hg hr, ⟨v, boxed_keep hv hg hr, ((holdsRow_own (β := Unit) (w.heap.size + 4) (w.heap.size + 2) 60 9 1 (fun _ => s.length) (fun _ => s.map fun x => encN x.1.1) (fun _ u => u = v)) () A B row ⟨v, hv, hrow, rfl⟩ hg (fun r e => (hr r e).2)).elim fun u hu => hu.2.2 ▸ hu.2.1⟩, ownFrom_below (β := Unit) (Nat.le_refl _) (by omega) () A B row hs.below hg hr, Nat.le_trans hs.sz hg.size⟩
theorem OutS.own {w : World} (c : Code) : OwnFrom (w.heap.size + 4) (OutS w c) := fun s A B row hs hg hr =>
  ⟨hs.ret, hs.bad, boxed_keep hs.r0 hg hr, boxed_keep hs.r1 hg hr, ownFrom_below (β := Unit) (Nat.le_refl _) (by omega) () A B row hs.below hg hr⟩
theorem InvS.cell {w : World} (s : List PA) (A : World) (u : Value) (hs : InvS w s A) : InvS w s (A.setCell ⟨w.heap.size + 3, 0, none⟩ u) := by
  obtain ⟨v, hv, hrow⟩ := hs.row
  have hg := grownBy_setCell' A (w.heap.size + 3) u
  refine ⟨hs.good, hs.r0.other (by omega) _, hs.r1.other (by omega) _, ⟨v, hv.other (by omega) _, hrow.kept hg ?_⟩, hs.below.setCell (p := ⟨w.heap.size + 3, 0, none⟩) (by simp) _, Nat.le_trans hs.sz hg.size⟩
  rcases hrow.2 with ⟨rfl, _⟩ | ⟨g, cap, cur, rfl, hb, _, _⟩
  · exact .inl rfl
  · refine .inr fun e => ?_
    have : g = w.heap.size + 3 := by simpa [Value.ownBlock] using e
    omega
theorem OutS.made {w W : World} {pre : List PA} (h0 : Boxed W w.heap.size 60 (.slice none 0 0)) (h1 : Boxed W (w.heap.size + 1) 30 (.int .i64 0)) (hb : Below w.heap.size w W) (hbad : splGo (pre.map (·.1)) 0 = none) :
    KeepsOthers W ((W.setCell ⟨w.heap.size, 0, none⟩ (.slice none 0 0)).setCell ⟨w.heap.size + 1, 0, none⟩ (.int .i64 60)) ∧ OutS w .ret pre ((W.setCell ⟨w.heap.size, 0, none⟩ (.slice none 0 0)).setCell ⟨w.heap.size + 1, 0, none⟩ (.int .i64 60)) := by
  refine ⟨(KeepsOthers.setCell _ _ _).trans (KeepsOthers.setCell _ _ _), rfl, hbad, (h0.set _).other (by omega) _, ?_, (hb.setCell (p := ⟨w.heap.size, 0, none⟩) (Nat.le_refl _) _).setCell (p := ⟨w.heap.size + 1, 0, none⟩) (by simp) _⟩
  exact (h1.other (by omega) _).set _
theorem row_shape {W : World} {n₀ k : Nat} {v : Value} {xs : List Value} (h : W.ownsRow n₀ 9 1 v k xs) : ∃ p cap, v = .slice p k cap := by
  rcases h.2 with ⟨rfl, rfl⟩ | ⟨g, cap, cur, rfl, _⟩
  · exact ⟨_, _, rfl⟩
  · exact ⟨_, _, rfl⟩
theorem row_put {W : World} {n₀ n₁ k D : Nat} {v : Value} {xs : List Value} {x : Option (List Deferred)} {o : Obj} (h : W.ownsRow n₀ 9 1 v k xs) (hn : n₁ ≤ n₀) (hD : W.heap[D]? = some (.deferred x)) : (W.putObj D o).ownsRow n₁ 9 1 v k xs := by
  refine ⟨h.1, ?_⟩
  rcases h.2 with h0 | ⟨g, cap, cur, e, hb, hg, hr⟩
  · exact .inl h0
  · refine .inr ⟨g, cap, cur, e, by omega, ?_, hr⟩
    exact (World.putObj_heap_other (fun e => by subst e; rw [hD] at hg; cases hg)).trans hg
theorem row_cell {W : World} {n₀ k B : Nat} {v : Value} {xs : List Value} (h : W.ownsRow n₀ 9 1 v k xs) (hB : B < n₀) (u : Value) : (W.setCell ⟨B, 0, none⟩ u).ownsRow n₀ 9 1 v k xs := by
  refine ⟨h.1, ?_⟩
  rcases h.2 with h0 | ⟨g, cap, cur, e, hb, hg, hr⟩
  · exact .inl h0
  · exact .inr ⟨g, cap, cur, e, hb, (Below.heap_setCell _ _ _ _ (by show _ ≠ B; omega)).trans hg, hr⟩
theorem boxed_put {W : World} {B D : Nat} {t : TypeId} {v : Value} {x : Option (List Deferred)} {o : Obj} (h : Boxed W B t v) (hD : W.heap[D]? = some (.deferred x)) : Boxed (W.putObj D o) B t v :=
  (World.putObj_heap_other (fun e => by subst e; rw [show W.heap[B]? = _ from h] at hD; cases hD)).trans h
theorem below_put {w W : World} {D : Nat} {o : Obj} (h : Below w.heap.size w W) (hD : w.heap.size ≤ D) : Below w.heap.size w (W.putObj D o) :=
  ⟨h.os, h.tape, h.output, by simpa [World.putObj] using h.size, fun k hk => (World.putObj_heap_other (by omega)).trans (h.block k hk)⟩
theorem mark_cell {W : World} {B D : Nat} {o : Obj} {u : Value} (h : W.heap[D]? = some o) (hB : D ≠ B) : (W.setCell ⟨B, 0, none⟩ u).heap[D]? = some o := (Below.heap_setCell _ _ _ _ (by show _ ≠ B; omega)).trans h
theorem results69 {W : World} {b : Nat} {v u : Value} {tmps : Array Value} (h2 : tmps[2]? = some (.pointer (some ⟨b, 0, none⟩))) (h3 : tmps[3]? = some (.pointer (some ⟨b + 1, 0, none⟩))) (hv : Boxed W b 60 v) (hu : Boxed W (b + 1) 30 u) : (results Tryz.f69 tmps).run Tryz.prog W = .ok (.tuple #[v, u]) W := by
  have c0 := hv.cell
  have c1 := hu.cell
  simp [results, Tryz.f69, go_sem, c0, c1, h2, h3]
theorem leaves_mark {F : Fence} {n : Nat} {P : Program} {fn : Func} {tmps : Array Value} {R : Ending → World → Prop} {D : Nat} {W W' : World} {v : Value} (hD : (Instr.takeDeferred D).run P W = .ok [] W') (hv : (results fn tmps).run P W' = .ok v W') (hR : R (.returned v) W') :
    LeavesInM F n P fn tmps R [{ target := .collected D, args := #[] }] .returning W :=
  ⟨by simp, .inl ⟨D, W', rfl, hD, ⟨v, hv, hR⟩⟩⟩
set_option maxRecDepth 100000 in
set_option maxHeartbeats 2000000 in
theorem split_in (n : Nat) (hn : 6 ≤ n) (s : Bytes) (ha : Ascii s) (hs : s.length ≤ 100000) (w : World) :
    CallsIn Fence.wide n Tryz.prog 69 #[.string (bs s)] w fun e W' => ∃ v, e = .returned (.tuple #[v, .int .i64 (splitN s).2]) ∧ W'.ownsRow w.heap.size 9 1 v (splitN s).1.length ((splitN s).1.map encN) ∧ Below w.heap.size w W' := by
  have h1 : 1 ≤ n := by omega
  obtain ⟨i0, hi, hz0, hz1, hz2⟩ := info_parts info9
  refine callsIn_of_wp_marks Tryz.func69 rfl trivial ?_ rfl
  simp only [Tryz.ntmps69, List.size_toArray, List.length_cons, List.length_nil, Nat.reduceAdd, Nat.reduceSub, Array.replicate_succ, Array.replicate_zero, List.push_toArray, List.append_toArray, List.nil_append, List.cons_append]
  have b0 := Boxed.new w 60 (.slice none 0 0)
  have b1 := Boxed.new (w.alloc (.cells #[.slice none 0 0] 60)) 30 (.int .i64 0)
  have b2 := Boxed.new ((w.alloc (.cells #[.slice none 0 0] 60)).alloc (.cells #[.int .i64 0] 30)) 60 (.slice none 0 0)
  have b3 := Boxed.new (((w.alloc (.cells #[.slice none 0 0] 60)).alloc (.cells #[.int .i64 0] 30)).alloc (.cells #[.slice none 0 0] 60)) 9 (.string (bs s))
  simp only [World.size_alloc] at b1 b2 b3
  have hB2 : Below w.heap.size w ((w.alloc (.cells #[.slice none 0 0] 60)).alloc (.cells #[.int .i64 0] 30)) := ((Below.refl _ w).alloc (Nat.le_refl _) _).alloc (by simp) _
  have hB4 := (hB2.alloc (by simp; omega) (.cells #[.slice none 0 0] 60)).alloc (by simp; omega) (.cells #[.string (bs s)] 9)
  by_cases hs47 : s = [47]
  · subst hs47
    have ht : ((bs [47]).toList == [47]) = true := by rw [bs_toList]; rfl
    gi_wp2
    have c0 := (b0.alloc (.cells #[.int .i64 0] 30)).cell
    have c1 := b1.cell
    refine ⟨.tuple #[.slice none 0 0, .int .i64 0], ?_, _, rfl, World.ownsRow_nil _ _ _ _, hB2⟩
    simp [results, Tryz.f69, go_sem, c0, c1]
  have ht : ((bs s).toList == [47]) = false := by rw [bs_toList]; simpa using hs47
  gi_wp2
  refine ⟨trivial, (pieces106 _ s _).mono ?_⟩
  rintro e w' ⟨rfl, rfl⟩
  gi_wp2
  obtain ⟨W4, hW4⟩ : ∃ W4, (((w.alloc (.cells #[.slice none 0 0] 60)).alloc (.cells #[.int .i64 0] 30)).alloc (.cells #[.slice none 0 0] 60)).alloc (.cells #[.string (bs s)] 9) = W4 := ⟨_, rfl⟩
  have hsz : W4.heap.size = w.heap.size + 4 := by rw [← hW4]; simp
  have e0 : Boxed W4 w.heap.size 60 (.slice none 0 0) := by rw [← hW4]; exact ((b0.alloc _).alloc _).alloc _
  have e1 : Boxed W4 (w.heap.size + 1) 30 (.int .i64 0) := by rw [← hW4]; exact (b1.alloc _).alloc _
  have e2 : Boxed W4 (w.heap.size + 2) 60 (.slice none 0 0) := by rw [← hW4]; exact b2.alloc _
  rw [hW4] at b3 hB4 ⊢
  have hseq : SeqStopsC (w.heap.size + 3) Fence.wide (n - 1) Tryz.prog 129 #[.pointer (some ⟨w.heap.size + 3, 0, none⟩)] encP (fun A B => B.heap[w.heap.size + 3]? = A.heap[w.heap.size + 3]?) (fun xs => xs.map (·.1) = piecesS s) (fun pre => pre.map (·.1) <+: piecesS s) (piecesS s).length W4 :=
    fun l J Jx W hW hJ hJx hJc hY h0 => iter129 (n - 1) (by omega) l _ _ s ha hs (Nat.le_refl _) J Jx W hJ hJc hY ((hW.block _ (by omega)).trans b3) h0
  refine wpIn_rangeFunc_ownC (b0 := w.heap.size + 3) (by omega) rfl h1 (gf := 129) (lb := #[.pointer (some ⟨w.heap.size + 3, 0, none⟩)]) rfl trivial (enters_of Tryz.func129 (by kernel_rfl) rfl) hseq
    (fun h k => k.trans h) (fun W l o o' hl _ _ _ => World.putObj_heap_other (by omega)) (Below.refl _ _) (fun _ => rfl)
    (InvS w) (OutS w) (by rw [hsz]; exact InvS.own) (fun c => by rw [hsz]; exact OutS.own c) InvS.cell
    ⟨⟨rfl, by simp⟩, e0, e1, ⟨_, e2, World.ownsRow_nil _ _ _ _⟩, hB4, by omega⟩
    (fun x => { tmps := #[.string (bs s), undef, .pointer (some ⟨w.heap.size, 0, none⟩), .pointer (some ⟨w.heap.size + 1, 0, none⟩), .pointer (some ⟨w.heap.size + 1 + 1, 0, none⟩), .string (bs x.1.1), .bool x.1.2, .string (bs s), .bool false, .string (bs s), .func (.func 129) #[] #[.pointer (some ⟨w.heap.size + 1 + 1 + 1, 0, none⟩)], .string (bs x.1.1), .bool x.1.2,
      undef, undef, undef, undef, undef, undef, undef, undef, undef, undef, undef, undef, undef, undef, undef, undef, undef, undef, undef, undef], defers := [] }) ?assign ?body ?done ?stop
  case assign =>
    intro l x W K hK
    gi_wp2
    exact hK
  case body =>
    rintro l pre ⟨⟨nm, ok⟩, hxa, hxl⟩ W hInv hlt
    obtain ⟨v, hv, hrow⟩ := hInv.row
    have hc0 := hInv.r0.cell
    have hf0 := hInv.r0.frozen
    have hc1 := hInv.r1.cell
    have hf1 := hInv.r1.frozen
    cases ok with
    | false =>
      gi_wp2
      refine ⟨trivial, ?_⟩
      gi_wp2
      exact OutS.made hInv.r0 hInv.r1 hInv.below (badP_snoc hInv.good (by simp [badP]))
    | true =>
      gi_wp2
      refine ⟨trivial, fun h => (by cases h), (CallsIn.inRound l (callsIn_wide.2 (right41 nm hxl hxa W))).mono ?_⟩
      rintro e W5 ⟨rfl, hg5⟩
      have hInv5 : InvS w pre W5 := InvS.own pre W W5 none hInv hg5 (fun r e => by cases e)
      have hK5 : KeepsOthers W W5 := KeepsOthers.of_grownBy hg5 (fun j o e => by cases e)
      clear hc0 hf0 hc1 hf1 hrow hv v
      obtain ⟨v, hv, hrow⟩ := hInv5.row
      have hc0 := hInv5.r0.cell
      have hf0 := hInv5.r0.frozen
      have hc1 := hInv5.r1.cell
      have hf1 := hInv5.r1.frozen
      have hc2 : W5.cell? ⟨w.heap.size + 1 + 1, 0, none⟩ = some v := hv.cell
      have hf2 : W5.frozen? ⟨w.heap.size + 1 + 1, 0, none⟩ = false := hv.frozen
      cases hnm : nameOk nm with
      | false =>
        gi_wp2
        have := OutS.made hInv5.r0 hInv5.r1 hInv5.below (badP_snoc (x := ⟨(nm, true), hxa, hxl⟩) hInv5.good (by simp [badP, hnm]))
        exact ⟨hK5.trans this.1, this.2⟩
      | true =>
        obtain ⟨p, cap, rfl⟩ := row_shape hrow
        by_cases hl : pre.length = 12
        · have hl' : ((pre.length : Int) == 12) = true := by simp [hl]
          gi_wp2
          have := OutS.made hInv5.r0 hInv5.r1 hInv5.below (badP_snoc (x := ⟨(nm, true), hxa, hxl⟩) hInv5.good (by simp [badP, hnm, hl]))
          exact ⟨hK5.trans this.1, this.2⟩
        · have hl' : ((pre.length : Int) == 12) = false := by simp; omega
          gi_wp2_with (gi_at_builtin; generalize hX : wpListIn _ _ _ _ _ _ _ _ = X)
          subst hX
          refine wpListIn_append_own _ rfl _ _ 60 rfl (w.heap.size + 4) 9 i0 (.string ⟨#[]⟩) 1 16 Tryz.underlying60 hi hz0 hz1 hz2 rfl (by decide) _ _ _ rfl (hrow.alloc _) ⟨W5.heap.size, 0, none⟩ 1 1 [encN nm] rfl rfl (cell_one_new _ _ _) (by simp [Value.oneCell']) (by have := hInv5.good.2; simp [maxLen]; omega) (by have := hInv5.good.2; omega) (by have := hv.lt; simp; omega) ?_
          intro v' w1 hown' hgrow hiff
          obtain ⟨q0, q1, q2, q3, q4, q5, q6, q7, q8⟩ := appended hv hrow hown' hgrow
          have hc2' : w1.cell? ⟨w.heap.size + 1 + 1, 0, none⟩ = some (.slice p pre.length cap) := q0.cell
          have hf2' : w1.frozen? ⟨w.heap.size + 1 + 1, 0, none⟩ = false := q0.frozen
          obtain ⟨p', cap', rfl⟩ := row_shape hown'
          gi_wp2
          refine ⟨hK5.trans q3, (q8 _ (by omega) (by have := hInv5.sz; omega) (by omega)).trans (hg5.block _ (by have := hInv.sz; omega) (by simp)), ?_⟩
          refine ⟨goodP_snoc hInv5.good (by simp [badP, hnm, hl]), (q8 _ (by omega) hInv5.r0.lt (by omega)).trans hInv5.r0, (q8 _ (by omega) hInv5.r1.lt (by omega)).trans hInv5.r1, ⟨_, q1, by simpa using q2⟩, ?_, Nat.le_trans hInv5.sz q7⟩
          exact hInv5.below.trans ⟨q4, q5, q6, q7, fun q hq => q8 q (by omega) (by have := hInv5.below.size; omega) (by omega)⟩
  case done =>
    rintro D ys W hD hys hInv hK
    obtain ⟨v, hv, hrow⟩ := hInv.row
    have hc0 := hInv.r0.cell
    have hf0 := hInv.r0.frozen
    have hc1 := hInv.r1.cell
    have hf1 := hInv.r1.frozen
    have hc2 : W.cell? ⟨w.heap.size + 1 + 1, 0, none⟩ = some v := hv.cell
    have hf2 : W.frozen? ⟨w.heap.size + 1 + 1, 0, none⟩ = false := hv.frozen
    obtain ⟨p, cap, rfl⟩ := row_shape hrow
    by_cases hl : ys.length = 0
    · have hl' : ((ys.length : Int) == 0) = true := by simp [hl]
      have hy : ys = [] := List.length_eq_zero_iff.1 hl
      have hsp : splitN s = ([], 60) := by
        rw [hy] at hys
        simp [splitN, hs47, ← hys, splGo]
      gi_wp2
      have hm := mark_cell (u := .int .i64 60) (mark_cell (u := .slice none 0 0) hK (B := w.heap.size) (by omega)) (B := w.heap.size + 1) (by omega)
      have k0 : Boxed ((W.setCell ⟨w.heap.size, 0, none⟩ (.slice none 0 0)).setCell ⟨w.heap.size + 1, 0, none⟩ (.int .i64 60)) w.heap.size 60 (.slice none 0 0) := (hInv.r0.set _).other (by omega) _
      have k1 : Boxed ((W.setCell ⟨w.heap.size, 0, none⟩ (.slice none 0 0)).setCell ⟨w.heap.size + 1, 0, none⟩ (.int .i64 60)) (w.heap.size + 1) 30 (.int .i64 60) := (hInv.r1.other (by omega) _).set _
      refine leaves_mark (run_takeDeferred hm) (results69 rfl rfl (boxed_put k0 hm) (boxed_put k1 hm)) ⟨_, rfl, World.ownsRow_nil _ _ _ _, below_put ((hInv.below.setCell (p := ⟨w.heap.size, 0, none⟩) (Nat.le_refl _) _).setCell (p := ⟨w.heap.size + 1, 0, none⟩) (by simp) _) (by omega)⟩
    · have hl' : ((ys.length : Int) == 0) = false := by rw [beq_eq_false_iff_ne]; omega
      have hsp : splitN s = (ys.map (·.1.1), 0) := by
        have h0 := hInv.good.1
        rw [hys] at h0
        cases ys with
        | nil => simp at hl
        | cons y ys => simp [splitN, hs47, h0]
      gi_wp2
      have hm := mark_cell (u := .int .i64 0) (mark_cell (u := .slice p ys.length cap) hK (B := w.heap.size) (by omega)) (B := w.heap.size + 1) (by omega)
      have k0 : Boxed ((W.setCell ⟨w.heap.size, 0, none⟩ (.slice p ys.length cap)).setCell ⟨w.heap.size + 1, 0, none⟩ (.int .i64 0)) w.heap.size 60 (.slice p ys.length cap) := (hInv.r0.set _).other (by omega) _
      have k1 : Boxed ((W.setCell ⟨w.heap.size, 0, none⟩ (.slice p ys.length cap)).setCell ⟨w.heap.size + 1, 0, none⟩ (.int .i64 0)) (w.heap.size + 1) 30 (.int .i64 0) := (hInv.r1.other (by omega) _).set _
      refine leaves_mark (run_takeDeferred hm) (results69 rfl rfl (boxed_put k0 hm) (boxed_put k1 hm)) ⟨_, rfl, ?_, below_put ((hInv.below.setCell (p := ⟨w.heap.size, 0, none⟩) (Nat.le_refl _) _).setCell (p := ⟨w.heap.size + 1, 0, none⟩) (by simp) _) (by omega)⟩
      have := row_put (row_cell (row_cell hrow (by omega : w.heap.size < _) (.slice p ys.length cap)) (by omega : w.heap.size + 1 < _) (.int .i64 0)) (by omega : w.heap.size ≤ _) hm (o := .deferred none)
      simpa [Function.comp_def] using this
  case stop =>
    rintro D c pre W hD hpre hOut hK
    obtain rfl := hOut.ret
    have hsp : splitN s = ([], 60) := by simp [splitN, hs47, splGo_pre hpre hOut.bad]
    gi_wp2
    refine leaves_mark (run_takeDeferred hK) (results69 rfl rfl (boxed_put hOut.r0 hK) (boxed_put hOut.r1 hK)) ⟨_, rfl, World.ownsRow_nil _ _ _ _, below_put hOut.below (by omega)⟩
theorem split69 (s : Bytes) (ha : Ascii s) (hs : s.length ≤ 100000) (w : World) :
    Calls Tryz.prog 69 #[.string (bs s)] w fun e W' => ∃ v, e = .returned (.tuple #[v, .int .i64 (splitN s).2]) ∧ W'.ownsRow w.heap.size 9 1 v (splitN s).1.length ((splitN s).1.map encN) ∧ Below w.heap.size w W' :=
  callsIn_wide.1 (split_in 6 (by omega) s ha hs w)
end Go.Proofs.YtnapockikkbkcaaGreat
namespace Go.Abs
open Go
def ow {α : Type} (p : Prop) [Decidable p] (x : Option α) : Option α := if p then x else none
theorem ow_eq {α : Type} (p : Prop) [Decidable p] (x : Option α) : ow p x = owhen p x := by
  unfold ow
  split
  · rename_i h; exact (owhen_pos h).symm
  · rename_i h; rw [eq_false h]; exact (owhen_false x).symm
def widB (xs : List AVal) (sz : Nat) : Bool := xs.all fun x => x.cells.length == sz
theorem widB_eq (xs : List AVal) (sz : Nat) : (widB xs sz = true) = wid xs sz := by
  simp [widB, wid]
instance (n b : Nat) : Decidable (roomOk n b) := inferInstanceAs (Decidable (n * b ≤ 2 ^ 44))
noncomputable def rop (call : CallF) (env : Env) (M : AMem) : AOp → Option (AVal × AMem)
  | .sliceS x lo hi =>
    match x.ev env with
    | .str s => obind (boundOf env s.length hi) fun h => obind (boundOf env 0 lo) fun l =>
      ow (0 ≤ h ∧ h ≤ s.length ∧ 0 ≤ l ∧ l ≤ h) (some (.str ((s.take h.toNat).drop l.toNat), M))
    | _ => none
  | .sliceV sz x lo hi mx =>
    match x.ev env with
    | .slice _ xs => ow (widB xs sz = true) <| obind (boundOf env xs.length hi) fun h => obind (boundOf env 0 lo) fun l =>
      match mx with
      | none => ow (0 ≤ h ∧ h ≤ xs.length ∧ 0 ≤ l ∧ l ≤ h) (some (.slice .sh ((xs.take h.toNat).drop l.toNat), M))
      | some m => match m.ev env with
        | .int _ m => ow (0 ≤ m ∧ m ≤ xs.length ∧ 0 ≤ h ∧ h ≤ m ∧ 0 ≤ l ∧ l ≤ h)
            (oif (m == 0) (some (.slice .c0 [], M)) (some (.slice .sh ((xs.take h.toNat).drop l.toNat), M)))
        | _ => none
    | .aref id v sz' al ah => ow (sz' = sz) <| obind (boundOf env (ah - al) hi) fun h => obind (boundOf env 0 lo) fun l =>
      match mx with
      | none => ow (0 ≤ h ∧ h ≤ (ah - al : Nat) ∧ 0 ≤ l ∧ l ≤ h) (oif (l == h) (some (.slice .sh [], M)) (some (.aref id v sz (al + l.toNat) (al + h.toNat), M)))
      | some m => match m.ev env with
        | .int _ m => ow (0 ≤ m ∧ m ≤ (ah - al : Nat) ∧ 0 ≤ h ∧ h ≤ m ∧ 0 ≤ l ∧ l ≤ h)
            (oif (m == 0) (some (.slice .c0 [], M)) (oif (l == h) (some (.slice .sh [], M)) (some (.aref id v sz (al + l.toNat) (al + h.toNat), M))))
        | _ => none
    | _ => none
  | .iaddr sz x i =>
    match x.ev env, i.ev env with
    | .slice _ xs, .int _ n => ow (0 ≤ n) (obind (xs[n.toNat]?) fun e => if e.cells.length = sz then some (.rptr e.cells, M) else none)
    | .aref id v sz' lo hi, .int _ n => ow (0 ≤ n ∧ n < (hi - lo : Nat) ∧ sz' = sz) (some (.eptr id v (lo + n.toNat) 0, M))
    | _, _ => none
  | .indexS x i =>
    match x.ev env, i.ev env with
    | .str s, .int _ n => ow (0 ≤ n) (obind (s[n.toNat]?) fun b => some (.int .u8 b.toNat, M))
    | _, _ => none
  | .append sz bytes x y =>
    match x.ev env, y.ev env with
    | .slice tk xs, .slice _ ys =>
      ow (roomOk (xs.length + ys.length) bytes ∧ widB xs sz = true ∧ widB ys sz = true) (
        match tk with
        | .c0 => match xs with | [] => some (.slice (.own M.length) ys, M ++ [.tick sz ys.length]) | _ => none
        | .own k => match nth M k with
          | some (.tick sz' n) => ow (sz' = sz ∧ n = xs.length) (some (.slice (.own k) (xs ++ ys), setN M k (.tick sz (xs.length + ys.length))))
          | _ => none
        | .sh => none)
    | _, _ => none
  | o => aop call env M o
theorem rop_eq (call : CallF) (env : Env) (M : AMem) (o : AOp) : rop call env M o = aop call env M o := by
  cases o <;> first | rfl | (simp only [rop, aop, ow_eq, widB_eq]; rfl)
def growOk (env : Env) : AOp → Bool
  | .mv _ | .own .. | .pick .. | .box0 _ | .box _ | .build .. | .lits .. | .litsO .. | .loadA .. | .load1 _ | .chk _ | .bin .. | .eqA .. | .eqB .. | .not _ | .neg _ | .conv .. | .same _ | .fn .. | .faddr .. | .fieldA .. | .field1 ..
  | .indexS .. | .extract .. | .lenS _ | .lenV _ | .minmax .. | .b2s _ | .iaddr .. | .sliceS .. => true
  | _ => false
theorem growOk_sound {call : CallF} {env : Env} {M : AMem} {o : AOp} {x : AVal × AMem} (h : growOk env o = true) (hx : aop call env M o = some x) : M <+: x.2 := by
  have hm : ∀ {v : AVal} {x : AVal × AMem}, some (v, M) = some x → M <+: x.2 := fun h => by cases h; exact List.prefix_refl _
  have ha : ∀ {v : AVal} {l : AMem} {x : AVal × AMem}, some (v, M ++ l) = some x → M <+: x.2 := fun h => by cases h; exact List.prefix_append _ _
  have ho : ∀ {p : Prop} {y : Option (AVal × AMem)} {x : AVal × AMem}, owhen p y = some x → y = some x := fun {p} {y} {x} h => by
    by_cases hp : p
    · rwa [owhen_pos hp] at h
    · rw [eq_false hp, owhen_false] at h; cases h
  cases o <;> first | (cases h; done) | skip
  all_goals (simp only [aop] at hx)
  all_goals (repeat' (first | exact hm hx | exact ha hx | (replace hx := ho hx) | (have hx' := obind_inv hx; clear hx; obtain ⟨_, _, hx⟩ := hx') | (have hx' := oif_inv hx; clear hx; rcases hx' with ⟨_, hx⟩ | ⟨_, hx⟩) | (split at hx) | (cases hx; done)))
def sepOk (env : Env) (o : AOp) (sep : List Nat) : Bool := match o with
  | .store _ a _ => match a.ev env with
    | .ptr id _ => !sep.isEmpty && sep.all fun z => match getS env z with | .ptr i _ => i != id | _ => false
    | _ => false
  | _ => false
theorem nth_setN_ne {M : AMem} {i j : Nat} {b : ABox} (h : j ≠ i) : nth (setN M i b) j = nth M j := by
  induction M generalizing i j with
  | nil => rfl
  | cons a r ih =>
    cases i with
    | zero => cases j with
      | zero => exact absurd rfl h
      | succ j => rfl
    | succ i => cases j with
      | zero => rfl
      | succ j => simp only [setN, nth]; exact ih (fun e => h (by rw [e]))
theorem sepOk_sound {call : CallF} {env : Env} {M : AMem} {o : AOp} {sep : List Nat} {x : AVal × AMem} (h : sepOk env o sep = true) (hx : aop call env M o = some x) : sep ≠ [] ∧ sepAll env M x.2 sep := by
  unfold sepOk at h
  split at h
  · rename_i n a y
    split at h
    · rename_i id off ha
      simp only [Bool.and_eq_true, List.all_eq_true] at h
      refine ⟨fun e => by rw [e] at h; simp at h, ?_⟩
      simp only [aop, ha] at hx
      split at hx
      · rename_i cs hcs
        obtain ⟨new, _, hx⟩ := obind_inv hx
        split at hx
        · cases hx
          have h2 := h.2
          clear h
          induction sep with
          | nil => trivial
          | cons z r ih =>
            refine ⟨?_, ih fun w hw => h2 w (List.mem_cons_of_mem _ hw)⟩
            have hz := h2 z List.mem_cons_self
            split
            · rename_i i o hi
              rw [hi] at hz
              exact nth_setN_ne (by simpa using hz)
            · rename_i hi
              split at hz
              · rename_i i o hi'; exact absurd hi' (hi i o)
              · cases hz
        · cases hx
      · cases hx
    · cases h
  · cases h
def sameL (f : AVal → AVal → Bool) : List AVal → List AVal → Bool
  | [], [] => true
  | a :: r, b :: s => f a b && sameL f r s
  | _, _ => false
theorem sameL_eq {f : AVal → AVal → Bool} (hf : ∀ a b, f a b = true → a = b) : ∀ {a b : List AVal}, sameL f a b = true → a = b
  | [], [], _ => rfl
  | a :: r, b :: s, h => by
    simp only [sameL, Bool.and_eq_true] at h
    rw [hf a b h.1, sameL_eq hf h.2]
  | [], _ :: _, h => by cases h
  | _ :: _, [], h => by cases h
def sameV : Nat → AVal → AVal → Bool
  | n + 1, x, y => match x, y with
    | .bool a, .bool b => a == b
    | .int k a, .int l b => decide (k = l) && decide (a = b)
    | .str a, .str b => decide (a = b)
    | .slice t a, .slice u b => decide (t = u) && sameL (sameV n) a b
    | .agg a, .agg b => sameL (sameV n) a b
    | .tuple a, .tuple b => sameL (sameV n) a b
    | .ptr a b, .ptr c d => decide (a = c) && decide (b = d)
    | .rptr a, .rptr b => sameL (sameV n) a b
    | .func f a, .func g b => decide (f = g) && sameL (sameV n) a b
    | .mref a, .mref b => decide (a = b)
    | .iref a, .iref b => decide (a = b)
    | .fmap a b, .fmap c d => sameL (sameV n) a c && sameL (sameV n) b d
    | .aref a b c d e, .aref a' b' c' d' e' => decide (a = a') && decide (b = b') && decide (c = c') && decide (d = d') && decide (e = e')
    | .eptr a b c d, .eptr a' b' c' d' => decide (a = a') && decide (b = b') && decide (c = c') && decide (d = d')
    | .any, .any => true
    | _, _ => false
  | 0, _, _ => false
theorem sameV_eq : ∀ (n : Nat) (a b : AVal), sameV n a b = true → a = b
  | 0, _, _, h => by cases h
  | n + 1, x, y, h => by
    have hl : ∀ {a b : List AVal}, sameL (sameV n) a b = true → a = b := fun h => sameL_eq (sameV_eq n) h
    simp only [sameV] at h
    split at h <;> (try simp only [Bool.and_eq_true, decide_eq_true_eq, beq_iff_eq] at h) <;> first
      | (cases h; done)
      | (rw [h])
      | (rw [hl h])
      | (rw [h.1, hl h.2])
      | (rw [h.1, h.2])
      | (rw [hl h.1, hl h.2])
      | (obtain ⟨⟨⟨⟨h1, h2⟩, h3⟩, h4⟩, h5⟩ := h; rw [h1, h2, h3, h4, h5])
      | (obtain ⟨⟨⟨h1, h2⟩, h3⟩, h4⟩ := h; rw [h1, h2, h3, h4])
      | rfl
def sameB : ABox → ABox → Bool
  | .cells a, .cells b => sameL (sameV 9) a b
  | .tick a b, .tick c d => decide (a = c) && decide (b = d)
  | .map a b, .map c d => sameL (sameV 9) a c && sameL (sameV 9) b d
  | .siter a b, .siter c d => decide (a = c) && decide (b = d)
  | .arr a b c, .arr d e f => decide (a = d) && decide (b = e) && sameL (sameV 9) c f
  | _, _ => false
theorem sameB_eq {a b : ABox} (h : sameB a b = true) : a = b := by
  have hl : ∀ {a b : List AVal}, sameL (sameV 9) a b = true → a = b := fun h => sameL_eq (sameV_eq 9) h
  unfold sameB at h
  split at h <;> (try simp only [Bool.and_eq_true, decide_eq_true_eq] at h) <;> first
    | (cases h; done)
    | (rw [hl h])
    | (rw [h.1, h.2])
    | (rw [hl h.1, hl h.2])
    | (obtain ⟨⟨h1, h2⟩, h3⟩ := h; rw [h1, h2, hl h3])
def prefB : AMem → AMem → Bool
  | [], _ => true
  | a :: r, b :: s => sameB a b && prefB r s
  | _ :: _, [] => false
theorem prefB_eq : ∀ {a b : AMem}, prefB a b = true → a <+: b
  | [], _, _ => List.nil_prefix
  | a :: r, b :: s, h => by
    simp only [prefB, Bool.and_eq_true] at h
    rw [sameB_eq h.1]
    exact (List.prefix_cons_inj _).2 (prefB_eq h.2)
  | _ :: _, [], h => by cases h
noncomputable def rstep (call : CallF) (o : AOper) (env : Env) (M : AMem) : Option (AVal × AMem) :=
  match o.nomem with
  | true => ow (o.op.argIds env = []) (rop call env M o.op)
  | false => match o.grow with
    | false => rop call env M o.op
    | true => match growOk env o.op || sepOk env o.op o.sep with
      | true => rop call env M o.op
      | false => obind (rop call env M o.op) fun x => oif (prefB M x.2) (some x) none
theorem rstep_le {call : CallF} {o : AOper} {env : Env} {M : AMem} {x : AVal × AMem} (h : rstep call o env M = some x) : astep call o env M = some x := by
  unfold rstep at h
  unfold astep
  split at h
  · rename_i hn
    simp only [hn]
    rw [ow_eq, rop_eq] at h
    exact h
  · rename_i hn
    simp only [hn]
    split at h
    · rename_i hg
      simp only [hg]
      rw [rop_eq] at h
      exact h
    · rename_i hg
      simp only [hg]
      split at h
      · rename_i hb
        rw [rop_eq] at h
        rw [h, obind_some]
        refine owhen_pos ?_
        rcases Bool.or_eq_true .. ▸ hb with hb | hb
        · exact .inl (growOk_sound hb h)
        · exact .inr (sepOk_sound hb h)
      · rw [rop_eq] at h
        obtain ⟨y, hy, h⟩ := obind_inv h
        rcases oif_inv h with ⟨hp, h⟩ | ⟨_, h⟩
        · injection h with h; subst h
          rw [hy, obind_some]
          exact owhen_pos (.inl (prefB_eq hp))
        · cases h
noncomputable def rregion (call : CallF) : List AOper → Env → AMem → Option (Env × AMem)
  | [], env, M => some (env, M)
  | o :: r, env, M =>
    match o.guard with
    | none => obind (rstep call o env M) fun x => rregion call r (putS env o.dst x.1) x.2
    | some (t, want) => match getS env t with
      | .bool b => oif (b == want) (obind (rstep call o env M) fun x => rregion call r (putS env o.dst x.1) x.2)
        (rregion call r (putS env o.dst (.tuple [])) M)
      | .tuple [] => rregion call r (putS env o.dst (.tuple [])) M
      | _ => none
theorem rregion_le {call : CallF} : ∀ {ops : List AOper} {env : Env} {M : AMem} {x : Env × AMem}, rregion call ops env M = some x → aregion call ops env M = some x
  | [], _, _, _, h => h
  | o :: r, env, M, x, h => by
    rw [rregion] at h
    rw [aregion]
    split at h
    · rename_i hg
      simp only [hg]
      obtain ⟨a, ha, h⟩ := obind_inv h
      rw [rstep_le ha, obind_some]
      exact rregion_le h
    · rename_i t want hg
      simp only [hg]
      split at h
      · rename_i b hb
        simp only [hb]
        rcases oif_inv h with ⟨hw, h⟩ | ⟨hw, h⟩
        · obtain ⟨a, ha, h⟩ := obind_inv h
          rw [hw, oif_true, rstep_le ha, obind_some]
          exact rregion_le h
        · rw [hw, oif_false]
          exact rregion_le h
      · rename_i hb
        simp only [hb]
        exact rregion_le h
      · cases h
noncomputable def rexec (call : CallF) (fuel : Nat) : ACode → Env → AMem → Option Out
  | .skip, env, M => some ⟨.normal, env, M⟩
  | .region ops _ live, env, M => obind (rregion call ops env M) fun x => some ⟨.normal, keepS x.1 live, x.2⟩
  | .seq a b, env, M => obind (rexec call fuel a env M) fun o => goOn o (rexec call fuel b)
  | .cond c x y, env, M => match c.ev env with
    | .bool t => oif t (rexec call fuel x env M) (rexec call fuel y env M)
    | _ => none
  | .block id c, env, M => obind (rexec call fuel c env M) fun o => some (outOf id o)
  | .loop live c, env, M => iter (rexec call fuel c) live fuel env M
  | .exit id, env, M => some ⟨.exit id, env, M⟩
  | .ret, env, M => some ⟨.ret, env, M⟩
theorem rexec_le {call : CallF} {fuel : Nat} : ∀ (c : ACode) {env : Env} {M : AMem} {x : Out}, rexec call fuel c env M = some x → aexec call c env M = some x
  | .skip, _, _, _, h => h
  | .exit _, _, _, _, h => h
  | .ret, _, _, _, h => h
  | .region ops d live, env, M, x, h => by
    simp only [aexec, rexec] at *
    obtain ⟨a, ha, h⟩ := obind_inv h
    rw [rregion_le ha]; exact h
  | .seq a b, env, M, x, h => by
    simp only [aexec, rexec] at *
    obtain ⟨o, ho, h⟩ := obind_inv h
    rw [rexec_le a ho]
    exact goOn_mono (fun env M x => rexec_le b) h
  | .cond c a b, env, M, x, h => by
    simp only [aexec, rexec] at *
    split
    · rename_i t ht
      simp only [ht] at h
      rcases oif_inv h with ⟨rfl, h⟩ | ⟨rfl, h⟩
      · exact rexec_le a h
      · exact rexec_le b h
    · rename_i ht
      split at h
      · rename_i t ht'; exact absurd ht' (ht t)
      · cases h
  | .block id c, env, M, x, h => by
    simp only [aexec, rexec] at *
    obtain ⟨o, ho, h⟩ := obind_inv h
    rw [rexec_le c ho]; exact h
  | .loop live c, env, M, x, h => by
    simp only [aexec, rexec] at *
    exact lim_some (fun n x => iter_up live n) (iter_mono (fun env M x => rexec_le c) live fuel h)
noncomputable def rcall (T : Tab) (loops : Nat) : Nat → CallF
  | 0, _, _, _ => none
  | n + 1, f, args, M => match T.prim f with
    | some g => g args M
    | none => match T.code f with
      | none => none
      | some fn => if args.length = fn.nparams then obind (rexec (rcall T loops n) loops fn.body (parsFrom 0 args) M) (finish fn.results M.length) else none
def TabLe (S T : Tab) : Prop := S.code = T.code ∧ (∀ f, (S.prim f).isSome = (T.prim f).isSome) ∧ ∀ f g, S.prim f = some g → ∃ g', T.prim f = some g' ∧ ∀ a M x, g a M = some x → g' a M = some x
theorem rcall_le {S T : Tab} (h : TabLe S T) (loops : Nat) : ∀ n, CallLe (rcall S loops n) (acallN T n)
  | 0, _, _, _, _, h => by cases h
  | n + 1, f, a, M, x, hx => by
    rw [rcall] at hx
    rw [acallN]
    split at hx
    · rename_i g hg
      obtain ⟨g', h1, h2⟩ := h.2.2 f g hg
      simp only [h1]
      exact h2 a M x hx
    · rename_i hg
      have : T.prim f = none := by
        have := h.2.1 f
        rw [hg] at this
        cases hT : T.prim f with
        | none => rfl
        | some g => rw [hT] at this; cases this
      simp only [this, ← h.1]
      split at hx
      · cases hx
      · rename_i fn hf
        simp only [hf]
        split at hx
        · rename_i hl
          rw [if_pos hl]
          obtain ⟨o, ho, hx⟩ := obind_inv hx
          rw [aexec_mono (rcall_le h loops n) _ (rexec_le _ ho), obind_some]
          exact hx
        · cases hx
theorem rcall_sound {S T : Tab} (h : TabLe S T) {loops n f : Nat} {a : List AVal} {M : AMem} {x : AVal × AMem} (hx : rcall S loops n f a M = some x) : acall T f a M = some x :=
  lim_some (fun n x h => acallN_up T n f a M x h) (rcall_le h loops n f a M x hx)
end Go.Abs
namespace Go.Proofs.YtnapockikkbkcaaGreat
open Go Go.Abs
instance (s : Bytes) : Decidable (Ascii s) := inferInstanceAs (Decidable (∀ b, b ∈ s → b.toNat < 128))
def pSplit : List AVal → AMem → Option (AVal × AMem)
  | [.str s], M => if Ascii s ∧ s.length ≤ 100000 then some (.tuple [.slice .sh ((splitN s).1.map .str), .int .i64 (splitN s).2], M) else none
  | _, _ => none
theorem splits69 {args : List AVal} {M : AMem} {x : AVal × AMem} (h : pSplit args M = some x) : SoundCall Tryz.prog 69 args M x := by
  unfold pSplit at h
  split at h
  · rename_i s
    split at h
    · rename_i hs
      injection h with h; subst h
      intro j w vs hr hl hv
      obtain ⟨u, rfl⟩ := one_arg hl
      have h1 := (hv 0 _ u rfl rfl).str_inv
      subst h1
      refine (split69 s hs.1 hs.2 w).mono ?_
      rintro e w' ⟨v, rfl, ⟨hlen, hown⟩, hb⟩
      refine ⟨_, j, rfl, hr.grow hb.size hb.os hb.tape hb.output hb.block, Ext.grow hb.size hb.os hb.tape hb.output hb.block, .tuple rfl ?_⟩
      intro i c v' hi hv'
      match i with
      | 0 =>
        cases hi; cases hv'
        refine .plain ?_
        rcases hown with ⟨rfl, h0⟩ | ⟨g, cap, cur, rfl, hg, hg', hn1, _, hcs, htk⟩
        · rw [List.length_eq_zero_iff.1 h0]
          exact RepP.nil _ _ _
        · refine .slice _ _ _ _ g 0 1 (fun k => encN ((splitN s).1.getD k [])) (by simp) (by simpa using hn1) (fun _ => rfl) ?_ ?_ ?_
          · intro x hx
            obtain ⟨b, _, rfl⟩ := List.mem_map.1 hx
            rfl
          · intro i x k c hx hc
            rw [List.getElem?_map] at hx
            obtain ⟨b, hb', rfl⟩ := Option.map_eq_some_iff.1 hx
            match k with
            | 0 =>
              have hi : i < (splitN s).1.length := (List.getElem?_eq_some_iff.1 hb').1
              refine ⟨?_, ?_, ?_, ?_⟩
              · have h1 : cur.toList[i]? = some (encN b) := by
                  have : (cur.toList.take ((splitN s).1.length * 1))[i]? = some (encN b) := by rw [htk, List.getElem?_map, hb']; rfl
                  rwa [List.getElem?_take_of_lt (by omega)] at this
                have h2 : cur[i]? = some (encN b) := by simpa using h1
                have h3 : (splitN s).1.getD i [] = b := by simp [List.getD, hb']
                simp only [Nat.mul_one, Nat.add_zero, Nat.zero_add]
                rw [h3]
                simp [World.cell?, hg', h2]
              · exact lt_of_block hg'
              · intro id hid hji
                have := hr.lt id g hid hji; omega
              · intro hx; have := hr.xlt g _ hx; omega
            | k + 1 => cases hc
          · intro i x k c hx hc
            rw [List.getElem?_map] at hx
            obtain ⟨b, hb', rfl⟩ := Option.map_eq_some_iff.1 hx
            match k with
            | 0 =>
              cases hc
              have h3 : (splitN s).1.getD i [] = b := by simp [List.getD, hb']
              simp only [Nat.mul_one, Nat.add_zero]
              rw [h3]
              exact .str _
            | k + 1 => cases hc
      | 1 => cases hi; cases hv'; exact .plain (.int _ _)
      | i + 2 => cases hi
    · cases h
  · cases h
noncomputable def primS (f : Nat) : Option (List AVal → AMem → Option (AVal × AMem)) := if f = 69 then some pSplit else prim f
noncomputable def tabS : Tab := ⟨code, primS⟩
theorem tabS_ok : TabOk Tryz.prog tabS := by
  refine ⟨code_ok, fun f g h args M x hx => ?_⟩
  simp only [tabS, primS] at h
  split at h
  · rename_i hf
    injection h with h; subst h; subst hf
    exact ⟨by kernel_rfl, splits69 hx⟩
  · exact prim_ok f g h args M x hx
theorem soundS : SoundC Tryz.prog (acall tabS) := acall_sound (by kernel_rfl) tabS_ok
theorem tab_le : ∀ n, CallLe (acallN tab n) (acallN tabS n)
  | 0, f, a, M, x, h => by
    by_cases hf : f = 69
    · subst hf
      rw [acallN] at h
      cases h
    · have hp : tabS.prim f = tab.prim f := by simp [tabS, tab, primS, hf]
      rw [acallN] at h ⊢
      rw [hp]
      exact h
  | n + 1, f, a, M, x, h => by
    by_cases hf : f = 69
    · subst hf
      rw [acallN] at h
      cases h
    · have hp : tabS.prim f = tab.prim f := by simp [tabS, tab, primS, hf]
      rw [acallN] at h ⊢
      rw [hp]
      split at h
      · rename_i g hg; exact h
      · rename_i hg
        have hc : tabS.code f = tab.code f := rfl
        rw [hc]
        split at h
        · cases h
        · rename_i fn hfn
          split at h
          · rename_i hl
            simp only [if_pos hl]
            obtain ⟨o, ho, h⟩ := obind_inv h
            rw [aexec_mono (tab_le n) _ ho, obind_some]
            exact h
          · cases h
theorem tab_leS {f : Nat} {a : List AVal} {M : AMem} {x : AVal × AMem} (h : acall tab f a M = some x) : acall tabS f a M = some x := by
  obtain ⟨n, hn⟩ := lim_ex h
  exact lim_some (fun n x h => acallN_up tabS n f a M x h) (tab_le n f a M x hn)
end Go.Proofs.YtnapockikkbkcaaGreat
namespace Go.Proofs.YtnapockikkbkcaaGreat
open Go Go.Abs
noncomputable def rClone (sz bytes : Nat) : List AVal → AMem → Option (AVal × AMem)
  | [.slice _ xs], M => match xs with
    | [] => some (.slice .c0 [], M)
    | x :: r => ow (widB (x :: r) sz = true ∧ roomOk (x :: r).length bytes) (some (.aref M.length 0 sz 0 (x :: r).length, M ++ [.arr sz 0 (x :: r)]))
  | _, _ => none
theorem rClone_eq (sz bytes : Nat) : rClone sz bytes = pClone sz bytes := by
  funext a M
  unfold rClone pClone
  simp only [ow_eq, widB_eq]
  rfl
noncomputable def rCopy (sz bytes : Nat) : List AVal → AMem → Option (AVal × AMem)
  | [.slice _ xs], M => ow (widB xs sz = true ∧ roomOk xs.length bytes) (some (.slice .sh xs, M))
  | _, _ => none
theorem rCopy_eq (sz bytes : Nat) : rCopy sz bytes = pCopy sz bytes := by
  funext a M
  unfold rCopy pCopy
  simp only [ow_eq, widB_eq]
  rfl
noncomputable def rDelete (sz : Nat) : List AVal → AMem → Option (AVal × AMem)
  | [.aref id ver sz' lo hi, .int .i64 i, .int .i64 i'], M => match nth M id with
    | some (.arr sz0 v xs) => ow (v = ver ∧ sz' = sz ∧ lo = 0 ∧ hi = xs.length ∧ 0 ≤ i ∧ i.toNat < xs.length ∧ i' = i + 1 ∧ xs.length ≤ 2 ^ 44)
        (some (.aref id (ver + 1) sz 0 (xs.length - 1), setN M id (.arr sz0 (ver + 1) (xs.take i.toNat ++ xs.drop (i.toNat + 1)))))
    | _ => none
  | _, _ => none
theorem rDelete_eq (sz : Nat) : rDelete sz = pDelete sz := by
  funext a M
  unfold rDelete pDelete
  simp only [ow_eq, widB_eq]
  rfl
noncomputable def rInsert (sz bytes : Nat) : List AVal → AMem → Option (AVal × AMem)
  | [.aref id ver sz' lo hi, .int .i64 i, .slice _ [e]], M => match nth M id with
    | some (.arr sz0 v xs) => ow (v = ver ∧ sz' = sz ∧ lo = 0 ∧ hi = xs.length ∧ 0 ≤ i ∧ i.toNat ≤ xs.length ∧ e.cells.length = sz ∧ roomOk (xs.length + 1) bytes)
        (some (.aref id (ver + 1) sz 0 (xs.length + 1), setN M id (.arr sz0 (ver + 1) (xs.take i.toNat ++ e :: xs.drop i.toNat))))
    | _ => none
  | [.slice .c0 [], .int .i64 i, .slice _ [e]], M => ow (i = 0 ∧ e.cells.length = sz) (some (.aref M.length 0 sz 0 1, M ++ [.arr sz 0 [e]]))
  | _, _ => none
theorem rInsert_eq (sz bytes : Nat) : rInsert sz bytes = pInsert sz bytes := by
  funext a M
  unfold rInsert pInsert
  simp only [ow_eq, widB_eq]
  rfl
noncomputable def primR : Nat → Option (List AVal → AMem → Option (AVal × AMem))
  | 58 => some (rClone 3 32)
  | 84 => some (rDelete 3)
  | 85 => some (rClone 6 80)
  | 86 => some (rInsert 6 80)
  | 87 => some (rInsert 3 32)
  | 107 => some (rCopy 1 1)
  | 109 => some (rDelete 6)
  | 110 => some pCompare
  | 69 => some pSplit
  | _ => none
theorem primR_eq : primR = primS := by
  funext f
  unfold primR primS prim
  simp only [rClone_eq, rCopy_eq, rDelete_eq, rInsert_eq]
  by_cases h : f = 69
  · subst h; rfl
  · rw [if_neg h]
    split <;> first | rfl | (exact absurd rfl h) | skip
    rename_i h1 h2 h3 h4 h5 h6 h7 h8 h9
    split <;> first | rfl | (exfalso; simp_all; done)
noncomputable def tabR : Tab := ⟨code, primR⟩
theorem tabR_eq : tabR = tabS := by simp only [tabR, tabS, primR_eq]
theorem run_sound {loops n f : Nat} {a : List AVal} {M : AMem} {x : AVal × AMem} (hx : rcall tabR loops n f a M = some x) : acall tabS f a M = some x := by
  rw [tabR_eq] at hx
  exact rcall_sound ⟨rfl, fun _ => rfl, fun f g h => ⟨g, h, fun _ _ _ h => h⟩⟩ hx
end Go.Proofs.YtnapockikkbkcaaGreat
namespace Go.Proofs.YtnapockikkbkcaaGreat
open Go Go.Abs
theorem head_ok : acall tabS 11 [] [] = some (.bool true, []) := run_sound (loops := 20) (n := 20) (by kernel_rfl)
end Go.Proofs.YtnapockikkbkcaaGreat
namespace Go.Proofs.YtnapockikkbkcaaGreat
open Go Go.Abs
noncomputable def tabX (c : Nat → Option AFn) : Tab := ⟨fun f => match c f with
  | some fn => some fn
  | none => code f, primS⟩
theorem codeX {c : Nat → Option AFn} {f : Nat} {fn : AFn} (h : c f = some fn) : (tabX c).code f = some fn := by simp only [tabX, h]
structure ExtOk (c : Nat → Option AFn) : Prop where
  ok : ∀ f fn, c f = some fn → ∃ A func, Tryz.prog.funcs[f]? = some func ∧ compFn Tryz.prog A func = some fn
  new : ∀ f fn, c f = some fn → code f = none ∧ primS f = none
theorem tabX_ok {c : Nat → Option AFn} (h : ExtOk c) : TabOk Tryz.prog (tabX c) := by
  refine ⟨fun f fn hf => ?_, tabS_ok.2⟩
  simp only [tabX] at hf
  split at hf
  · rename_i fn' hc
    injection hf with hf; subst hf
    exact h.ok f _ hc
  · exact code_ok f fn hf
theorem soundX {c : Nat → Option AFn} (h : ExtOk c) : SoundC Tryz.prog (acall (tabX c)) := acall_sound (by kernel_rfl) (tabX_ok h)
theorem tabX_leN {c : Nat → Option AFn} (hc : ExtOk c) : ∀ n, CallLe (acallN tabS n) (acallN (tabX c) n)
  | 0, f, a, M, x, h => by
    rw [acallN] at h ⊢
    exact h
  | n + 1, f, a, M, x, h => by
    have hp : (tabX c).prim f = tabS.prim f := rfl
    rw [acallN] at h ⊢
    rw [hp]
    split at h
    · rename_i g hg; exact h
    · rename_i hg
      cases hcf : c f with
      | some fn =>
        obtain ⟨h1, _⟩ := hc.new f fn hcf
        have h2 : tabS.code f = none := h1
        rw [h2] at h
        cases h
      | none =>
        have hcc : (tabX c).code f = tabS.code f := by simp only [tabX, hcf, tabS]
        rw [hcc]
        split at h
        · cases h
        · rename_i fn hfn
          split at h
          · rename_i hl
            simp only [if_pos hl]
            obtain ⟨o, ho, h⟩ := obind_inv h
            rw [aexec_mono (tabX_leN hc n) _ ho, obind_some]
            exact h
          · cases h
theorem tabX_leS {c : Nat → Option AFn} (hc : ExtOk c) {f : Nat} {a : List AVal} {M : AMem} {x : AVal × AMem} (h : acall tabS f a M = some x) : acall (tabX c) f a M = some x := by
  obtain ⟨n, hn⟩ := lim_ex h
  exact lim_some (fun n x h => acallN_up (tabX c) n f a M x h) (tabX_leN hc n f a M x hn)
theorem kX {c : Nat → Option AFn} (hc : ExtOk c) {f : Nat} {vs : List AVal} {M : AMem} {x : AVal × AMem} (h : callOp (acall tab) f vs M = some x) : callOp (acall (tabX c)) f vs M = some x := by
  obtain ⟨a, B, y, h1, h2⟩ := callOp_inv h
  exact h2 _ (tabX_leS hc (tab_leS h1))
theorem kXS {c : Nat → Option AFn} (hc : ExtOk c) {f : Nat} {vs : List AVal} {M : AMem} {x : AVal × AMem} (h : callOp (acall tabS) f vs M = some x) : callOp (acall (tabX c)) f vs M = some x := by
  obtain ⟨a, B, y, h1, h2⟩ := callOp_inv h
  exact h2 _ (tabX_leS hc h1)
end Go.Proofs.YtnapockikkbkcaaGreat
namespace Go.Proofs.YtnapockikkbkcaaGreat
open Go Go.Abs
attribute [local irreducible] exK opsK opK gK forkK kr acall callOp owhen obind
theorem kHead {c : Nat → Option AFn} (hc : ExtOk c) (M : AMem) : callOp (acall (tabX c)) 11 [] M = some (.bool true, M) := kXS hc (callOp0 head_ok rfl rfl rfl rfl rfl M)
theorem c12' (steps : List Step) : acall tab 12 [.slice .sh (steps.map eStep)] [] = some (.bool (greatN steps), []) := by
  by_cases h : steps.length ≤ 60
  · exact c12 steps (by omega)
  · have hb : decide ((60 : Int) < steps.length) = true := by simp; omega
    refine acall_ex rfl rfl rfl ?_
    simp only [fn12, E12, EVT, EVD, ↓reduceIte, Nat.reduceEqDiff, reduceCtorEq, Nat.reduceAdd, Nat.reduceLeDiff, ne_eq, Nat.reduceLT, Int.reduceLT, Int.reduceLE, Int.reduceNeg]
    unfold greatN
    simp only [E12, hb, Bool.true_or, EVT, EVD, ↓reduceIte, Nat.reduceEqDiff, reduceCtorEq, Nat.reduceAdd, Nat.reduceLeDiff, ne_eq, Nat.reduceLT, Int.reduceLT, Int.reduceLE, Int.reduceNeg]
theorem kGreat {c : Nat → Option AFn} (hc : ExtOk c) (steps : List Step) (M : AMem) : callOp (acall (tabX c)) 12 [.slice .sh (steps.map eStep)] M = some (.bool (greatN steps), M) := kX hc (callOp0 (c12' steps) rfl rfl rfl rfl rfl M)
theorem great_ok {l : List Step} (h : greatN l = false) (ho : ∀ s, s ∈ l → s.kind < 256 ∧ s.a < 256 ∧ s.b < 256 ∧ s.n < 256 ∧ s.m < 256) : l.length ≤ 60 ∧ ∀ s, s ∈ l → s.Ok := by
  simp only [greatN, Bool.or_eq_false_iff, decide_eq_false_iff_not] at h
  refine ⟨by omega, fun s hs => ?_⟩
  obtain ⟨h1, h2, h3, h4, h5⟩ := ho s hs
  have := List.any_eq_false.1 h.2 s hs
  simp only [decide_eq_true_eq] at this
  exact ⟨h1, h2, h3, h4, h5, by omega⟩
theorem nameOf_ascii (n : Nat) : Ascii (nameOf n) := by
  unfold nameOf Ascii
  split <;> simp
theorem inoAt_num {t : Tree} {dep : Int → Nat} (h : GInv t dep 0) (n : Nat) : 1 ≤ inoAt t n := by
  unfold inoAt
  split
  · rename_i m hm
    have := List.mem_of_getElem? hm
    exact (h.num _ _ ((find_iff h.srt.asc).2 ⟨this, rfl⟩)).1
  · obtain ⟨r, r1, _⟩ := h.root
    have := h.num _ _ r1; omega
theorem GInv.hun {t : Tree} {dep : Int → Nat} (h : GInv t dep 0) (to : Int) (nm : Bytes) : ∀ e, findE (dirN t.nodes to).1.ents nm = some e → (nodeN t.nodes e.ino).ino ≠ to := by
  intro e he
  unfold dirN at he
  split at he
  · cases he
  · rename_i n hn
    split at he
    · have hem := (findE_mem he).1
      obtain ⟨_, _, _, _, m, hm, _⟩ := h.ent _ _ e hn hem
      simp only [nodeN, hm, Option.getD_some, (find_mem hm).2]
      exact h.ent_ne hn hem
    · cases he
theorem k17 {c : Nat → Option AFn} (hc : ExtOk c) (nodes : List Node) (next cookie dir : Int) (s : Bytes) (to : Int) (nm : Bytes) (hz : Sz 1000 ⟨nodes, next, cookie⟩) (hr : Srt ⟨nodes, next, cookie⟩) (hs : s.length ≤ 100000) (ha : Ascii s) (hs' : nm.length ≤ 100000) (ha' : Ascii nm)
    (hun : ∀ e, findE (dirN nodes to).1.ents nm = some e → (nodeN nodes e.ino).ino ≠ to) (M : AMem) :
    callOp (acall (tabX c)) 17 [.agg [eNodes nodes, .int .i64 next, .int .i64 cookie], .int .i64 dir, .str s, .int .i64 to, .str nm] M = some (.tuple [eTree (mvW ⟨nodes, next, cookie⟩ dir s to nm).1, .int .i64 (mvW ⟨nodes, next, cookie⟩ dir s to nm).2.1, .int .i64 (mvW ⟨nodes, next, cookie⟩ dir s to nm).2.2], M) :=
  kX hc (callOp0 (c17 ⟨nodes, next, cookie⟩ dir s to nm hz hr hs ha hs' ha' hun) rfl rfl rfl rfl rfl M)
end Go.Proofs.YtnapockikkbkcaaGreat
namespace Go.Proofs.YtnapockikkbkcaaGreat
open Go Go.Abs Go.ChangeShapes Go.WideShapes Go.RowKit Go.Deep
theorem laidOut : laidOutB Tryz.prog = true := by kernel_rfl
theorem ownK : ownKnob Tryz.prog.godebug = none := by kernel_rfl
section
variable {H : Type} {enc : TypeId × Value → H}
theorem trodAll_stays {W W' : World} (hb : Below W.heap.size W W') : ∀ {ts : List TypeId} {vs : List Value} {ds : List (DataW H)} {p : List MemPlace}, DataW.TrodAll enc Tryz.prog W 0 (fun _ => true) true ts vs ds p →
    (∀ t, t ∈ ts → Tryz.prog.readableRec t = true ∧ t < Tryz.prog.types.size) → (∀ x ∈ p, x.block < W.heap.size) → DataW.TrodAll enc Tryz.prog W' 0 (fun b => decide (b < W.heap.size)) true ts vs ds p
  | [], vs, ds, p, h, _, _ => by
    obtain ⟨rfl, rfl, rfl⟩ := trodAll_nil h
    exact trodAll_mk0
  | t :: ts, vs, ds, p, h, ht, hp => by
    obtain ⟨v, vs', d, ds', p1, q, rfl, rfl, rfl, h1, h2⟩ := trodAll_cons h
    exact trodAll_cons_mk (Below.trod laidOut (ht t List.mem_cons_self).1 (ht t List.mem_cons_self).2 h1 hb (fun x hx => hp x (List.mem_append_left _ hx)))
      (trodAll_stays hb h2 (fun t ht' => ht t (List.mem_cons_of_mem _ ht')) (fun x hx => hp x (List.mem_append_right _ hx)))
theorem saf_none {w : World} {b off : Nat} (h : b < w.heap.size) : Saf jNone [] w b off := ⟨h, fun id hid => absurd hid (Nat.not_lt_zero _), fun hx => hx⟩
theorem cell_lt {w : World} {b off : Nat} {v : Value} (h : w.cell? ⟨b, off, none⟩ = some v) : b < w.heap.size := by
  rcases Nat.lt_or_ge b w.heap.size with hb | hb
  · exact hb
  · simp [World.cell?, Array.getElem?_eq_none hb] at h
theorem addr_add (b off i : Nat) : (⟨b, off, none⟩ : Addr).add i = ⟨b, off + i, none⟩ := by
  unfold Addr.add
  split
  · rename_i h; rw [h]; rfl
  · rfl
theorem u8_of {n : Int} (h : (Lit.int .u8 n).wf = true) : ∃ b : UInt8, n = b.toNat := by
  have h2 : 0 ≤ n ∧ n < 256 := by
    have h3 : IntKind.u8.min ≤ n ∧ n ≤ IntKind.u8.max := by simpa [Lit.wf] using h
    have e1 : IntKind.u8.min = 0 := by decide
    have e2 : IntKind.u8.max = 255 := by decide
    omega
  refine ⟨UInt8.ofNat n.toNat, ?_⟩
  rw [UInt8.toNat_ofNat']
  omega
theorem bytes_rep {w : World} {fuel : Nat} {v : Value} {x : DataW H × List MemPlace} (h : DataW.trod enc Tryz.prog w 0 (fun _ => true) true fuel 37 [v] = some x) : ∃ d : Bytes, RepP w (Saf jNone [] w) (eData d) v := by
  rcases open_ints Tryz.underlying37 Tryz.underlying5 (by kernel_rfl) h with ⟨hcs, _⟩ | ⟨a, len, cap, zs, hcs, _, hl, _, hz, _, hcell, hwz⟩
  · cases hcs
    exact ⟨[], RepP.nil _ _ _⟩
  · cases hcs
    simp only [if_true] at hz
    obtain ⟨b, off, spot⟩ := a
    refine ⟨(zs.take len).map fun z => UInt8.ofNat z.toNat, ?_⟩
    have hval : ∀ z, z ∈ zs → ((UInt8.ofNat z.toNat).toNat : Int) = z := fun z hz' => by
      obtain ⟨u, hu⟩ := u8_of (hwz z hz')
      rw [hu]; simp
    cases len with
    | zero => simp; exact RepP.slice _ _ _ _ 0 0 1 (fun _ => undef) rfl (Nat.zero_le _) (fun h => absurd rfl h) (by simp) (by simp) (by simp)
    | succ len =>
      have hspot : spot = none := by
        have := hcell 0 (by omega)
        simpa [Addr.add] using World.cell?_spot this
      subst hspot
      refine .slice _ _ _ _ b off 1 (fun k => .int .u8 (zs.getD k 0)) (by simp; omega) hl (fun _ => rfl) ?_ ?_ ?_
      · intro x hx
        obtain ⟨u, _, rfl⟩ := List.mem_map.1 hx
        rfl
      · intro i x k c hx hc
        have hi : i < len + 1 := by
          have := (List.getElem?_eq_some_iff.1 hx).1
          simp at this; omega
        rw [List.getElem?_map] at hx
        obtain ⟨u, _, rfl⟩ := Option.map_eq_some_iff.1 hx
        match k with
        | 0 =>
          have h1 := hcell i (by omega)
          rw [addr_add] at h1
          simp only [Nat.mul_one, Nat.add_zero]
          exact ⟨h1, saf_none (cell_lt h1)⟩
        | k + 1 => cases hc
      · intro i x k c hx hc
        have hi : i < len + 1 := by
          have := (List.getElem?_eq_some_iff.1 hx).1
          simp at this; omega
        have hi' : i < zs.length := by omega
        match k with
        | 0 =>
          have e1 : (((zs.take (len + 1)).map fun z => UInt8.ofNat z.toNat).map eByte)[i]? = some (.int .u8 (zs.getD i 0)) := by
            rw [List.getElem?_map, List.getElem?_map, List.getElem?_take_of_lt hi, List.getElem?_eq_getElem hi']
            simp only [Option.map_some, eByte]
            rw [hval _ (List.getElem_mem hi')]
            simp [List.getD, List.getElem?_eq_getElem hi']
          rw [e1] at hx
          cases hx
          cases hc
          simp only [Nat.mul_one, Nat.add_zero]
          exact .int _ _
        | k + 1 =>
          rw [List.getElem?_map] at hx
          obtain ⟨u, _, rfl⟩ := Option.map_eq_some_iff.1 hx
          cases hc
def stepOk (s : Step) : Prop := s.kind < 256 ∧ s.a < 256 ∧ s.b < 256 ∧ s.n < 256 ∧ s.m < 256
end
end Go.Proofs.YtnapockikkbkcaaGreat
namespace Go.Proofs.YtnapockikkbkcaaGreat
open Go Go.Abs Go.ChangeShapes Go.WideShapes Go.RowKit Go.Deep
section
variable {H : Type} {enc : TypeId × Value → H}
theorem u8_nat {n : Int} (h : (Lit.int .u8 n).wf = true) : ∃ m : Nat, n = m ∧ m < 256 := by
  obtain ⟨b, rfl⟩ := u8_of h
  exact ⟨b.toNat, rfl, b.toNat_lt⟩
set_option maxRecDepth 100000 in
theorem step_rep {w : World} {fuel : Nat} {cs : List Value} {x : DataW H × List MemPlace} (h : DataW.trod enc Tryz.prog w 0 (fun _ => true) true fuel 52 cs = some x) :
    ∃ s : Step, stepOk s ∧ cs.length = 6 ∧ ∀ (k : Nat) (c : AVal) (v : Value), (eStepC s)[k]? = some c → cs[k]? = some v → RepP w (Saf jNone [] w) c v := by
  obtain ⟨xs, n, _, _, hl, hxl, hf⟩ := DataW.trod_struct Tryz.underlying52 h
  have h6 : cs.length = 6 := by rw [hl]; kernel_rfl
  have c5 : Tryz.prog.cellsOf 5 = 1 := by kernel_rfl
  have c37 : Tryz.prog.cellsOf 37 = 1 := by kernel_rfl
  match cs, h6 with
  | [v0, v1, v2, v3, v4, v5], _ =>
    match xs, hxl with
    | [y0, y1, y2, y3, y4, y5], _ =>
      have e0 : DataW.trod enc Tryz.prog w 0 (fun _ => true) true n 5 ((List.drop 0 [v0, v1, v2, v3, v4, v5]).take (Tryz.prog.cellsOf 5)) = some y0 := hf 0 _ rfl
      have e1 : DataW.trod enc Tryz.prog w 0 (fun _ => true) true n 5 ((List.drop 1 [v0, v1, v2, v3, v4, v5]).take (Tryz.prog.cellsOf 5)) = some y1 := hf 1 _ rfl
      have e2 : DataW.trod enc Tryz.prog w 0 (fun _ => true) true n 5 ((List.drop 2 [v0, v1, v2, v3, v4, v5]).take (Tryz.prog.cellsOf 5)) = some y2 := hf 2 _ rfl
      have e3 : DataW.trod enc Tryz.prog w 0 (fun _ => true) true n 5 ((List.drop 3 [v0, v1, v2, v3, v4, v5]).take (Tryz.prog.cellsOf 5)) = some y3 := hf 3 _ rfl
      have e4 : DataW.trod enc Tryz.prog w 0 (fun _ => true) true n 5 ((List.drop 4 [v0, v1, v2, v3, v4, v5]).take (Tryz.prog.cellsOf 5)) = some y4 := hf 4 _ rfl
      have e5 : DataW.trod enc Tryz.prog w 0 (fun _ => true) true n 37 ((List.drop 5 [v0, v1, v2, v3, v4, v5]).take (Tryz.prog.cellsOf 37)) = some y5 := hf 5 _ rfl
      rw [c5] at e0 e1 e2 e3 e4
      rw [c37] at e5
      obtain ⟨n0, q0, _, w0⟩ := DataW.trod_int Tryz.underlying5 e0
      obtain ⟨n1, q1, _, w1⟩ := DataW.trod_int Tryz.underlying5 e1
      obtain ⟨n2, q2, _, w2⟩ := DataW.trod_int Tryz.underlying5 e2
      obtain ⟨n3, q3, _, w3⟩ := DataW.trod_int Tryz.underlying5 e3
      obtain ⟨n4, q4, _, w4⟩ := DataW.trod_int Tryz.underlying5 e4
      cases q0; cases q1; cases q2; cases q3; cases q4
      obtain ⟨m0, rfl, l0⟩ := u8_nat w0
      obtain ⟨m1, rfl, l1⟩ := u8_nat w1
      obtain ⟨m2, rfl, l2⟩ := u8_nat w2
      obtain ⟨m3, rfl, l3⟩ := u8_nat w3
      obtain ⟨m4, rfl, l4⟩ := u8_nat w4
      obtain ⟨d, hd⟩ := bytes_rep (v := v5) e5
      refine ⟨⟨m0, m1, m2, m3, m4, d⟩, ⟨l0, l1, l2, l3, l4⟩, rfl, ?_⟩
      intro k c v h1 h2
      match k with
      | 0 => cases h1; cases h2; exact .int _ _
      | 1 => cases h1; cases h2; exact .int _ _
      | 2 => cases h1; cases h2; exact .int _ _
      | 3 => cases h1; cases h2; exact .int _ _
      | 4 => cases h1; cases h2; exact .int _ _
      | 5 => cases h1; cases h2; exact hd
      | k + 6 => cases h1
theorem choose_list {α : Type} (P : Nat → α → Prop) : ∀ (n : Nat), (∀ i, i < n → ∃ a, P i a) → ∃ l : List α, l.length = n ∧ ∀ i a, l[i]? = some a → P i a
  | 0, _ => ⟨[], rfl, fun i a h => by cases i <;> cases h⟩
  | n + 1, h => by
    obtain ⟨l, hl, hp⟩ := choose_list P n (fun i hi => h i (by omega))
    obtain ⟨a, ha⟩ := h n (by omega)
    refine ⟨l ++ [a], by simp [hl], fun i b hb => ?_⟩
    rcases Nat.lt_or_ge i n with hi | hi
    · rw [List.getElem?_append_left (by omega)] at hb
      exact hp i b hb
    · rw [List.getElem?_append_right (by omega)] at hb
      have : i = n := by
        have := (List.getElem?_eq_some_iff.1 hb).1
        simp at this; omega
      subst this
      simp [hl] at hb
      subst hb; exact ha
abbrev eSteps (l : List Step) : AVal := .slice .sh (l.map eStep)
theorem steps_rep {w : World} {v : Value} {d : DataW H} {ps : List MemPlace} (h : DataW.Trod enc Tryz.prog w 0 (fun _ => true) true 22 v d ps) (hc : v.cells.toList = [v]) :
    ∃ l : List Step, (∀ s, s ∈ l → stepOk s) ∧ RepP w (Saf jNone [] w) (eSteps l) v := by
  obtain ⟨fuel, hf⟩ := h
  have c52 : Tryz.prog.cellsOf 52 = 6 := by kernel_rfl
  rcases open_slice Tryz.underlying22 hf with ⟨hcs, _⟩ | ⟨a, len, cap, m, n, D, Pl, hcs, _, hl, _, hm, _, hi⟩
  · rw [hc] at hcs
    cases hcs
    exact ⟨[], by simp, RepP.nil _ _ _⟩
  · rw [hc] at hcs
    cases hcs
    simp only [if_true] at hm
    obtain ⟨b, off, spot⟩ := a
    have each : ∀ i, i < len → ∃ s : Step, stepOk s ∧ ∃ cs', w.cells? 0 ((⟨b, off, spot⟩ : Addr).add (i * Tryz.prog.cellsOf 52)) (Tryz.prog.cellsOf 52) = some cs' ∧ cs'.length = 6 ∧
        ∀ (k : Nat) (c : AVal) (v : Value), (eStepC s)[k]? = some c → cs'[k]? = some v → RepP w (Saf jNone [] w) c v := by
      intro i hi'
      obtain ⟨cs', hcl, ht⟩ := hi i (by omega)
      obtain ⟨s, hs, h6, hr⟩ := step_rep ht
      exact ⟨s, hs, cs', hcl, h6, hr⟩
    obtain ⟨l, hll, hlp⟩ := choose_list _ len each
    refine ⟨l, fun s hs => ?_, ?_⟩
    · obtain ⟨i, hi'⟩ := List.mem_iff_getElem?.1 hs
      exact (hlp i s hi').1
    have hsp : len ≠ 0 → spot = none := fun h0 => by
      obtain ⟨s, _, cs', hcl, h6, _⟩ := each 0 (by omega)
      obtain ⟨_, _, hat⟩ := World.cells?_some hcl
      have := hat 0 (by rw [c52]; omega)
      have h3 : cs'[0]? = some (cs'[0]'(by omega)) := List.getElem?_eq_getElem (by omega)
      rw [h3] at this
      simpa [Addr.add] using World.cell?_spot this
    have cell : ∀ (i : Nat) (s : Step) (k : Nat) (c : AVal), l[i]? = some s → (eStepC s)[k]? = some c → ∃ u, w.cell? ⟨b, off + (i * 6 + k), none⟩ = some u ∧ RepP w (Saf jNone [] w) c u := fun i s k c hs hk => by
      obtain ⟨_, cs', hcl, h6, hr⟩ := hlp i s hs
      have hil : i < len := by have := (List.getElem?_eq_some_iff.1 hs).1; omega
      obtain rfl := hsp (by omega)
      obtain ⟨_, _, hat⟩ := World.cells?_some hcl
      have hk6 : k < 6 := (List.getElem?_eq_some_iff.1 hk).1
      have h1 := hat k (by rw [c52]; omega)
      have h3 : cs'[k]? = some (cs'[k]'(by omega)) := List.getElem?_eq_getElem (by omega)
      rw [addr_add, addr_add, c52, h3] at h1
      exact ⟨_, by rw [← Nat.add_assoc]; exact h1, hr k c _ hk h3⟩
    refine .slice _ _ _ _ b off 6 (fun q => (w.cell? ⟨b, off + q, none⟩).getD undef) (by simp [hll]) hl (fun hne => ?_) ?_ ?_ ?_
    · obtain rfl := hsp (fun h0 => hne (by rw [h0] at hll; rw [List.length_eq_zero_iff.1 hll]; rfl))
      rfl
    · intro x hx
      obtain ⟨s, _, rfl⟩ := List.mem_map.1 hx
      rfl
    · intro i x k c hx hk
      rw [List.getElem?_map] at hx
      obtain ⟨s, hs, rfl⟩ := Option.map_eq_some_iff.1 hx
      obtain ⟨u, h1, _⟩ := cell i s k c hs hk
      refine ⟨by rw [h1]; rfl, saf_none (cell_lt h1)⟩
    · intro i x k c hx hk
      rw [List.getElem?_map] at hx
      obtain ⟨s, hs, rfl⟩ := Option.map_eq_some_iff.1 hx
      obtain ⟨u, h1, h2⟩ := cell i s k c hs hk
      show RepP w _ c ((w.cell? _).getD undef)
      rw [h1]
      exact h2
set_option maxRecDepth 100000 in
theorem step_val {w : World} {r : Reach} {b : Nat} {v : Value} {d : DataW H} {ps : List MemPlace} (h : DataW.Trod enc Tryz.prog w 0 (fun _ => true) true 52 v d ps) (hv : Value.okWide Tryz.prog w r b 52 v) :
    ∃ s : Step, stepOk s ∧ Rep jNone [] w (eStep s) v := by
  obtain ⟨cs, rfl, _⟩ := okWide_struct Tryz.underlying52 hv
  obtain ⟨fuel, hf⟩ := h
  have hcs : (Value.agg cs).cells.toList = cs.toList := rfl
  rw [hcs] at hf
  obtain ⟨s, hs, h6, hr⟩ := step_rep hf
  refine ⟨s, hs, .agg (by rw [len_eStepC]; simpa using h6.symm) (fun i c v hc hv => .plain (hr i c v hc ?_))⟩
  simpa using hv
theorem plain_callS {T : Tab} (hT : SoundC Tryz.prog (acall T)) {f : Nat} {args : List AVal} {r : AVal} (h : acall T f args [] = some (r, [])) (w : World) (vs : Array Value) (hl : args.length = vs.size) (hv : ∀ (i : Nat) (c : AVal) (v : Value), args[i]? = some c → vs[i]? = some v → Rep jNone [] w c v) :
    Calls Tryz.prog f vs w fun e w' => ∃ v j', e = .returned v ∧ Below w.heap.size w w' ∧ Rep j' [] w' r v := by
  refine ((hT f args [] _ h).2 jNone w vs (rel_none w) hl hv).mono ?_
  rintro e w' ⟨v, j', rfl, _, hx, hr⟩
  exact ⟨v, j', rfl, ⟨hx.os, hx.tape, hx.output, hx.size, fun k hk => (hx.old k hk fun i hi => absurd hi (Nat.not_lt_zero _)).1⟩, hr⟩
end
abbrev eU (n : Nat) : AVal := .int .u8 n
theorem two_of {α : Type} {a : Array α} {l : List α} (h : a.toList = l) : a = l.toArray := by rw [← h]
theorem steps_cells {P : Program} {W : World} {r : Reach} {b : Nat} {t e : TypeId} {v : Value} (ht : P.underlying t = some (.slice e)) (h : Value.okWide P W r b t v) : v.cells.toList = [v] := by
  obtain ⟨a, len, cap, rfl⟩ := okWide_slice ht h
  rfl
end Go.Proofs.YtnapockikkbkcaaGreat
