/-
  ReportHistsCardSaid: proved of the given program, for every input that the row allows: see the last text of this claim. Conditions: none beside the row's own.
-/
import Derived.Test.YtannopdcbocngaaGreatDoorTie
import Derived.Test.YtannopdcbocngaaGreatDoorBaE
set_option linter.unusedSimpArgs false
set_option linter.unusedVariables false
set_option linter.unusedSectionVars false
namespace Go.Proofs.YtannopdcbocngaaGreatDoor
open Go Go.Abs Go.ChangeShapes Go.WideShapes Go.RowKit Go.Deep
structure OpI (o : Op) : Prop where
  kind : okI o.kind
  client : okI o.client
  n : okI o.n
  m : okI o.m
  handle : okI o.handle
structure AnsI (a : Ans) : Prop where
  err : okI a.err
  ino : okI a.ino
  kind : okI a.kind
  n : okI a.n
  m : okI a.m
structure EvI (e : Event) : Prop where
  kind : okI e.kind
  client : okI e.client
  op : OpI e.op
  ans : AnsI e.ans
theorem u_int : Tryz.prog.underlying 3 = some (.int .i64) := by kernel_rfl
theorem u_errno : Tryz.prog.underlying 25 = some (.int .i64) := by kernel_rfl
theorem u_str : Tryz.prog.underlying 9 = some .string := by kernel_rfl
theorem u_u8 : Tryz.prog.underlying 5 = some (.int .u8) := by kernel_rfl
theorem u_bytes : Tryz.prog.underlying 22 = some (.slice 5) := by kernel_rfl
theorem u_strs : Tryz.prog.underlying 26 = some (.slice 9) := by kernel_rfl
theorem u_evs : Tryz.prog.underlying 29 = some (.slice 57) := by kernel_rfl
theorem c_one : Tryz.prog.cellsOf 3 = 1 ∧ Tryz.prog.cellsOf 25 = 1 ∧ Tryz.prog.cellsOf 9 = 1 ∧ Tryz.prog.cellsOf 5 = 1 ∧ Tryz.prog.cellsOf 22 = 1 ∧ Tryz.prog.cellsOf 26 = 1 ∧ Tryz.prog.cellsOf 24 = 8 ∧ Tryz.prog.cellsOf 28 = 7 ∧ Tryz.prog.cellsOf 57 = 17 := ⟨by kernel_rfl, by kernel_rfl, by kernel_rfl, by kernel_rfl, by kernel_rfl, by kernel_rfl, by kernel_rfl, by kernel_rfl, by kernel_rfl⟩
section
variable {H : Type} {enc : TypeId × Value → H}
set_option maxRecDepth 100000 in
theorem op_rep {w : World} {fuel : Nat} {cs : List Value} {x : DataW H × List MemPlace} (h : DataW.trod enc Tryz.prog w 0 (fun _ => true) true fuel 24 cs = some x) : ∃ o : Op, OpI o ∧ CellsRep w (eOpC .sh o) cs := by
  obtain ⟨xs, n, _, _, hl, hxl, hf⟩ := DataW.trod_struct Tryz.underlying24 h
  have h0 : cs.length = 8 := by rw [hl]; kernel_rfl
  match cs, h0 with
  | [v0, v1, v2, v3, v4, v5, v6, v7], _ =>
    match xs, hxl with
    | [y0, y1, y2, y3, y4, y5, y6, y7], _ =>
      have e0 : DataW.trod enc Tryz.prog w 0 (fun _ => true) true n 3 ((List.drop 0 [v0, v1, v2, v3, v4, v5, v6, v7]).take (Tryz.prog.cellsOf 3)) = some y0 := hf 0 _ rfl
      rw [c_one.1] at e0
      have e1 : DataW.trod enc Tryz.prog w 0 (fun _ => true) true n 3 ((List.drop 1 [v0, v1, v2, v3, v4, v5, v6, v7]).take (Tryz.prog.cellsOf 3)) = some y1 := hf 1 _ rfl
      rw [c_one.1] at e1
      have e2 : DataW.trod enc Tryz.prog w 0 (fun _ => true) true n 9 ((List.drop 2 [v0, v1, v2, v3, v4, v5, v6, v7]).take (Tryz.prog.cellsOf 9)) = some y2 := hf 2 _ rfl
      rw [c_one.2.2.1] at e2
      have e3 : DataW.trod enc Tryz.prog w 0 (fun _ => true) true n 9 ((List.drop 3 [v0, v1, v2, v3, v4, v5, v6, v7]).take (Tryz.prog.cellsOf 9)) = some y3 := hf 3 _ rfl
      rw [c_one.2.2.1] at e3
      have e4 : DataW.trod enc Tryz.prog w 0 (fun _ => true) true n 3 ((List.drop 4 [v0, v1, v2, v3, v4, v5, v6, v7]).take (Tryz.prog.cellsOf 3)) = some y4 := hf 4 _ rfl
      rw [c_one.1] at e4
      have e5 : DataW.trod enc Tryz.prog w 0 (fun _ => true) true n 3 ((List.drop 5 [v0, v1, v2, v3, v4, v5, v6, v7]).take (Tryz.prog.cellsOf 3)) = some y5 := hf 5 _ rfl
      rw [c_one.1] at e5
      have e6 : DataW.trod enc Tryz.prog w 0 (fun _ => true) true n 3 ((List.drop 6 [v0, v1, v2, v3, v4, v5, v6, v7]).take (Tryz.prog.cellsOf 3)) = some y6 := hf 6 _ rfl
      rw [c_one.1] at e6
      have e7 : DataW.trod enc Tryz.prog w 0 (fun _ => true) true n 22 ((List.drop 7 [v0, v1, v2, v3, v4, v5, v6, v7]).take (Tryz.prog.cellsOf 22)) = some y7 := hf 7 _ rfl
      rw [c_one.2.2.2.2.1] at e7
      obtain ⟨a0, i0, r0⟩ := int_rep (v := v0) u_int e0
      obtain ⟨a1, i1, r1⟩ := int_rep (v := v1) u_int e1
      obtain ⟨a2, r2⟩ := str_rep (v := v2) u_str e2
      obtain ⟨a3, r3⟩ := str_rep (v := v3) u_str e3
      obtain ⟨a4, i4, r4⟩ := int_rep (v := v4) u_int e4
      obtain ⟨a5, i5, r5⟩ := int_rep (v := v5) u_int e5
      obtain ⟨a6, i6, r6⟩ := int_rep (v := v6) u_int e6
      obtain ⟨a7, r7⟩ := bytes_rep (v := v7) u_bytes u_u8 c_one.2.2.2.1 e7
      exact ⟨⟨a0, a1, a2, a3, a4, a5, a6, a7⟩, ⟨i0, i1, i4, i5, i6⟩, (CellsRep.app (.one r0) (CellsRep.app (.one r1) (CellsRep.app (.one r2) (CellsRep.app (.one r3) (CellsRep.app (.one r4) (CellsRep.app (.one r5) (CellsRep.app (.one r6) (.one r7))))))))⟩
set_option maxRecDepth 100000 in
theorem ans_rep {w : World} {fuel : Nat} {cs : List Value} {x : DataW H × List MemPlace} (h : DataW.trod enc Tryz.prog w 0 (fun _ => true) true fuel 28 cs = some x) : ∃ o : Ans, AnsI o ∧ CellsRep w (eAnsC .sh .sh o) cs := by
  obtain ⟨xs, n, _, _, hl, hxl, hf⟩ := DataW.trod_struct Tryz.underlying28 h
  have h0 : cs.length = 7 := by rw [hl]; kernel_rfl
  match cs, h0 with
  | [v0, v1, v2, v3, v4, v5, v6], _ =>
    match xs, hxl with
    | [y0, y1, y2, y3, y4, y5, y6], _ =>
      have e0 : DataW.trod enc Tryz.prog w 0 (fun _ => true) true n 25 ((List.drop 0 [v0, v1, v2, v3, v4, v5, v6]).take (Tryz.prog.cellsOf 25)) = some y0 := hf 0 _ rfl
      rw [c_one.2.1] at e0
      have e1 : DataW.trod enc Tryz.prog w 0 (fun _ => true) true n 3 ((List.drop 1 [v0, v1, v2, v3, v4, v5, v6]).take (Tryz.prog.cellsOf 3)) = some y1 := hf 1 _ rfl
      rw [c_one.1] at e1
      have e2 : DataW.trod enc Tryz.prog w 0 (fun _ => true) true n 3 ((List.drop 2 [v0, v1, v2, v3, v4, v5, v6]).take (Tryz.prog.cellsOf 3)) = some y2 := hf 2 _ rfl
      rw [c_one.1] at e2
      have e3 : DataW.trod enc Tryz.prog w 0 (fun _ => true) true n 3 ((List.drop 3 [v0, v1, v2, v3, v4, v5, v6]).take (Tryz.prog.cellsOf 3)) = some y3 := hf 3 _ rfl
      rw [c_one.1] at e3
      have e4 : DataW.trod enc Tryz.prog w 0 (fun _ => true) true n 3 ((List.drop 4 [v0, v1, v2, v3, v4, v5, v6]).take (Tryz.prog.cellsOf 3)) = some y4 := hf 4 _ rfl
      rw [c_one.1] at e4
      have e5 : DataW.trod enc Tryz.prog w 0 (fun _ => true) true n 26 ((List.drop 5 [v0, v1, v2, v3, v4, v5, v6]).take (Tryz.prog.cellsOf 26)) = some y5 := hf 5 _ rfl
      rw [c_one.2.2.2.2.2.1] at e5
      have e6 : DataW.trod enc Tryz.prog w 0 (fun _ => true) true n 22 ((List.drop 6 [v0, v1, v2, v3, v4, v5, v6]).take (Tryz.prog.cellsOf 22)) = some y6 := hf 6 _ rfl
      rw [c_one.2.2.2.2.1] at e6
      obtain ⟨a0, i0, r0⟩ := int_rep (v := v0) u_errno e0
      obtain ⟨a1, i1, r1⟩ := int_rep (v := v1) u_int e1
      obtain ⟨a2, i2, r2⟩ := int_rep (v := v2) u_int e2
      obtain ⟨a3, i3, r3⟩ := int_rep (v := v3) u_int e3
      obtain ⟨a4, i4, r4⟩ := int_rep (v := v4) u_int e4
      obtain ⟨a5, r5⟩ := strs_rep (v := v5) u_strs u_str c_one.2.2.1 e5
      obtain ⟨a6, r6⟩ := bytes_rep (v := v6) u_bytes u_u8 c_one.2.2.2.1 e6
      exact ⟨⟨a0, a1, a2, a3, a4, a5, a6⟩, ⟨i0, i1, i2, i3, i4⟩, (CellsRep.app (.one r0) (CellsRep.app (.one r1) (CellsRep.app (.one r2) (CellsRep.app (.one r3) (CellsRep.app (.one r4) (CellsRep.app (.one r5) (.one r6)))))))⟩
set_option maxRecDepth 100000 in
theorem ev_rep {w : World} {fuel : Nat} {cs : List Value} {x : DataW H × List MemPlace} (h : DataW.trod enc Tryz.prog w 0 (fun _ => true) true fuel 57 cs = some x) : ∃ o : Event, EvI o ∧ CellsRep w (eEvC o) cs := by
  obtain ⟨xs, n, _, _, hl, hxl, hf⟩ := DataW.trod_struct Tryz.underlying57 h
  have h0 : cs.length = 17 := by rw [hl]; kernel_rfl
  match cs, h0 with
  | [v0, v1, v2, v3, v4, v5, v6, v7, v8, v9, v10, v11, v12, v13, v14, v15, v16], _ =>
    match xs, hxl with
    | [y0, y1, y2, y3], _ =>
      have e0 : DataW.trod enc Tryz.prog w 0 (fun _ => true) true n 3 ((List.drop 0 [v0, v1, v2, v3, v4, v5, v6, v7, v8, v9, v10, v11, v12, v13, v14, v15, v16]).take (Tryz.prog.cellsOf 3)) = some y0 := hf 0 _ rfl
      rw [c_one.1] at e0
      have e1 : DataW.trod enc Tryz.prog w 0 (fun _ => true) true n 3 ((List.drop 1 [v0, v1, v2, v3, v4, v5, v6, v7, v8, v9, v10, v11, v12, v13, v14, v15, v16]).take (Tryz.prog.cellsOf 3)) = some y1 := hf 1 _ rfl
      rw [c_one.1] at e1
      have e2 : DataW.trod enc Tryz.prog w 0 (fun _ => true) true n 24 ((List.drop 2 [v0, v1, v2, v3, v4, v5, v6, v7, v8, v9, v10, v11, v12, v13, v14, v15, v16]).take (Tryz.prog.cellsOf 24)) = some y2 := hf 2 _ rfl
      rw [c_one.2.2.2.2.2.2.1] at e2
      have e3 : DataW.trod enc Tryz.prog w 0 (fun _ => true) true n 28 ((List.drop 10 [v0, v1, v2, v3, v4, v5, v6, v7, v8, v9, v10, v11, v12, v13, v14, v15, v16]).take (Tryz.prog.cellsOf 28)) = some y3 := hf 3 _ rfl
      rw [c_one.2.2.2.2.2.2.2.1] at e3
      obtain ⟨a0, i0, r0⟩ := int_rep (v := v0) u_int e0
      obtain ⟨a1, i1, r1⟩ := int_rep (v := v1) u_int e1
      obtain ⟨a2, i2, r2⟩ := op_rep e2
      obtain ⟨a3, i3, r3⟩ := ans_rep e3
      exact ⟨⟨a0, a1, a2, a3⟩, ⟨i0, i1, i2, i3⟩, (CellsRep.app (.one r0) (CellsRep.app (.one r1) (CellsRep.app r2 r3)))⟩
set_option maxRecDepth 100000 in
theorem op_val {w : World} {r : Reach} {b : Nat} {v : Value} {d : DataW H} {ps : List MemPlace} (h : DataW.Trod enc Tryz.prog w 0 (fun _ => true) true 24 v d ps) (hv : Value.okWide Tryz.prog w r b 24 v) : ∃ o : Op, OpI o ∧ Rep jX0 [] w (eOp .sh o) v := by
  obtain ⟨cs, rfl, o, ho, hr⟩ := whole_rep Tryz.underlying24 h hv (fun n cs y hy => op_rep hy)
  exact ⟨o, ho, agg_rep hr⟩
set_option maxRecDepth 100000 in
theorem ans_val {w : World} {r : Reach} {b : Nat} {v : Value} {d : DataW H} {ps : List MemPlace} (h : DataW.Trod enc Tryz.prog w 0 (fun _ => true) true 28 v d ps) (hv : Value.okWide Tryz.prog w r b 28 v) : ∃ o : Ans, AnsI o ∧ Rep jX0 [] w (eAns .sh .sh o) v := by
  obtain ⟨cs, rfl, o, ho, hr⟩ := whole_rep Tryz.underlying28 h hv (fun n cs y hy => ans_rep hy)
  exact ⟨o, ho, agg_rep hr⟩
set_option maxRecDepth 100000 in
theorem evs_val {w : World} {r : Reach} {b : Nat} {v : Value} {d : DataW H} {ps : List MemPlace} (h : DataW.Trod enc Tryz.prog w 0 (fun _ => true) true 29 v d ps) (hv : Value.okWide Tryz.prog w r b 29 v) : ∃ l : List Event, (∀ e, e ∈ l → EvI e) ∧ Rep jX0 [] w (.slice .sh (l.map eEv)) v := by
  obtain ⟨a, len, cap, rfl⟩ := okWide_slice u_evs hv
  obtain ⟨fuel, hf⟩ := h
  obtain ⟨l, h1, h2⟩ := rows_rep (eC := eEvC) (mk := eEv) (P := EvI) u_evs c_one.2.2.2.2.2.2.2.2 (by omega) (fun _ => rfl) (fun _ => rfl) (fun n cs y _ hy => ev_rep hy) hf
  exact ⟨l, h1, .plain h2⟩
set_option maxRecDepth 100000 in
theorem str_val {w : World} {r : Reach} {b : Nat} {v : Value} {d : DataW H} {ps : List MemPlace} (h : DataW.Trod enc Tryz.prog w 0 (fun _ => true) true 9 v d ps) (hv : Value.okWide Tryz.prog w r b 9 v) : ∃ s : Bytes, Rep jX0 [] w (.str s) v := by
  obtain ⟨s, rfl, _⟩ := Go.ChangeMaps.open_string u_str hv h
  have : Go.Abs.bs s.data.toList = s := by apply ByteArray.ext; simp [Go.Abs.bs]
  have h := RepP.str (w := w) (saf := SafW w) s.data.toList
  rw [this] at h
  exact ⟨_, .plain h⟩
end
theorem OpI.cut {o : Op} (h : OpI o) : OpOk (cutOpN o) ∧ (cutOpN o).path.length ≤ 300 ∧ (cutOpN o).dest.length ≤ 300 ∧ (cutOpN o).data.length ≤ 300 :=
  ⟨⟨h.kind, h.client, by simp [cutOpN]; omega, by simp [cutOpN]; omega, h.n, h.m, h.handle, by simp [cutOpN]; omega⟩, by simp [cutOpN]; omega, by simp [cutOpN]; omega, by simp [cutOpN]; omega⟩
theorem sumL_100 : ∀ l : List Bytes, sumL (l.map (List.take 100)) ≤ 100 * l.length
  | [] => by simp [sumL]
  | x :: r => by
    have := sumL_100 r
    simp only [sumL, List.map_cons, List.sum_cons, List.length_cons, List.length_take] at this ⊢
    omega
theorem AnsI.cut {a : Ans} (h : AnsI a) : AnsOk (cutAnsN a) ∧ (cutAnsN a).names.length ≤ 40 ∧ sumL (cutAnsN a).names ≤ 4000 ∧ (cutAnsN a).data.length ≤ 300 := by
  have h1 : (cutAnsN a).names.length ≤ 40 := by simp [cutAnsN]; omega
  have h2 : sumL (cutAnsN a).names ≤ 4000 := by
    have := sumL_100 (a.names.take 40)
    have h3 : (a.names.take 40).length ≤ 40 := by simp; omega
    simp only [cutAnsN]; omega
  have h3 : (cutAnsN a).data.length ≤ 300 := by simp [cutAnsN]; omega
  exact ⟨⟨h.err, h.ino, h.kind, h.n, h.m, by omega, by omega, by omega⟩, h1, h2, h3⟩
theorem opN_small {o : Op} (h : OpOk o) (g1 : o.path.length ≤ 300) (g2 : o.dest.length ≤ 300) (g3 : o.data.length ≤ 300) : (opN o).length ≤ 4000 := by
  have h0 := firstN_le h.kind
  have h1 := fldN_le' (f := ⟨wClient, o.client, []⟩) h.client
  have h2 := fldN_le' (f := ⟨wPath, 0, escN o.path⟩) okI_zero
  have h3 := fldN_le' (f := ⟨wTo, 0, escN o.dest⟩) okI_zero
  have h4 := fldN_le' (f := ⟨wN, o.n, []⟩) h.n
  have h5 := fldN_le' (f := ⟨wM, o.m, []⟩) h.m
  have h6 := fldN_le' (f := ⟨wHandle, o.handle, []⟩) h.handle
  have h7 := fldN_le' (f := ⟨wData, 0, escN o.data⟩) okI_zero
  have e1 := escN_le o.path; have e2 := escN_le o.dest; have e3 := escN_le o.data
  simp only [wClient, wPath, wTo, wN, wM, wHandle, wData, List.length_cons, List.length_nil] at h1 h2 h3 h4 h5 h6 h7
  simp only [opN, lineN, opFlds, fldsN, List.flatMap_cons, List.flatMap_nil, List.length_append, List.length_nil, wClient, wPath, wTo, wN, wM, wHandle, wData]
  omega
theorem namesN_le2 (l : List Bytes) : (namesN l).length ≤ 3 * sumL l + l.length + 10 := by
  have h1 := join_le (l.map escN)
  have h2 := sumL_esc l
  unfold namesN
  split
  · simp only [wNames, List.length_cons, List.length_append, List.length_nil, List.length_map] at h1 ⊢
    omega
  · simp
theorem ansN_small {a : Ans} (h : AnsOk a) (g1 : a.names.length ≤ 40) (g2 : sumL a.names ≤ 4000) (g3 : a.data.length ≤ 300) : (ansN a).length ≤ 20000 := by
  have h0 := ansHead_le h
  have h1 := namesN_le2 a.names
  have h2 := fldN_le' (f := ⟨wData, 0, escN a.data⟩) okI_zero
  have e1 := escN_le a.data
  simp only [wData, List.length_cons, List.length_nil] at h2
  unfold ansN
  rw [lineN]
  simp only [fldsN, List.flatMap_cons, List.flatMap_nil, List.length_append, List.length_nil, wData]
  omega
theorem kS12 (o : Op) (M : AMem) : callOp (acall tabS) 12 [eOp .sh o] M = some (eOp .sh (cutOpN o), M) := callOp0 (tab_leS (c12 o)) rfl rfl rfl rfl rfl M
theorem kS13 (a : Ans) (M : AMem) : callOp (acall tabS) 13 [eAns .sh .sh a] M = some (eAns .sh .sh (cutAnsN a), M) := callOp0 (tab_leS (c13 a)) rfl rfl rfl rfl rfl M
end Go.Proofs.YtannopdcbocngaaGreatDoor
namespace Go.Proofs.YtannopdcbocngaaGreatDoor
open Go Go.Abs
def isB (x : Option (AVal × AMem)) (b : Bool) : Bool := match x with
  | some (.bool c, []) => c == b
  | _ => false
theorem isB_eq {x : Option (AVal × AMem)} {b : Bool} (h : isB x b = true) : x = some (.bool b, []) := by
  unfold isB at h
  split at h
  · have := beq_iff_eq.1 h; subst this; rfl
  · cases h
def isI (x : Option (AVal × AMem)) (n : Int) : Bool := match x with
  | some (.int .i64 m, []) => m == n
  | _ => false
theorem isI_eq {x : Option (AVal × AMem)} {b : Int} (h : isI x b = true) : x = some (eI b, []) := by
  unfold isI at h
  split at h
  · have := beq_iff_eq.1 h; subst this; rfl
  · cases h
def ixN (c : UInt8) : Int := Lib.indexByte hexL c
theorem c71 (c : UInt8) : acall tabS 71 [.int .u8 c.toNat] [] = some (.bool (plainE c), []) := by
  have h : (List.range 256).all (fun n => isB (rcall tabR 4 8 71 [.int .u8 (n : Int)] []) (plainE (UInt8.ofNat n))) = true := by kernel_rfl
  have h1 := List.all_eq_true.1 h c.toNat (List.mem_range.2 c.toNat_lt)
  have h2 := isB_eq h1
  rw [UInt8.ofNat_toNat] at h2
  exact run_sound h2
theorem k71 (c : UInt8) (M : AMem) : callOp (acall tabS) 71 [.int .u8 c.toNat] M = some (.bool (plainE c), M) := callOp0 (c71 c) rfl rfl rfl rfl rfl M
theorem c72 (c : UInt8) : acall tabS 72 [.int .u8 c.toNat] [] = some (eI (ixN c), []) := by
  have h : (List.range 256).all (fun n => isI (rcall tabR 4 8 72 [.int .u8 (n : Int)] []) (ixN (UInt8.ofNat n))) = true := by kernel_rfl
  have h1 := List.all_eq_true.1 h c.toNat (List.mem_range.2 c.toNat_lt)
  have h2 := isI_eq h1
  rw [UInt8.ofNat_toNat] at h2
  exact run_sound h2
theorem k72 (c : UInt8) (M : AMem) : callOp (acall tabS) 72 [.int .u8 c.toNat] M = some (eI (ixN c), M) := callOp0 (c72 c) rfl rfl rfl rfl rfl M
attribute [local irreducible] exK opsK opK gK forkK kr acall callOp owhen obind
theorem mid_cut (p w r : Bytes) : ((p ++ (w ++ r)).take (p.length + w.length)).drop p.length = w := by
  rw [show p.length + w.length = (p ++ w).length by simp, ← List.append_assoc, List.take_left, List.drop_left]
theorem loop33 (s : Bytes) (c : UInt8) (hs : s.length ≤ 1000000) (C : CallF) (hC : C = acall tabS) : ∀ (r p w : Bytes) (out : List Bytes), s = p ++ (w ++ r) → c ∉ w → out.length ≤ p.length → ∀ (u : List Bytes), out ++ cutL c (w ++ r) = u → ∀ (fn : List ARes) (base : Nat) (k : List K), ∃ z : AVal,
    exK C fn base (.block 0 :: k) (.loop [0, 1, 5, 6, 7] lb33_0) [(0, .str s), (1, .int .u8 c.toNat), (5, .slice (.own 0) (out.map .str)), (6, eI p.length), (7, eI (p.length + w.length : Nat))] [.tick 1 out.length] =
    kr C fn base k ⟨.normal, [(0, .str s), (1, .int .u8 c.toNat), (5, .slice (.own 0) (u.map .str)), (6, z), (7, eI (s.length + 1 : Nat)), (12, .bool false)], [.tick 1 u.length]⟩
  | [], p, w, out, he, hw, ho, u, hu, fn, base, k => by
    subst hC
    have hl : s.length = p.length + w.length := by rw [he]; simp
    have hu' : u = out ++ [w] := by rw [← hu, List.append_nil, cutL_noc hw]
    subst hu'
    have hle : decide (((p.length + w.length : Nat) : Int) ≤ (s.length : Int)) = true := by simp; omega
    have hlt : decide (((p.length + w.length + 1 : Nat) : Int) ≤ (s.length : Int)) = false := by simp; omega
    have heq : (((p.length + w.length : Nat) : Int) == (s.length : Int)) = true := by simp; omega
    have hsl : (s.take (p.length + w.length)).drop p.length = w := by rw [he]; exact mid_cut p w []
    have hok : (((p.length + w.length : Nat) : Int) ≤ ((s.length : Nat) : Int) ∧ ((p.length : Nat) : Int) ≤ ((p.length + w.length : Nat) : Int)) = True := by simp only [eq_iff_iff, iff_true]; omega
    have hw1 : IntKind.i64.wrap (((p.length + w.length : Nat) : Int) + 1) = ((p.length + w.length + 1 : Nat) : Int) := by rw [wrapS (by omega) (by omega)]; simp
    have hr := roomO (a := out.length + 1) (b := 16) (by omega) (by omega)
    refine ⟨eI ((p.length + w.length + 1 : Nat) : Int), ?_⟩
    rw [exK_loop]
    simp only [E33, hle, heq, hsl, hok, hw1, hr, natI, EVT, EVD, ↓reduceIte, Nat.reduceEqDiff, reduceCtorEq, Nat.reduceAdd, Nat.reduceLeDiff, ne_eq, Nat.reduceLT, Int.reduceLT, Int.reduceLE, Int.reduceNeg]
    simp only [E33, widS, hw1, EVT, EVD, ↓reduceIte, Nat.reduceEqDiff, reduceCtorEq, Nat.reduceAdd, Nat.reduceLeDiff, ne_eq, Nat.reduceLT, Int.reduceLT, Int.reduceLE, Int.reduceNeg]
    rw [exK_loop, show (s.length + 1 : Nat) = p.length + w.length + 1 by omega]
    simp only [E33, hlt, List.map_append, List.map_cons, List.map_nil, List.length_append, List.length_cons, List.length_nil, Nat.zero_add, EVT, EVD, ↓reduceIte, Nat.reduceEqDiff, reduceCtorEq, Nat.reduceAdd, Nat.reduceLeDiff, ne_eq, Nat.reduceLT, Int.reduceLT, Int.reduceLE, Int.reduceNeg]
  | x :: r, p, w, out, he, hw, ho, u, hu, fn, base, k => by
    subst hC
    have hl : s.length = p.length + w.length + (r.length + 1) := by rw [he]; simp; omega
    have hle : decide (((p.length + w.length : Nat) : Int) ≤ (s.length : Int)) = true := by simp; omega
    have heq : (((p.length + w.length : Nat) : Int) == (s.length : Int)) = false := by simp; omega
    have hix : s[p.length + w.length]? = some x := by rw [he, ← List.append_assoc, List.getElem?_append_right (by simp)]; simp
    have hsl : (s.take (p.length + w.length)).drop p.length = w := by rw [he]; exact mid_cut p w _
    have hok : (((p.length + w.length : Nat) : Int) ≤ ((s.length : Nat) : Int) ∧ ((p.length : Nat) : Int) ≤ ((p.length + w.length : Nat) : Int)) = True := by simp only [eq_iff_iff, iff_true]; omega
    have hw1 : IntKind.i64.wrap (((p.length + w.length : Nat) : Int) + 1) = ((p.length + w.length + 1 : Nat) : Int) := by rw [wrapS (by omega) (by omega)]; simp
    have hr := roomO (a := out.length + 1) (b := 16) (by omega) (by omega)
    have hn : (0 : Int) ≤ ((p.length + w.length : Nat) : Int) := by omega
    by_cases hx : x = c
    · subst hx
      have hb : (((x.toNat : Nat) : Int) == ((x.toNat : Nat) : Int)) = true := by simp
      obtain ⟨z, ih⟩ := loop33 s x hs (acall tabS) rfl r (p ++ (w ++ [x])) [] (out ++ [w]) (by rw [he]; simp) (by simp) (by simp; omega) u (by rw [← hu, cutL_app _ hw]; simp) fn base k
      refine ⟨z, ?_⟩
      simp only [List.length_append, List.length_cons, List.length_nil, Nat.zero_add, Nat.add_zero, List.map_append, List.map_cons, List.map_nil, ← Nat.add_assoc] at ih
      rw [exK_loop]
      simp only [E33, hle, heq, hix, hn, hb, EVT, EVD, ↓reduceIte, Nat.reduceEqDiff, reduceCtorEq, Nat.reduceAdd, Nat.reduceLeDiff, ne_eq, Nat.reduceLT, Int.reduceLT, Int.reduceLE, Int.reduceNeg]
      simp only [E33, hsl, hok, hw1, hr, natI, EVT, EVD, ↓reduceIte, Nat.reduceEqDiff, reduceCtorEq, Nat.reduceAdd, Nat.reduceLeDiff, ne_eq, Nat.reduceLT, Int.reduceLT, Int.reduceLE, Int.reduceNeg]
      simp only [E33, widS, hw1, EVT, EVD, ↓reduceIte, Nat.reduceEqDiff, reduceCtorEq, Nat.reduceAdd, Nat.reduceLeDiff, ne_eq, Nat.reduceLT, Int.reduceLT, Int.reduceLE, Int.reduceNeg]
      exact ih
    · have hb : (((x.toNat : Nat) : Int) == ((c.toNat : Nat) : Int)) = false := by
        simp only [beq_eq_false_iff_ne, ne_eq, Int.natCast_inj]
        exact fun e => hx (UInt8.toNat_inj.1 e)
      obtain ⟨z, ih⟩ := loop33 s c hs (acall tabS) rfl r p (w ++ [x]) out (by rw [he]; simp) (by simp [hw]; exact fun e => hx e.symm) ho u (by rw [← hu]; simp) fn base k
      refine ⟨z, ?_⟩
      simp only [List.length_append, List.length_cons, List.length_nil, Nat.zero_add, ← Nat.add_assoc] at ih
      rw [exK_loop]
      simp only [E33, hle, heq, hix, hn, hb, EVT, EVD, ↓reduceIte, Nat.reduceEqDiff, reduceCtorEq, Nat.reduceAdd, Nat.reduceLeDiff, ne_eq, Nat.reduceLT, Int.reduceLT, Int.reduceLE, Int.reduceNeg]
      simp only [E33, hw1, EVT, EVD, ↓reduceIte, Nat.reduceEqDiff, reduceCtorEq, Nat.reduceAdd, Nat.reduceLeDiff, ne_eq, Nat.reduceLT, Int.reduceLT, Int.reduceLE, Int.reduceNeg]
      exact ih
theorem c33 (s : Bytes) (c : UInt8) (hs : s.length ≤ 1000000) : acall tabS 33 [.str s, .int .u8 c.toNat] [] = some (.slice .sh ((cutL c s).map .str), []) := by
  refine acall_ex rfl rfl rfl ?_
  have h0 := fun fn base k => loop33 s c hs (acall tabS) rfl s [] [] [] rfl (by simp) (by simp) _ rfl fn base k
  simp only [List.length_nil, List.nil_append, List.map_nil, Nat.add_zero] at h0
  simp only [fn33, E33, EVT, EVD, ↓reduceIte, Nat.reduceEqDiff, reduceCtorEq, Nat.reduceAdd, Nat.reduceLeDiff, ne_eq, Nat.reduceLT, Int.reduceLT, Int.reduceLE, Int.reduceNeg]
  obtain ⟨z, h1⟩ := h0 [.tmp 4] 0 [.seq q33_4]
  refine h1.trans ?_
  simp only [E33, EVT, EVD, ↓reduceIte, Nat.reduceEqDiff, reduceCtorEq, Nat.reduceAdd, Nat.reduceLeDiff, ne_eq, Nat.reduceLT, Int.reduceLT, Int.reduceLE, Int.reduceNeg]
theorem k33 (s : Bytes) (c : UInt8) (hs : s.length ≤ 1000000) (M : AMem) : callOp (acall tabS) 33 [.str s, .int .u8 c.toNat] M = some (.slice .sh ((cutL c s).map .str), M) := callOp0 (c33 s c hs) rfl rfl rfl rfl rfl M
end Go.Proofs.YtannopdcbocngaaGreatDoor
namespace Go.Proofs.YtannopdcbocngaaGreatDoor
open Go Go.Abs
attribute [local irreducible] exK opsK opK gK forkK kr acall callOp owhen obind
theorem bytes_one (c : UInt8) : bytesOf [.int .u8 ((c.toNat : Nat) : Int)] = some [c] := bytes_u8 [c]
theorem z10 : ((10 : Int) = 0) = False := by simp
theorem z16 : ((16 : Int) = 0) = False := by simp
def numT (m : Nat) (s : Bytes) : Bytes := if m = 0 ∧ s ≠ [] then s else Lib.decDigits m ++ s
theorem numT_step {m : Nat} {s : Bytes} (h : 0 < m ∨ s = []) : numT m s = numT (m / 10) (UInt8.ofNat (48 + m % 10) :: s) := by
  have h0 : ¬ (m = 0 ∧ s ≠ []) := fun e => by
    rcases h with h | h
    · omega
    · exact e.2 h
  unfold numT
  rw [if_neg h0]
  by_cases h1 : m < 10
  · rw [if_pos ⟨by omega, by simp⟩, Lib.decDigits, dif_pos h1, show m % 10 = m by omega]
    rfl
  · rw [if_neg (fun e => by omega), Lib.decDigits, dif_neg h1]
    simp
theorem loop37 (n : Int) (C : CallF) (hC : C = acall tabS) : ∀ (f m : Nat), m < f → m < 18446744073709551616 → ∀ (s u : Bytes), (s = [] → m + 1 < f) → u.length ≤ 1000 → numT m s = u → ∀ (fn : List ARes) (base : Nat) (k : List K), 
    exK C fn base (.block 0 :: k) (.loop [0, 3, 4] lb37_0) [(0, eI n), (3, .int .u64 m), (4, .str s)] [] =
    kr C fn base k ⟨.normal, [(0, eI n), (3, .int .u64 (0 : Int)), (4, .str u), (16, .bool false)], []⟩
  | 0, m, hf, _, _, _, _, _, _, _, _, _ => by omega
  | f + 1, m, hf, hm, s, u, hf2, hu1, hu, fn, base, k => by
    subst hC
    by_cases hg : 0 < m ∨ s = []
    · have hst := numT_step hg
      have ih := loop37 n (acall tabS) rfl f (m / 10)
      have hq : IntKind.u64.wrap ((m : Int).tdiv 10) = ((m / 10 : Nat) : Int) := by
        have : (m : Int).tdiv 10 = ((m / 10 : Nat) : Int) := by rw [Int.tdiv_eq_ediv_of_nonneg (by omega)]; omega
        rw [this, IntKind.wrap_u64]; omega
      have hr : IntKind.u64.wrap (48 + (m : Int).tmod 10) = ((48 + m % 10 : Nat) : Int) := by
        have : (m : Int).tmod 10 = ((m % 10 : Nat) : Int) := by rw [Int.tmod_eq_emod_of_nonneg (by omega)]; omega
        rw [this, IntKind.wrap_u64]; omega
      have hc : IntKind.u8.wrap ((48 + m % 10 : Nat) : Int) = (((UInt8.ofNat (48 + m % 10)).toNat : Nat) : Int) := by
        rw [u8_of_nat (by omega), IntKind.wrap_u8]; omega
      have hl : (UInt8.ofNat (48 + m % 10) :: s).length ≤ (numT m s).length := by
        rw [hst]; unfold numT
        split
        · exact Nat.le_refl _
        · simp
      rw [hu, List.length_cons] at hl
      have hmx := max_lt (1 + s.length) (by omega)
      have hf3 : m / 10 < f := by
        rcases hg with h | h
        · omega
        · have := hf2 h; omega
      have ih' := ih hf3 (by omega) (UInt8.ofNat (48 + m % 10) :: s) u (fun e => by cases e) hu1 (by rw [← hst]; exact hu) fn base k
      rw [exK_loop]
      rcases Nat.eq_zero_or_pos m with h0 | h0
      · have hs : s = [] := hg.resolve_left (by omega)
        have hb : decide (0 < (m : Int)) = false := by simp; omega
        subst hs
        simp only [E37, hb, z10, hr, hq, hc, bytes_one, hmx, List.length_nil, EVT, EVD, ↓reduceIte, Nat.reduceEqDiff, reduceCtorEq, Nat.reduceAdd, Nat.reduceLeDiff, ne_eq, Nat.reduceLT, Int.reduceLT, Int.reduceLE, Int.reduceNeg]
        exact ih'
      · have hb : decide (0 < (m : Int)) = true := by simp; omega
        simp only [E37, hb, z10, hr, hq, hc, bytes_one, hmx, EVT, EVD, ↓reduceIte, Nat.reduceEqDiff, reduceCtorEq, Nat.reduceAdd, Nat.reduceLeDiff, ne_eq, Nat.reduceLT, Int.reduceLT, Int.reduceLE, Int.reduceNeg]
        exact ih'
    · have h0 : m = 0 := by omega
      have hs : s ≠ [] := fun e => hg (.inr e)
      subst h0
      have hb2 : (s == []) = false := by simpa using hs
      have hu' : u = s := by rw [← hu]; unfold numT; rw [if_pos ⟨rfl, hs⟩]
      subst hu'
      rw [exK_loop]
      simp only [E37, hb2, show decide (0 < ((0 : Nat) : Int)) = false from rfl, show ((0 : Nat) : Int) = 0 from rfl, EVT, EVD, ↓reduceIte, Nat.reduceEqDiff, reduceCtorEq, Nat.reduceAdd, Nat.reduceLeDiff, ne_eq, Nat.reduceLT, Int.reduceLT, Int.reduceLE, Int.reduceNeg]
      done
theorem c37 (n : Int) (h : okI n) : acall tabS 37 [eI n] [] = some (.str (Lib.itoa n), []) := by
  refine acall_ex rfl rfl rfl ?_
  have h' := h
  unfold okI at h'
  have h0 := fun m hm hl => loop37 n (acall tabS) rfl (m + 2) m (by omega) hm [] _ (fun _ => by omega) hl rfl
  have e0 : ∀ m, numT m [] = Lib.decDigits m := fun m => by unfold numT; rw [if_neg (by simp)]; simp
  simp only [e0] at h0
  have hl := itoa_le h
  by_cases hn : n < 0
  · have hb : decide (n < 0) = true := by simpa using hn
    have hw : IntKind.u64.wrap n = ((n + 18446744073709551616).toNat : Int) := by rw [IntKind.wrap_u64]; omega
    have hw2 : IntKind.u64.wrap (0 - ((n + 18446744073709551616).toNat : Int)) = ((n.natAbs : Nat) : Int) := by rw [IntKind.wrap_u64]; omega
    have hi : Lib.itoa n = 45 :: Lib.decDigits n.natAbs := by unfold Lib.itoa; rw [if_pos hn]
    simp only [fn37, E37, hb, hw, hw2, EVT, EVD, ↓reduceIte, Nat.reduceEqDiff, reduceCtorEq, Nat.reduceAdd, Nat.reduceLeDiff, ne_eq, Nat.reduceLT, Int.reduceLT, Int.reduceLE, Int.reduceNeg]
    rw [hi, List.length_cons] at hl
    refine (h0 n.natAbs (by omega) (by omega) _ _ _).trans ?_
    have hmx := max_lt (1 + (Lib.decDigits n.natAbs).length) (by omega)
    rw [hi]
    simp only [E37, hb, hmx, EVT, EVD, ↓reduceIte, Nat.reduceEqDiff, reduceCtorEq, Nat.reduceAdd, Nat.reduceLeDiff, ne_eq, Nat.reduceLT, Int.reduceLT, Int.reduceLE, Int.reduceNeg]
  · have hb : decide (n < 0) = false := by simpa using hn
    have hw : IntKind.u64.wrap n = ((n.toNat : Nat) : Int) := by rw [IntKind.wrap_u64]; omega
    have hi : Lib.itoa n = Lib.decDigits n.toNat := by unfold Lib.itoa; rw [if_neg hn]
    simp only [fn37, E37, hb, hw, EVT, EVD, ↓reduceIte, Nat.reduceEqDiff, reduceCtorEq, Nat.reduceAdd, Nat.reduceLeDiff, ne_eq, Nat.reduceLT, Int.reduceLT, Int.reduceLE, Int.reduceNeg]
    rw [hi] at hl
    refine (h0 n.toNat (by omega) (by omega) _ _ _).trans ?_
    simp only [E37, hb, hi, EVT, EVD, ↓reduceIte, Nat.reduceEqDiff, reduceCtorEq, Nat.reduceAdd, Nat.reduceLeDiff, ne_eq, Nat.reduceLT, Int.reduceLT, Int.reduceLE, Int.reduceNeg]
theorem k37 (n : Int) (h : okI n) (M : AMem) : callOp (acall tabS) 37 [eI n] M = some (.str (Lib.itoa n), M) := callOp0 (c37 n h) rfl rfl rfl rfl rfl M
theorem hexR : ∀ n : Nat, n < 256 → IntKind.i64.wrap (n : Int) = (n : Int) ∧ IntKind.i64.wrap ((n : Int).tdiv 16) = ((n / 16 : Nat) : Int) ∧ IntKind.i64.wrap (((n / 16 : Nat) : Int) + 1) = ((n / 16 + 1 : Nat) : Int) ∧ (n : Int).tmod 16 = ((n % 16 : Nat) : Int) ∧ IntKind.i64.wrap (((n % 16 : Nat) : Int) + 1) = ((n % 16 + 1 : Nat) : Int) := by decide +kernel
theorem one_cut {s pre r : Bytes} {c : UInt8} (he : s = pre ++ c :: r) : (s.take (pre.length + 1)).drop pre.length = [c] := by
  subst he
  rw [List.take_append, List.take_of_length_le (by omega), show pre.length + 1 - pre.length = 1 by omega]
  simp
theorem loop49 (s : Bytes) (hs : s.length ≤ 1000000) (C : CallF) (hC : C = acall tabS) : ∀ (r pre : Bytes), s = pre ++ r → ∀ (fn : List ARes) (base : Nat) (k : List K),
    exK C fn base (.block 0 :: k) (.loop [0, 3, 4, 5] lb49_0) [(0, .str s), (3, .str hexL), (4, .str (escN pre)), (5, eI pre.length)] [] =
    kr C fn base k ⟨.normal, [(0, .str s), (3, .str hexL), (4, .str (escN s)), (5, eI s.length), (10, .bool false)], []⟩
  | [], pre, he, fn, base, k => by
    subst hC
    have : pre = s := by simpa using he.symm
    subst this
    rw [exK_loop]
    have hlt : decide ((pre.length : Int) < pre.length) = false := by simp
    simp only [E49, hlt, EVT, EVD, ↓reduceIte, Nat.reduceEqDiff, reduceCtorEq, Nat.reduceAdd, Nat.reduceLeDiff, ne_eq, Nat.reduceLT, Int.reduceLT, Int.reduceLE, Int.reduceNeg]
  | c :: r, pre, he, fn, base, k => by
    subst hC
    have hl : pre.length < s.length := by rw [he]; simp
    have hlt : decide ((pre.length : Int) < s.length) = true := by simpa using hl
    have hix : s[pre.length]? = some c := by rw [he]; simp
    have hn : (0 : Int) ≤ pre.length := by omega
    have hw : IntKind.i64.wrap ((pre.length : Int) + 1) = ((pre.length + 1 : Nat) : Int) := by rw [wrapS (by omega) (by omega)]; simp
    have ih := loop49 s hs (acall tabS) rfl r (pre ++ [c]) (by simpa using he) fn base k
    obtain ⟨h0, h1, h2, h3, h4⟩ := hexR c.toNat c.toNat_lt
    rw [exK_loop]
    simp only [E49, hlt, hix, k71, h0, EVT, EVD, ↓reduceIte, Nat.reduceEqDiff, reduceCtorEq, Nat.reduceAdd, Nat.reduceLeDiff, ne_eq, Nat.reduceLT, Int.reduceLT, Int.reduceLE, Int.reduceNeg]
    refine fork_split (fun hb => ?_) (fun hb => ?_)
    · have he2 : escN (pre ++ [c]) = escN pre ++ [c] := by rw [escN_snoc, escB, if_pos hb]
      have hok : (((pre.length + 1 : Nat) : Int) ≤ ((s.length : Nat) : Int) ∧ ((pre.length : Nat) : Int) ≤ ((pre.length + 1 : Nat) : Int)) = True := by simp only [eq_iff_iff, iff_true]; omega
      rw [he2] at ih
      simp only [List.length_append, List.length_cons, List.length_nil, Nat.zero_add] at ih
      have hle := escN_le pre
      have hmx := max_lt ((escN pre).length + 1) (by omega)
      simp only [E49, hb, hw, hok, natI, one_cut he, hmx, EVT, EVD, ↓reduceIte, Nat.reduceEqDiff, reduceCtorEq, Nat.reduceAdd, Nat.reduceLeDiff, ne_eq, Nat.reduceLT, Int.reduceLT, Int.reduceLE, Int.reduceNeg]
      exact ih
    · have ha : c.toNat / 16 < 16 := by have := c.toNat_lt; omega
      have hb' : c.toNat % 16 < 16 := by omega
      have he2 : escN (pre ++ [c]) = escN pre ++ [37, hexD (c.toNat / 16), hexD (c.toNat % 16)] := by rw [escN_snoc, escB, if_neg (by simp [hb])]
      rw [he2] at ih
      simp only [List.length_append, List.length_cons, List.length_nil, Nat.zero_add, hexL] at ih
      have hle := escN_le pre
      have x1 := max_lt ((escN pre).length + 1) (by omega)
      have x2 := max_lt ((escN pre).length + 1 + 1) (by omega)
      have x3 := max_lt ((escN pre).length + 1 + 1 + 1) (by omega)
      have x4 := max_lt ((escN pre).length + 2) (by omega)
      have x5 := max_lt ((escN pre).length + 3) (by omega)
      have x6 := max_lt ((escN pre).length + 2 + 1) (by omega)
      simp only [E49, hb, h1, h2, h3, h4, hexL, z16, x1, x2, x3, x4, x5, x6, natI, hex_ok _ ha, hex_ok _ hb', hex_cut _ ha, hex_cut _ hb', hw, EVT, EVD, ↓reduceIte, Nat.reduceEqDiff, reduceCtorEq, Nat.reduceAdd, Nat.reduceLeDiff, ne_eq, Nat.reduceLT, Int.reduceLT, Int.reduceLE, Int.reduceNeg]
      rw [show escN pre ++ [37, hexD (c.toNat / 16), hexD (c.toNat % 16)] = escN pre ++ [37] ++ [hexD (c.toNat / 16)] ++ [hexD (c.toNat % 16)] by simp] at ih
      exact ih
theorem c49 (s : Bytes) (hs : s.length ≤ 1000000) : acall tabS 49 [.str s] [] = some (.str (escN s), []) := by
  refine acall_ex rfl rfl rfl ?_
  have h0 := fun fn base k => loop49 s hs (acall tabS) rfl s [] rfl fn base k
  simp only [hexL] at h0
  simp only [fn49, E49, EVT, EVD, ↓reduceIte, Nat.reduceEqDiff, reduceCtorEq, Nat.reduceAdd, Nat.reduceLeDiff, ne_eq, Nat.reduceLT, Int.reduceLT, Int.reduceLE, Int.reduceNeg]
  refine (h0 _ _ _).trans ?_
  simp only [E49, EVT, EVD, ↓reduceIte, Nat.reduceEqDiff, reduceCtorEq, Nat.reduceAdd, Nat.reduceLeDiff, ne_eq, Nat.reduceLT, Int.reduceLT, Int.reduceLE, Int.reduceNeg]
theorem k49 (s : Bytes) (hs : s.length ≤ 1000000) (M : AMem) : callOp (acall tabS) 49 [.str s] M = some (.str (escN s), M) := callOp0 (c49 s hs) rfl rfl rfl rfl rfl M
theorem c46 (w : Bytes) (hw : w.length ≤ 100) (n : Int) (h : okI n) : acall tabS 46 [.str w, eI n] [] = some (.str (fldN ⟨w, n, []⟩), []) := by
  refine acall_ex rfl rfl rfl ?_
  by_cases hn : n = 0
  · have hb : (n == 0) = true := by simpa using hn
    simp only [fn46, E46, hb, EVT, EVD, ↓reduceIte, Nat.reduceEqDiff, reduceCtorEq, Nat.reduceAdd, Nat.reduceLeDiff, ne_eq, Nat.reduceLT, Int.reduceLT, Int.reduceLE, Int.reduceNeg]
    simp [fldN, hn]
  · have hb : (n == 0) = false := by simpa using hn
    have hl := itoa_le h
    simp (disch := omega) only [fn46, E46, hb, k37 n h, EVT, EVD, ↓reduceIte, Nat.reduceEqDiff, reduceCtorEq, Nat.reduceAdd, Nat.reduceLeDiff, ne_eq, Nat.reduceLT, Int.reduceLT, Int.reduceLE, Int.reduceNeg]
    simp [fldN, hn]
theorem k46 (w : Bytes) (hw : w.length ≤ 100) (n : Int) (h : okI n) (M : AMem) : callOp (acall tabS) 46 [.str w, eI n] M = some (.str (fldN ⟨w, n, []⟩), M) := callOp0 (c46 w hw n h) rfl rfl rfl rfl rfl M
theorem c47 (w s : Bytes) (hw : w.length ≤ 100) (h : s.length ≤ 1000000) : acall tabS 47 [.str w, .str s] [] = some (.str (fldN ⟨w, 0, escN s⟩), []) := by
  refine acall_ex rfl rfl rfl ?_
  by_cases hn : s = []
  · have hb : (s == []) = true := by simpa using hn
    simp only [fn47, E47, hb, EVT, EVD, ↓reduceIte, Nat.reduceEqDiff, reduceCtorEq, Nat.reduceAdd, Nat.reduceLeDiff, ne_eq, Nat.reduceLT, Int.reduceLT, Int.reduceLE, Int.reduceNeg]
    simp [fldN, hn, escN]
  · have hb : (s == []) = false := by simpa using hn
    have he : escN s ≠ [] := fun e => hn (escN_nil.1 e)
    have hl := escN_le s
    simp (disch := omega) only [fn47, E47, hb, k49 s h, EVT, EVD, ↓reduceIte, Nat.reduceEqDiff, reduceCtorEq, Nat.reduceAdd, Nat.reduceLeDiff, ne_eq, Nat.reduceLT, Int.reduceLT, Int.reduceLE, Int.reduceNeg]
    simp [fldN, he]
theorem k47 (w s : Bytes) (hw : w.length ≤ 100) (h : s.length ≤ 1000000) (M : AMem) : callOp (acall tabS) 47 [.str w, .str s] M = some (.str (fldN ⟨w, 0, escN s⟩), M) := callOp0 (c47 w s hw h) rfl rfl rfl rfl rfl M
theorem c45 : acall tabS 45 [] [] = some (.slice .sh (wordsL.tail.map .str), []) := by
  refine acall_ex rfl rfl rfl ?_
  simp only [fn45, E45, EVT, EVD, ↓reduceIte, Nat.reduceEqDiff, reduceCtorEq, Nat.reduceAdd, Nat.reduceLeDiff, ne_eq, Nat.reduceLT, Int.reduceLT, Int.reduceLE, Int.reduceNeg]
  rfl
theorem k45 (M : AMem) : callOp (acall tabS) 45 [] M = some (.slice .sh (wordsL.tail.map .str), M) := callOp0 c45 rfl rfl rfl rfl rfl M
theorem words_tail {k : Nat} (h : k < 17) : wordsL.tail[k]? = some (wordsL.getD (k + 1) []) := by
  have : k + 1 < wordsL.length := by show k + 1 < 18; omega
  rw [List.getElem?_tail, List.getD_eq_getElem?_getD, List.getElem?_eq_getElem this]
  rfl
theorem k46' {w : Bytes} (hw : w.length ≤ 100) {n : Int} (h : okI n) : ∃ t : Bytes, t.length ≤ 4000000 ∧ fldN ⟨w, n, []⟩ = t ∧ ∀ M, callOp (acall tabS) 46 [.str w, eI n] M = some (.str t, M) :=
  ⟨_, by have := fldN_le' (f := ⟨w, n, []⟩) h; simp only [List.length_nil] at this; omega, rfl, k46 w hw n h⟩
theorem k47' {w s : Bytes} (hw : w.length ≤ 100) (h : s.length ≤ 1000000) : ∃ t : Bytes, t.length ≤ 4000000 ∧ fldN ⟨w, 0, escN s⟩ = t ∧ ∀ M, callOp (acall tabS) 47 [.str w, .str s] M = some (.str t, M) :=
  ⟨_, by have := fldN_le' (f := ⟨w, 0, escN s⟩) okI_zero; have h2 := escN_le s; simp only at this; omega, rfl, k47 w s hw h⟩
theorem c16 (o : Op) (h : OpOk o) : acall tabS 16 [eOp .sh o] [] = some (.str (opN o), []) := by
  refine acall_ex rfl rfl rfl ?_
  obtain ⟨t1, l1, e1, h1⟩ := k46' (w := wClient) (by decide) h.client
  obtain ⟨t2, l2, e2, h2⟩ := k47' (w := wPath) (by decide) h.path
  obtain ⟨t3, l3, e3, h3⟩ := k47' (w := wTo) (by decide) h.dest
  obtain ⟨t4, l4, e4, h4⟩ := k46' (w := wN) (by decide) h.n
  obtain ⟨t5, l5, e5, h5⟩ := k46' (w := wM) (by decide) h.m
  obtain ⟨t6, l6, e6, h6⟩ := k46' (w := wHandle) (by decide) h.handle
  obtain ⟨t7, l7, e7, h7⟩ := k47' (w := wData) (by decide) h.data
  have h0 := k37 o.kind h.kind
  have hl0 := itoa_le h.kind
  have hl1 := firstN_le h.kind
  have hop : opN o = firstN o.kind ++ (t1 ++ (t2 ++ (t3 ++ (t4 ++ (t5 ++ (t6 ++ t7)))))) := by
    simp [opN, lineN, opFlds, fldsN, e1, e2, e3, e4, e5, e6, e7]
  simp only [wClient, wPath, wTo, wN, wM, wHandle, wData] at h1 h2 h3 h4 h5 h6 h7
  have hkk := h.kind
  unfold okI at hkk
  by_cases hk : 1 ≤ o.kind ∧ o.kind ≤ 17
  · have hb1 : decide (1 ≤ o.kind) = true := by simpa using hk.1
    have hb2 : decide (o.kind ≤ 17) = true := by simpa using hk.2
    have hi : IntKind.i64.wrap (o.kind - 1) = ((o.kind.toNat - 1 : Nat) : Int) := by rw [wrapS (by omega) (by omega)]; omega
    have hf : firstN o.kind = wordsL.getD (o.kind.toNat - 1 + 1) [] := by
      unfold firstN
      rw [if_pos (by omega), show o.kind.toNat - 1 + 1 = o.kind.toNat by omega]
    have hw := words_tail (k := o.kind.toNat - 1) (by omega)
    rw [← hf] at hw
    rw [hop]
    generalize firstN o.kind = t0 at *
    have y0 := max_lt (1 + 1 + (Lib.itoa o.kind).length) (by omega)
    have y0' := max_lt (2 + (Lib.itoa o.kind).length) (by omega)
    have y1 := max_lt (t0.length + t1.length) (by omega)
    have y2 := max_lt (t0.length + t1.length + t2.length) (by omega)
    have y3 := max_lt (t0.length + t1.length + t2.length + t3.length) (by omega)
    have y4 := max_lt (t0.length + t1.length + t2.length + t3.length + t4.length) (by omega)
    have y5 := max_lt (t0.length + t1.length + t2.length + t3.length + t4.length + t5.length) (by omega)
    have y6 := max_lt (t0.length + t1.length + t2.length + t3.length + t4.length + t5.length + t6.length) (by omega)
    have y7 := max_lt (t0.length + t1.length + t2.length + t3.length + t4.length + t5.length + t6.length + t7.length) (by omega)
    simp only [fn16, E16, eOp, eOpC, y0, y0', y1, y2, y3, y4, y5, y6, y7, h0, hb1, hb2, k45, hi, hw, natI, h1, h2, h3, h4, h5, h6, h7, bytes_u8, EVT, EVD, ↓reduceIte, Nat.reduceEqDiff, reduceCtorEq, Nat.reduceAdd, Nat.reduceLeDiff, ne_eq, Nat.reduceLT, Int.reduceLT, Int.reduceLE, Int.reduceNeg]
    simp only [List.append_assoc]
  · have hf : firstN o.kind = 111 :: 112 :: Lib.itoa o.kind := by
      unfold firstN
      rw [if_neg (by omega)]
    rw [hop]
    obtain ⟨t0, ht0⟩ : ∃ t, firstN o.kind = t := ⟨_, rfl⟩
    rw [hf] at ht0
    rw [hf, ht0]
    have hl3 : t0.length ≤ 23 := by rw [← ht0]; simp; omega
    have y0 := max_lt (1 + 1 + (Lib.itoa o.kind).length) (by omega)
    have y0' := max_lt (2 + (Lib.itoa o.kind).length) (by omega)
    have y1 := max_lt (t0.length + t1.length) (by omega)
    have y2 := max_lt (t0.length + t1.length + t2.length) (by omega)
    have y3 := max_lt (t0.length + t1.length + t2.length + t3.length) (by omega)
    have y4 := max_lt (t0.length + t1.length + t2.length + t3.length + t4.length) (by omega)
    have y5 := max_lt (t0.length + t1.length + t2.length + t3.length + t4.length + t5.length) (by omega)
    have y6 := max_lt (t0.length + t1.length + t2.length + t3.length + t4.length + t5.length + t6.length) (by omega)
    have y7 := max_lt (t0.length + t1.length + t2.length + t3.length + t4.length + t5.length + t6.length + t7.length) (by omega)
    by_cases h9 : 1 ≤ o.kind
    · have hb1 : decide (1 ≤ o.kind) = true := by simpa using h9
      have hb2 : decide (o.kind ≤ 17) = false := by simp; omega
      simp only [fn16, E16, eOp, eOpC, y0, y0', h0, hb1, hb2, ht0, EVT, EVD, ↓reduceIte, Nat.reduceEqDiff, reduceCtorEq, Nat.reduceAdd, Nat.reduceLeDiff, ne_eq, Nat.reduceLT, Int.reduceLT, Int.reduceLE, Int.reduceNeg]
      simp only [E16, y1, y2, y3, y4, y5, y6, y7, h1, h2, h3, h4, h5, h6, h7, bytes_u8, EVT, EVD, ↓reduceIte, Nat.reduceEqDiff, reduceCtorEq, Nat.reduceAdd, Nat.reduceLeDiff, ne_eq, Nat.reduceLT, Int.reduceLT, Int.reduceLE, Int.reduceNeg]
      simp only [List.append_assoc]
    · have hb1 : decide (1 ≤ o.kind) = false := by simp; omega
      simp only [fn16, E16, eOp, eOpC, y0, y0', h0, hb1, ht0, EVT, EVD, ↓reduceIte, Nat.reduceEqDiff, reduceCtorEq, Nat.reduceAdd, Nat.reduceLeDiff, ne_eq, Nat.reduceLT, Int.reduceLT, Int.reduceLE, Int.reduceNeg]
      simp only [E16, y1, y2, y3, y4, y5, y6, y7, h1, h2, h3, h4, h5, h6, h7, bytes_u8, EVT, EVD, ↓reduceIte, Nat.reduceEqDiff, reduceCtorEq, Nat.reduceAdd, Nat.reduceLeDiff, ne_eq, Nat.reduceLT, Int.reduceLT, Int.reduceLE, Int.reduceNeg]
      simp only [List.append_assoc]
theorem k16 (o : Op) (h : OpOk o) (M : AMem) : callOp (acall tabS) 16 [eOp .sh o] M = some (.str (opN o), M) := callOp0 (c16 o h) rfl rfl rfl rfl rfl M
end Go.Proofs.YtannopdcbocngaaGreatDoor
namespace Go.Proofs.YtannopdcbocngaaGreatDoor
open Go Go.Abs
attribute [local irreducible] exK opsK opK gK forkK kr acall callOp owhen obind
theorem ix0 {α : Type} (x : α) (l : List α) : (x :: l)[Int.toNat 0]? = some x := rfl
def commaN (r : List Bytes) : Bytes := r.flatMap fun x => 44 :: escN x
theorem commaN_cons (x : Bytes) (r : List Bytes) : commaN (x :: r) = [44] ++ escN x ++ commaN r := by simp [commaN]
theorem sumL_cons (x : Bytes) (r : List Bytes) : sumL (x :: r) = x.length + sumL r := by simp [sumL]
theorem namesN_cons (x : Bytes) (r : List Bytes) : namesN (x :: r) = [32, 110, 97, 109, 101, 115, 61] ++ escN x ++ commaN r := by
  unfold namesN
  rw [if_pos (by simp), List.map_cons, Lib.join_cons]
  have : Lib.joinTail [44] (r.map escN) = commaN r := by
    unfold Lib.joinTail commaN
    rw [List.map_map, ← List.flatMap_def]
    rfl
  rw [this]
  simp [wNames]
theorem loop18 (a : Ans) (h : AnsOk a) (C : CallF) (hC : C = acall tabS) : ∀ (r pre : List Bytes), a.names = pre ++ r → 0 < pre.length → ∀ (t : Bytes), t.length + 3 * sumL r + r.length ≤ 1000000000 → ∀ (fn : List ARes) (base : Nat) (k : List K),
    exK C fn base (.block 0 :: k) (.loop [1, 3, 4] lb18_0) [(1, .ptr 0 0), (3, .str t), (4, eI pre.length)] [.cells (eAnsC .sh .sh a)] =
    kr C fn base k ⟨.normal, [(1, .ptr 0 0), (3, .str (t ++ commaN r)), (4, eI a.names.length), (33, .bool false)], [.cells (eAnsC .sh .sh a)]⟩
  | [], pre, he, hp, t, ht, fn, base, k => by
    subst hC
    have hpre : pre = a.names := by simpa using he.symm
    have hlt : decide ((pre.length : Int) < a.names.length) = false := by rw [hpre]; simp
    rw [exK_loop]
    have h0 : t ++ commaN [] = t := by simp [commaN]
    rw [h0]
    rw [hpre] at hlt ⊢
    simp only [E18, eAnsC, hlt, EVT, EVD, ↓reduceIte, Nat.reduceEqDiff, reduceCtorEq, Nat.reduceAdd, Nat.reduceLeDiff, ne_eq, Nat.reduceLT, Int.reduceLT, Int.reduceLE, Int.reduceNeg]
  | x :: r, pre, he, hp, t, ht, fn, base, k => by
    subst hC
    have hl' : pre.length < a.names.length := by rw [he]; simp
    have hlt : decide ((pre.length : Int) < a.names.length) = true := by simpa using hl'
    have hix : a.names[pre.length]? = some x := by rw [he]; simp
    have hn : (0 : Int) ≤ pre.length := by omega
    have hz : ((pre.length : Int) == 0) = false := by simp; intro e; rw [e] at hp; simp at hp
    have hnl := h.names
    have hw : IntKind.i64.wrap ((pre.length : Int) + 1) = ((pre ++ [x]).length : Int) := by rw [List.length_append, wrapS (by omega) (by omega)]; simp
    have hsx : x.length ≤ 1000000 := by
      have := sumL_mem (l := a.names) (x := x) (by rw [he]; simp)
      have := h.sum; omega
    have hle := escN_le x
    rw [sumL_cons, List.length_cons] at ht
    have ih := loop18 a h (acall tabS) rfl r (pre ++ [x]) (by simpa using he) (by simp) (t ++ [44] ++ escN x) (by simp; omega) fn base k
    have hfr : t ++ [44] ++ escN x ++ commaN r = t ++ commaN (x :: r) := by rw [commaN_cons]; simp
    rw [hfr] at ih
    simp only [List.length_append, List.length_cons, List.length_nil, Nat.zero_add, eAnsC] at ih hw
    have m1 := max_lt (t.length + 1) (by omega)
    have m2 := max_lt (t.length + 1 + (escN x).length) (by omega)
    rw [exK_loop]
    simp only [E18, eAnsC, hlt, hix, hn, hz, m1, m2, k49 x hsx, hw, EVT, EVD, ↓reduceIte, Nat.reduceEqDiff, reduceCtorEq, Nat.reduceAdd, Nat.reduceLeDiff, ne_eq, Nat.reduceLT, Int.reduceLT, Int.reduceLE, Int.reduceNeg]
    exact ih
theorem c18 (a : Ans) (h : AnsOk a) : acall tabS 18 [eAns .sh .sh a] [] = some (.str (ansN a), []) := by
  refine acall_ex rfl rfl rfl ?_
  obtain ⟨t1, l1, e1, h1⟩ := k46' (w := wIno) (by decide) h.ino
  obtain ⟨t2, l2, e2, h2⟩ := k46' (w := wKind) (by decide) h.kind
  obtain ⟨t3, l3, e3, h3⟩ := k46' (w := wN) (by decide) h.n
  obtain ⟨t4, l4, e4, h4⟩ := k46' (w := wM) (by decide) h.m
  obtain ⟨t5, l5, e5, h5⟩ := k47' (w := wData) (by decide) h.data
  have h0 := k37 a.err h.err
  have hl0 := itoa_le h.err
  have hl1 := errN_le h.err
  have hnm := namesN_le h
  have hop : ansN a = errN a.err ++ t1 ++ t2 ++ t3 ++ t4 ++ namesN a.names ++ t5 := by
    simp [ansN, lineN, ansFlds, fldsN, e1, e2, e3, e4, e5]
  simp only [wIno, wKind, wN, wM, wData] at h1 h2 h3 h4 h5
  have hz : (((a.err == 0) = true) ∧ errN a.err = [111, 107]) ∨ (((a.err == 0) = false) ∧ errN a.err = 101 :: 114 :: 114 :: 111 :: 114 :: Lib.itoa a.err) := by
    by_cases hk : a.err = 0
    · exact .inl ⟨by simp [hk], by unfold errN; rw [if_neg (by simpa using hk)]⟩
    · exact .inr ⟨by simp [hk], by unfold errN; rw [if_pos (by simpa using hk)]⟩
  rw [hop]
  have y0 := max_lt (5 + (Lib.itoa a.err).length) (by omega)
  have y0' := max_lt (1 + 1 + 1 + 1 + 1 + (Lib.itoa a.err).length) (by omega)
  obtain ⟨t0, ht0⟩ : ∃ t, errN a.err = t := ⟨_, rfl⟩
  rw [ht0] at hl1 hz ⊢
  have y1 := max_lt (t0.length + t1.length) (by omega)
  have y2 := max_lt (t0.length + t1.length + t2.length) (by omega)
  have y3 := max_lt (t0.length + t1.length + t2.length + t3.length) (by omega)
  have y4 := max_lt (t0.length + t1.length + t2.length + t3.length + t4.length) (by omega)
  have hd : ∀ fn base k, exK (acall tabS) fn base (.block 0 :: k) (.loop [1, 3, 4] lb18_0) [(1, .ptr 0 0), (3, .str (t0 ++ t1 ++ t2 ++ t3 ++ t4)), (4, eI 0)] [.cells (eAnsC .sh .sh a)] =
      kr (acall tabS) fn base k ⟨.normal, [(1, .ptr 0 0), (3, .str (t0 ++ t1 ++ t2 ++ t3 ++ t4 ++ namesN a.names)), (4, eI a.names.length), (33, .bool false)], [.cells (eAnsC .sh .sh a)]⟩ := by
    intro fn base k
    rw [exK_loop]
    cases hnames : a.names with
    | nil =>
      rw [show namesN ([] : List Bytes) = [] from rfl, List.append_nil]
      simp only [E18, eAnsC, hnames, List.map_nil, List.length_nil, show decide ((0 : Int) < ((0 : Nat) : Int)) = false from rfl, EVT, EVD, ↓reduceIte, Nat.reduceEqDiff, reduceCtorEq, Nat.reduceAdd, Nat.reduceLeDiff, ne_eq, Nat.reduceLT, Int.reduceLT, Int.reduceLE, Int.reduceNeg]
      rfl
    | cons x r =>
      have hsx : x.length ≤ 1000000 := by
        have := sumL_mem (l := a.names) (x := x) (by rw [hnames]; simp)
        have := h.sum; omega
      have hle := escN_le x
      have hsum := h.sum
      have hlen := h.names
      rw [hnames, sumL_cons] at hsum
      rw [hnames, List.length_cons] at hlen
      generalize ht : t0 ++ t1 ++ t2 ++ t3 ++ t4 = t at *
      have htl : t.length ≤ 20000000 := by rw [← ht]; simp; omega
      have m1 := max_lt (t.length + 7) (by omega)
      have m1' := max_lt (t.length + 1 + 1 + 1 + 1 + 1 + 1 + 1) (by omega)
      have m2 := max_lt (t.length + 7 + (escN x).length) (by omega)
      have ih := loop18 a h (acall tabS) rfl r [x] (by simpa using hnames) (by simp) (t ++ [32, 110, 97, 109, 101, 115, 61] ++ escN x) (by simp; omega) fn base k
      have hfr : t ++ [32, 110, 97, 109, 101, 115, 61] ++ escN x ++ commaN r = t ++ namesN (x :: r) := by rw [namesN_cons]; simp
      rw [hfr, hnames] at ih
      simp only [List.length_append, List.length_cons, List.length_nil, Nat.zero_add, eAnsC, hnames] at ih
      have hlt : decide ((0 : Int) < ((r.length + 1 : Nat) : Int)) = true := by simp
      simp only [E18, eAnsC, hnames, hlt, List.length_cons, m1, m1', m2, k49 x hsx, ix0, show IntKind.i64.wrap (0 + 1) = 1 from by decide, EVT, EVD, ↓reduceIte, Nat.reduceEqDiff, reduceCtorEq, Nat.reduceAdd, Nat.reduceLeDiff, ne_eq, Nat.reduceLT, Int.reduceLT, Int.reduceLE, Int.reduceNeg]
      exact ih
  simp only [eAnsC] at hd
  have hnl : (namesN a.names).length ≤ 4000007 := hnm
  obtain ⟨t6, ht6⟩ : ∃ t, namesN a.names = t := ⟨_, rfl⟩
  rw [ht6] at hnl ⊢
  have m5 := max_lt (t0.length + t1.length + t2.length + t3.length + t4.length + t6.length + t5.length) (by omega)
  rcases hz with ⟨hb, hz⟩ | ⟨hb, hz⟩
  · simp only [fn18, E18, eAns, eAnsC, h0, y0, y0', hb, EVT, EVD, ↓reduceIte, Nat.reduceEqDiff, reduceCtorEq, Nat.reduceAdd, Nat.reduceLeDiff, ne_eq, Nat.reduceLT, Int.reduceLT, Int.reduceLE, Int.reduceNeg]
    rw [← hz]
    simp only [E18, y1, y2, y3, y4, h1, h2, h3, h4, EVT, EVD, ↓reduceIte, Nat.reduceEqDiff, reduceCtorEq, Nat.reduceAdd, Nat.reduceLeDiff, ne_eq, Nat.reduceLT, Int.reduceLT, Int.reduceLE, Int.reduceNeg]
    refine (hd _ _ _).trans ?_
    rw [ht6]
    simp only [E18, bytes_u8, h5, m5, EVT, EVD, ↓reduceIte, Nat.reduceEqDiff, reduceCtorEq, Nat.reduceAdd, Nat.reduceLeDiff, ne_eq, Nat.reduceLT, Int.reduceLT, Int.reduceLE, Int.reduceNeg]
  · simp only [fn18, E18, eAns, eAnsC, h0, y0, y0', hb, EVT, EVD, ↓reduceIte, Nat.reduceEqDiff, reduceCtorEq, Nat.reduceAdd, Nat.reduceLeDiff, ne_eq, Nat.reduceLT, Int.reduceLT, Int.reduceLE, Int.reduceNeg]
    rw [← hz]
    simp only [E18, y1, y2, y3, y4, h1, h2, h3, h4, EVT, EVD, ↓reduceIte, Nat.reduceEqDiff, reduceCtorEq, Nat.reduceAdd, Nat.reduceLeDiff, ne_eq, Nat.reduceLT, Int.reduceLT, Int.reduceLE, Int.reduceNeg]
    refine (hd _ _ _).trans ?_
    rw [ht6]
    simp only [E18, bytes_u8, h5, m5, EVT, EVD, ↓reduceIte, Nat.reduceEqDiff, reduceCtorEq, Nat.reduceAdd, Nat.reduceLeDiff, ne_eq, Nat.reduceLT, Int.reduceLT, Int.reduceLE, Int.reduceNeg]
theorem k18 (a : Ans) (h : AnsOk a) (M : AMem) : callOp (acall tabS) 18 [eAns .sh .sh a] M = some (.str (ansN a), M) := callOp0 (c18 a h) rfl rfl rfl rfl rfl M
theorem loop21 (l : List Event) (hok : ∀ e, e ∈ l → EvOk e) (hl : l.length ≤ 100000) (C : CallF) (hC : C = acall tabS) : ∀ (r pre : List Event), l = pre ++ r → ∀ (t : Bytes), t.length ≤ 10000100 * pre.length → ∀ (fn : List ARes) (base : Nat) (k : List K),
    exK C fn base (.block 0 :: k) (.loop [0, 3, 4] lb21_0) [(0, .slice .sh (l.map eEv)), (3, .str t), (4, eI pre.length)] [] =
    kr C fn base k ⟨.normal, [(0, .slice .sh (l.map eEv)), (3, .str (t ++ histN r)), (4, eI l.length), (9, .bool false)], []⟩
  | [], pre, he, t, ht, fn, base, k => by
    subst hC
    have : pre = l := by simpa using he.symm
    subst this
    rw [exK_loop]
    have hlt : decide ((pre.length : Int) < pre.length) = false := by simp
    have h0 : t ++ histN [] = t := by simp [histN]
    rw [h0]
    simp only [E21, hlt, EVT, EVD, ↓reduceIte, Nat.reduceEqDiff, reduceCtorEq, Nat.reduceAdd, Nat.reduceLeDiff, ne_eq, Nat.reduceLT, Int.reduceLT, Int.reduceLE, Int.reduceNeg]
  | e :: r, pre, he, t, ht, fn, base, k => by
    subst hC
    have hl' : pre.length < l.length := by rw [he]; simp
    have hlt : decide ((pre.length : Int) < l.length) = true := by simpa using hl'
    have hix : l[pre.length]? = some e := by rw [he]; simp
    have hn : (0 : Int) ≤ pre.length := by omega
    have hw : IntKind.i64.wrap ((pre.length : Int) + 1) = ((pre ++ [e]).length : Int) := by rw [List.length_append, wrapS (by omega) (by omega)]; simp
    have hfo := hok e (by rw [he]; simp)
    have h4 := evN_le hfo
    have ho := opN_le hfo.op; have ha := ansN_le hfo.ans; have hi := itoa_le hfo.client
    have ih := loop21 l hok hl (acall tabS) rfl r (pre ++ [e]) (by simpa using he) (t ++ evN e) (by simp; omega) fn base k
    have hfr : t ++ evN e ++ histN r = t ++ histN (e :: r) := by simp [histN]
    rw [hfr] at ih
    generalize t ++ histN (e :: r) = u at ih ⊢
    have h37 := k37 e.client hfo.client
    have h16 := k16 e.op hfo.op
    have h18 := k18 e.ans hfo.ans
    simp only [eOpC, eAnsC, eOp, eAns] at h16 h18
    simp only [List.length_append, List.length_cons, List.length_nil, Nat.zero_add] at hw
    obtain ⟨ic, hic⟩ : ∃ x, Lib.itoa e.client = x := ⟨_, rfl⟩
    obtain ⟨oc, hoc⟩ : ∃ x, opN e.op = x := ⟨_, rfl⟩
    obtain ⟨ac, hac⟩ : ∃ x, ansN e.ans = x := ⟨_, rfl⟩
    rw [hic] at h37 hi; rw [hoc] at h16 ho; rw [hac] at h18 ha
    have a1 := max_lt (t.length + 6) (by omega)
    have a2 := max_lt (t.length + 6 + ic.length) (by omega)
    have a3 := max_lt (t.length + 6 + ic.length + 2) (by omega)
    have a4 := max_lt (t.length + 6 + ic.length + 2 + oc.length) (by omega)
    have a5 := max_lt (t.length + 6 + ic.length + 2 + oc.length + 1) (by omega)
    have b1 := max_lt (t.length + 4) (by omega)
    have b2 := max_lt (t.length + 4 + ic.length) (by omega)
    have b3 := max_lt (t.length + 4 + ic.length + 2) (by omega)
    have b4 := max_lt (t.length + 4 + ic.length + 2 + ac.length) (by omega)
    have b5 := max_lt (t.length + 4 + ic.length + 2 + ac.length + 1) (by omega)
    rw [exK_loop]
    simp only [E21, hlt, hix, eEvC, EVT, EVD, ↓reduceIte, Nat.reduceEqDiff, reduceCtorEq, Nat.reduceAdd, Nat.reduceLeDiff, ne_eq, Nat.reduceLT, Int.reduceLT, Int.reduceLE, Int.reduceNeg]
    refine fork_split (fun hb => ?_) (fun hb => ?_)
    · have he1 : e.kind = 1 := by simpa using hb
      have hc : (e.kind == 2) = false := by rw [he1]; rfl
      have he2 : t ++ evN e = t ++ [98, 101, 103, 105, 110, 32] ++ ic ++ [58, 32] ++ oc ++ [10] := by rw [evN, if_pos he1, hic, hoc]; simp
      rw [he2] at ih
      simp only [List.length_append, List.length_cons, List.length_nil, Nat.zero_add] at ih
      simp only [E21, hb, hc, hn, h37, h16, a1, a2, a3, a4, a5, EVT, EVD, ↓reduceIte, Nat.reduceEqDiff, reduceCtorEq, Nat.reduceAdd, Nat.reduceLeDiff, ne_eq, Nat.reduceLT, Int.reduceLT, Int.reduceLE, Int.reduceNeg]
      simp only [E21, hw, EVT, EVD, ↓reduceIte, Nat.reduceEqDiff, reduceCtorEq, Nat.reduceAdd, Nat.reduceLeDiff, ne_eq, Nat.reduceLT, Int.reduceLT, Int.reduceLE, Int.reduceNeg]
      exact ih
    · simp only [E21, hb, hn, EVT, EVD, ↓reduceIte, Nat.reduceEqDiff, reduceCtorEq, Nat.reduceAdd, Nat.reduceLeDiff, ne_eq, Nat.reduceLT, Int.reduceLT, Int.reduceLE, Int.reduceNeg]
      refine fork_split (fun hc => ?_) (fun hc => ?_)
      · have he2 : t ++ evN e = t ++ [101, 110, 100, 32] ++ ic ++ [58, 32] ++ ac ++ [10] := by rw [evN, if_neg (by simpa using hb), if_pos (by simpa using hc), hic, hac]; simp
        rw [he2] at ih
        simp only [List.length_append, List.length_cons, List.length_nil, Nat.zero_add] at ih
        simp only [E21, hb, hc, hn, h37, h18, b1, b2, b3, b4, b5, EVT, EVD, ↓reduceIte, Nat.reduceEqDiff, reduceCtorEq, Nat.reduceAdd, Nat.reduceLeDiff, ne_eq, Nat.reduceLT, Int.reduceLT, Int.reduceLE, Int.reduceNeg]
        simp only [E21, hw, EVT, EVD, ↓reduceIte, Nat.reduceEqDiff, reduceCtorEq, Nat.reduceAdd, Nat.reduceLeDiff, ne_eq, Nat.reduceLT, Int.reduceLT, Int.reduceLE, Int.reduceNeg]
        exact ih
      · have he2 : evN e = [] := by rw [evN, if_neg (by simpa using hb), if_neg (by simpa using hc)]
        rw [he2, List.append_nil] at ih
        simp only [List.length_append, List.length_cons, List.length_nil, Nat.add_zero, Nat.zero_add] at ih
        simp only [E21, hb, hc, hn, hw, EVT, EVD, ↓reduceIte, Nat.reduceEqDiff, reduceCtorEq, Nat.reduceAdd, Nat.reduceLeDiff, ne_eq, Nat.reduceLT, Int.reduceLT, Int.reduceLE, Int.reduceNeg]
        exact ih
theorem c21 (l : List Event) (hok : ∀ e, e ∈ l → EvOk e) (hl : l.length ≤ 100000) : acall tabS 21 [.slice .sh (l.map eEv)] [] = some (.str (histN l), []) := by
  refine acall_ex rfl rfl rfl ?_
  have h0 := loop21 l hok hl (acall tabS) rfl l [] rfl [] (by simp)
  simp only [List.length_nil, List.nil_append] at h0
  simp only [fn21, E21, EVT, EVD, ↓reduceIte, Nat.reduceEqDiff, reduceCtorEq, Nat.reduceAdd, Nat.reduceLeDiff, ne_eq, Nat.reduceLT, Int.reduceLT, Int.reduceLE, Int.reduceNeg]
  refine (h0 _ _ _).trans ?_
  simp only [E21, EVT, EVD, ↓reduceIte, Nat.reduceEqDiff, reduceCtorEq, Nat.reduceAdd, Nat.reduceLeDiff, ne_eq, Nat.reduceLT, Int.reduceLT, Int.reduceLE, Int.reduceNeg]
theorem k21 (l : List Event) (hok : ∀ e, e ∈ l → EvOk e) (hl : l.length ≤ 100000) (M : AMem) : callOp (acall tabS) 21 [.slice .sh (l.map eEv)] M = some (.str (histN l), M) := callOp0 (c21 l hok hl) rfl rfl rfl rfl rfl M
end Go.Proofs.YtannopdcbocngaaGreatDoor
namespace Go.Proofs.YtannopdcbocngaaGreatDoor
open Go Go.Abs
attribute [local irreducible] exK opsK opK gK forkK kr acall callOp owhen obind
def sameEvB (x y : Event) : Bool := decide (x.kind = y.kind ∧ x.client = y.client ∧ opN x.op = opN y.op ∧ ansN x.ans = ansN y.ans)
def sameEvs : List Event → List Event → Bool
  | [], [] => true
  | x :: a, y :: b => sameEvB x y && sameEvs a b
  | _, _ => false
theorem sameEvs_len : ∀ {a b : List Event}, a.length ≠ b.length → sameEvs a b = false
  | [], [], h => absurd rfl h
  | x :: a, [], _ => rfl
  | [], y :: b, _ => rfl
  | x :: a, y :: b, h => by
    rw [sameEvs, sameEvs_len (a := a) (b := b) (by simpa using h), Bool.and_false]
theorem loop32 (a b : List Event) (ha : ∀ e, e ∈ a → EvOk e) (hb : ∀ e, e ∈ b → EvOk e) (hl : a.length ≤ 100000) (C : CallF) (hC : C = acall tabS) : ∀ (r r' pre pre' : List Event), a = pre ++ r → b = pre' ++ r' → pre.length = pre'.length → r.length = r'.length →
    exK C [.tmp 4] 0 [.block 0, .seq q32_4] (.loop [0, 1, 5] lb32_0) [(0, .slice .sh (a.map eEv)), (1, .slice .sh (b.map eEv)), (5, eI pre.length)] [] =
    some (.bool (sameEvs r r'), [])
  | [], r', pre, pre', he, he', hp, hr => by
    subst hC
    have : r' = [] := by simpa using hr.symm
    subst this
    have hpa : pre = a := by simpa using he.symm
    rw [exK_loop]
    have hlt : decide ((pre.length : Int) < a.length) = false := by rw [hpa]; simp
    simp only [E32, hlt, sameEvs, EVT, EVD, ↓reduceIte, Nat.reduceEqDiff, reduceCtorEq, Nat.reduceAdd, Nat.reduceLeDiff, ne_eq, Nat.reduceLT, Int.reduceLT, Int.reduceLE, Int.reduceNeg]
  | x :: r, [], pre, pre', he, he', hp, hr => by simp at hr
  | x :: r, y :: r', pre, pre', he, he', hp, hr => by
    subst hC
    have hl' : pre.length < a.length := by rw [he]; simp
    have hlt : decide ((pre.length : Int) < a.length) = true := by simpa using hl'
    have hix : a[pre.length]? = some x := by rw [he]; simp
    have hiy : b[pre.length]? = some y := by rw [he', hp]; simp
    have hn : (0 : Int) ≤ pre.length := by omega
    have hw : IntKind.i64.wrap ((pre.length : Int) + 1) = ((pre ++ [x]).length : Int) := by rw [List.length_append, wrapS (by omega) (by omega)]; simp
    have ex := ha x (by rw [he]; simp)
    have ey := hb y (by rw [he']; simp)
    have h1 := k16 x.op ex.op
    have h2 := k16 y.op ey.op
    have h3 := k18 x.ans ex.ans
    have h4 := k18 y.ans ey.ans
    simp only [eOp, eOpC, eAns, eAnsC] at h1 h2 h3 h4
    have ih := loop32 a b ha hb hl (acall tabS) rfl r r' (pre ++ [x]) (pre' ++ [y]) (by simpa using he) (by simpa using he') (by simpa using hp) (by simpa using hr)
    simp only [List.length_append, List.length_cons, List.length_nil, Nat.zero_add] at ih hw
    rw [sameEvs]
    rw [exK_loop]
    by_cases c1 : x.kind = y.kind
    · have d1 : (x.kind != y.kind) = false := by simp [c1]
      by_cases c2 : x.client = y.client
      · have d2 : (x.client != y.client) = false := by simp [c2]
        by_cases c3 : opN x.op = opN y.op
        · have d3 : (opN y.op != opN y.op) = false := by simp
          by_cases c4 : ansN x.ans = ansN y.ans
          · have d4 : (ansN y.ans != ansN y.ans) = false := by simp
            have hs : sameEvB x y = true := by simp [sameEvB, c1, c2, c3, c4]
            simp only [E32, hlt, hix, hiy, hn, eEvC, d1, d2, d3, d4, h1, h2, h3, h4, c3, c4, hw, hs, Bool.true_and, EVT, EVD, ↓reduceIte, Nat.reduceEqDiff, reduceCtorEq, Nat.reduceAdd, Nat.reduceLeDiff, ne_eq, Nat.reduceLT, Int.reduceLT, Int.reduceLE, Int.reduceNeg]
            exact ih
          · have d4 : (ansN x.ans != ansN y.ans) = true := by simpa using c4
            have hs : sameEvB x y = false := by simp [sameEvB, c4]
            simp only [E32, hlt, hix, hiy, hn, eEvC, d1, d2, d3, d4, h1, h2, h3, h4, c3, hs, Bool.false_and, EVT, EVD, ↓reduceIte, Nat.reduceEqDiff, reduceCtorEq, Nat.reduceAdd, Nat.reduceLeDiff, ne_eq, Nat.reduceLT, Int.reduceLT, Int.reduceLE, Int.reduceNeg]
        · have d3 : (opN x.op != opN y.op) = true := by simpa using c3
          have hs : sameEvB x y = false := by simp [sameEvB, c3]
          simp only [E32, hlt, hix, hiy, hn, eEvC, d1, d2, d3, h1, h2, h3, h4, hs, Bool.false_and, EVT, EVD, ↓reduceIte, Nat.reduceEqDiff, reduceCtorEq, Nat.reduceAdd, Nat.reduceLeDiff, ne_eq, Nat.reduceLT, Int.reduceLT, Int.reduceLE, Int.reduceNeg]
      · have d2 : (x.client != y.client) = true := by simpa using c2
        have hs : sameEvB x y = false := by simp [sameEvB, c2]
        simp only [E32, hlt, hix, hiy, hn, eEvC, d1, d2, hs, Bool.false_and, EVT, EVD, ↓reduceIte, Nat.reduceEqDiff, reduceCtorEq, Nat.reduceAdd, Nat.reduceLeDiff, ne_eq, Nat.reduceLT, Int.reduceLT, Int.reduceLE, Int.reduceNeg]
    · have d1 : (x.kind != y.kind) = true := by simpa using c1
      have hs : sameEvB x y = false := by simp [sameEvB, c1]
      simp only [E32, hlt, hix, hiy, hn, eEvC, d1, hs, Bool.false_and, EVT, EVD, ↓reduceIte, Nat.reduceEqDiff, reduceCtorEq, Nat.reduceAdd, Nat.reduceLeDiff, ne_eq, Nat.reduceLT, Int.reduceLT, Int.reduceLE, Int.reduceNeg]
theorem c32 (a b : List Event) (ha : ∀ e, e ∈ a → EvOk e) (hb : ∀ e, e ∈ b → EvOk e) (hl : a.length ≤ 100000) : acall tabS 32 [.slice .sh (a.map eEv), .slice .sh (b.map eEv)] [] = some (.bool (sameEvs a b), []) := by
  refine acall_ex rfl rfl rfl ?_
  by_cases h : a.length = b.length
  · have d : (((a.length : Nat) : Int) != ((b.length : Nat) : Int)) = false := by simp [h]
    have h0 := loop32 a b ha hb hl (acall tabS) rfl a b [] [] rfl rfl rfl h
    simp only [fn32, E32, List.length_map, d, EVT, EVD, ↓reduceIte, Nat.reduceEqDiff, reduceCtorEq, Nat.reduceAdd, Nat.reduceLeDiff, ne_eq, Nat.reduceLT, Int.reduceLT, Int.reduceLE, Int.reduceNeg]
    exact h0
  · have d : (((a.length : Nat) : Int) != ((b.length : Nat) : Int)) = true := by simp; omega
    rw [sameEvs_len h]
    simp only [fn32, E32, List.length_map, d, EVT, EVD, ↓reduceIte, Nat.reduceEqDiff, reduceCtorEq, Nat.reduceAdd, Nat.reduceLeDiff, ne_eq, Nat.reduceLT, Int.reduceLT, Int.reduceLE, Int.reduceNeg]
theorem k32 (a b : List Event) (ha : ∀ e, e ∈ a → EvOk e) (hb : ∀ e, e ∈ b → EvOk e) (hl : a.length ≤ 100000) (M : AMem) : callOp (acall tabS) 32 [.slice .sh (a.map eEv), .slice .sh (b.map eEv)] M = some (.bool (sameEvs a b), M) := callOp0 (c32 a b ha hb hl) rfl rfl rfl rfl rfl M
def cutEvN (e : Event) : Event := { e with op := cutOpN e.op, ans := cutAnsN e.ans }
def fewN (l : List Event) : List Event := (l.take 20).map cutEvN
theorem wid_evs : ∀ l : List Event, wid (l.map eEv) 17 = True := by
  intro l
  simp only [eq_iff_iff, iff_true]
  intro x hx
  obtain ⟨s, _, rfl⟩ := List.mem_map.1 hx
  rfl
theorem loop20 (l : List Event) (u : List Event) (hu : fewN l = u) (C : CallF) (hC : C = acall tabS) : ∀ (r pre : List Event), l = pre ++ r → pre.length ≤ 20 → ∀ (fn : List ARes) (base : Nat) (k : List K),
    exK C fn base (.block 0 :: k) (.loop [0, 3, 4] lb20_0) [(0, .slice .sh (l.map eEv)), (3, .slice (.own 0) ((pre.map cutEvN).map eEv)), (4, eI pre.length)] [.tick 17 pre.length] =
    kr C fn base k ⟨.normal, [(0, .slice .sh (l.map eEv)), (3, .slice (.own 0) (u.map eEv)), (4, eI u.length), (14, .bool false)], [.tick 17 u.length]⟩
  | [], pre, he, hp, fn, base, k => by
    subst hC
    have hpre : pre = l := by simpa using he.symm
    have hu' : u = pre.map cutEvN := by rw [← hu, fewN, ← hpre, List.take_of_length_le hp]
    subst hu'
    have hlt : decide ((pre.length : Int) < l.length) = false := by rw [hpre]; simp
    rw [exK_loop]
    simp only [E20, hlt, List.length_map, EVT, EVD, ↓reduceIte, Nat.reduceEqDiff, reduceCtorEq, Nat.reduceAdd, Nat.reduceLeDiff, ne_eq, Nat.reduceLT, Int.reduceLT, Int.reduceLE, Int.reduceNeg]
  | x :: r, pre, he, hp, fn, base, k => by
    subst hC
    have hl' : pre.length < l.length := by rw [he]; simp
    have hlt : decide ((pre.length : Int) < l.length) = true := by simpa using hl'
    by_cases h4 : pre.length = 20
    · have hu' : u = pre.map cutEvN := by rw [← hu, fewN, he, ← h4]; simp
      subst hu'
      have h40 : decide ((pre.length : Int) < 20) = false := by rw [h4]; rfl
      rw [exK_loop]
      simp only [E20, hlt, h40, List.length_map, EVT, EVD, ↓reduceIte, Nat.reduceEqDiff, reduceCtorEq, Nat.reduceAdd, Nat.reduceLeDiff, ne_eq, Nat.reduceLT, Int.reduceLT, Int.reduceLE, Int.reduceNeg]
    · have h40 : decide ((pre.length : Int) < 20) = true := by simp; omega
      have hix : l[pre.length]? = some x := by rw [he]; simp
      have hn : (0 : Int) ≤ pre.length := by omega
      have hw : IntKind.i64.wrap ((pre.length : Int) + 1) = ((pre ++ [x]).length : Int) := by rw [List.length_append, wrapS (by omega) (by omega)]; simp
      have hr := roomO (a := pre.length + 1) (b := 200) (by omega) (by omega)
      have ih := loop20 l u hu (acall tabS) rfl r (pre ++ [x]) (by simpa using he) (by simp; omega) fn base k
      have h12 := kS12 x.op
      have h13 := kS13 x.ans
      simp only [eOp, eOpC, eAns, eAnsC] at h12 h13
      simp only [List.length_append, List.length_cons, List.length_nil, Nat.zero_add, List.map_append, List.map_cons, List.map_nil] at ih hw
      rw [exK_loop]
      simp only [E20, eEvC, hlt, h40, hix, hn, hr, h12, h13, List.length_map, EVT, EVD, ↓reduceIte, Nat.reduceEqDiff, reduceCtorEq, Nat.reduceAdd, Nat.reduceLeDiff, ne_eq, Nat.reduceLT, Int.reduceLT, Int.reduceLE, Int.reduceNeg]
      simp only [E20, hw, wid_evs, EVT, EVD, ↓reduceIte, Nat.reduceEqDiff, reduceCtorEq, Nat.reduceAdd, Nat.reduceLeDiff, ne_eq, Nat.reduceLT, Int.reduceLT, Int.reduceLE, Int.reduceNeg]
      exact ih
theorem c20 (l : List Event) : acall tabS 20 [.slice .sh (l.map eEv)] [] = some (.slice .sh ((fewN l).map eEv), []) := by
  refine acall_ex rfl rfl rfl ?_
  have h0 := fun fn base k => loop20 l _ rfl (acall tabS) rfl l [] rfl (by simp) fn base k
  simp only [List.map_nil, List.length_nil] at h0
  simp only [fn20, E20, EVT, EVD, ↓reduceIte, Nat.reduceEqDiff, reduceCtorEq, Nat.reduceAdd, Nat.reduceLeDiff, ne_eq, Nat.reduceLT, Int.reduceLT, Int.reduceLE, Int.reduceNeg]
  refine (h0 _ _ _).trans ?_
  simp only [E20, EVT, EVD, ↓reduceIte, Nat.reduceEqDiff, reduceCtorEq, Nat.reduceAdd, Nat.reduceLeDiff, ne_eq, Nat.reduceLT, Int.reduceLT, Int.reduceLE, Int.reduceNeg]
theorem k20 (l : List Event) (M : AMem) : callOp (acall tabS) 20 [.slice .sh (l.map eEv)] M = some (.slice .sh ((fewN l).map eEv), M) := callOp0 (c20 l) rfl rfl rfl rfl rfl M
end Go.Proofs.YtannopdcbocngaaGreatDoor
namespace Go.Proofs.YtannopdcbocngaaGreatDoor
open Go Go.Abs
attribute [local irreducible] exK opsK opK gK forkK kr acall callOp owhen obind
def refC (a b : UInt8) : UInt8 := UInt8.ofNat (16 * ixN a + ixN b).toNat
def badC (a b : UInt8) : Bool := decide (ixN a < 0) || decide (ixN b < 0) || plainE (refC a b)
def rawO : Bytes → Option Bytes
  | c :: a :: b :: r => if plainE c = true then (rawO (a :: b :: r)).map (c :: ·) else if c = 37 ∧ badC a b = false then (rawO r).map (refC a b :: ·) else none
  | c :: r => if plainE c = true then (rawO r).map (c :: ·) else none
  | [] => some []
theorem rawO_plain {c : UInt8} (h : plainE c = true) (r : Bytes) : rawO (c :: r) = (rawO r).map (c :: ·) := by
  match r with
  | [] => rw [rawO, if_pos h]; intro a b r e; cases e
  | [a] => rw [rawO, if_pos h]; intro a b r e; cases e
  | a :: b :: r => rw [rawO, if_pos h]
def rawRes (out r : Bytes) : Bytes × Bool := match rawO r with
  | some u => (out ++ u, true)
  | none => ([], false)
theorem rawRes_step {out r r' : Bytes} {x : UInt8} (h : rawO r = (rawO r').map (x :: ·)) : rawRes (out ++ [x]) r' = rawRes out r := by
  unfold rawRes
  rw [h]
  cases rawO r' with
  | none => rfl
  | some u => simp
theorem rawRes_none {out r : Bytes} (h : rawO r = none) : rawRes out r = ([], false) := by unfold rawRes; rw [h]
theorem ix_le : ∀ c : UInt8, -1 ≤ ixN c ∧ ixN c ≤ 15 := all_bytes (by decide +kernel)
theorem loop34 (s : Bytes) (hs : s.length ≤ 1000000) (C : CallF) (hC : C = acall tabS) : ∀ (n : Nat) (r pre out : Bytes), r.length ≤ n → s = pre ++ r → out.length ≤ pre.length →
    exK C [.tmp 2, .tmp 3] 0 [.block 0, .seq q34_11] (.loop [0, 4, 5] lb34_0) [(0, .str s), (4, .slice (.own 0) (out.map u8V)), (5, eI pre.length)] [.tick 1 out.length] =
    some (.tuple [.str (rawRes out r).1, .bool (rawRes out r).2], [])
  | n, [], pre, out, hn, he, ho => by
    subst hC
    have hp : pre = s := by simpa using he.symm
    subst hp
    rw [exK_loop]
    have hlt : decide ((pre.length : Int) < pre.length) = false := by simp
    have h0 : rawRes out [] = (out, true) := by simp [rawRes, rawO]
    rw [h0]
    simp only [E34, hlt, bytes_u8, EVT, EVD, ↓reduceIte, Nat.reduceEqDiff, reduceCtorEq, Nat.reduceAdd, Nat.reduceLeDiff, ne_eq, Nat.reduceLT, Int.reduceLT, Int.reduceLE, Int.reduceNeg]
  | 0, c :: r, pre, out, hn, he, ho => by simp at hn
  | n + 1, c :: r, pre, out, hn, he, ho => by
    subst hC
    have hl : pre.length < s.length := by rw [he]; simp
    have hlt : decide ((pre.length : Int) < s.length) = true := by simpa using hl
    have hix : s[pre.length]? = some c := by rw [he]; simp
    have hp : (0 : Int) ≤ pre.length := by omega
    have hw : IntKind.i64.wrap ((pre.length : Int) + 1) = ((pre.length + 1 : Nat) : Int) := by rw [wrapS (by omega) (by omega)]; simp
    have hw2 : IntKind.i64.wrap ((pre.length : Int) + 2) = ((pre.length + 2 : Nat) : Int) := by rw [wrapS (by omega) (by omega)]; simp
    have hw3 : IntKind.i64.wrap (((pre.length + 2 : Nat) : Int) + 1) = ((pre.length + 3 : Nat) : Int) := by rw [wrapS (by omega) (by omega)]; omega
    have hr := roomO (a := out.length + 1) (b := 1) (by omega) (by omega)
    rw [exK_loop]
    by_cases hc : plainE c = true
    · have ih := loop34 s hs (acall tabS) rfl n r (pre ++ [c]) (out ++ [c]) (by simpa using hn) (by simpa using he) (by simp; omega)
      rw [rawRes_step (rawO_plain hc r)] at ih
      simp only [List.length_append, List.length_cons, List.length_nil, Nat.zero_add, List.map_append, List.map_cons, List.map_nil] at ih
      simp only [E34, hlt, hix, hp, k71, hc, hr, hw, EVT, EVD, ↓reduceIte, Nat.reduceEqDiff, reduceCtorEq, Nat.reduceAdd, Nat.reduceLeDiff, ne_eq, Nat.reduceLT, Int.reduceLT, Int.reduceLE, Int.reduceNeg]
      simp only [E34, widU, hw, EVT, EVD, ↓reduceIte, Nat.reduceEqDiff, reduceCtorEq, Nat.reduceAdd, Nat.reduceLeDiff, ne_eq, Nat.reduceLT, Int.reduceLT, Int.reduceLE, Int.reduceNeg]
      exact ih
    · have hc0 : plainE c = false := by simpa using hc
      by_cases h37 : c = 37
      · have hb37 : (((c.toNat : Nat) : Int) != 37) = false := by rw [h37]; rfl
        match r, hn, he with
        | [], hn, he =>
          have hge : decide (((s.length : Nat) : Int) ≤ ((pre.length + 2 : Nat) : Int)) = true := by rw [he]; simp
          have hn0 : rawO [c] = none := by rw [rawO, if_neg hc]; intro a b r e; cases e
          rw [rawRes_none hn0]
          simp only [E34, hlt, hix, hp, k71, hc0, hb37, hw2, hge, EVT, EVD, ↓reduceIte, Nat.reduceEqDiff, reduceCtorEq, Nat.reduceAdd, Nat.reduceLeDiff, ne_eq, Nat.reduceLT, Int.reduceLT, Int.reduceLE, Int.reduceNeg]
        | [a], hn, he =>
          have hge : decide (((s.length : Nat) : Int) ≤ ((pre.length + 2 : Nat) : Int)) = true := by rw [he]; simp
          have hn0 : rawO [c, a] = none := by rw [rawO, if_neg hc]; intro a b r e; cases e
          rw [rawRes_none hn0]
          simp only [E34, hlt, hix, hp, k71, hc0, hb37, hw2, hge, EVT, EVD, ↓reduceIte, Nat.reduceEqDiff, reduceCtorEq, Nat.reduceAdd, Nat.reduceLeDiff, ne_eq, Nat.reduceLT, Int.reduceLT, Int.reduceLE, Int.reduceNeg]
        | a :: b :: r, hn, he =>
          have hge : decide (((s.length : Nat) : Int) ≤ ((pre.length + 2 : Nat) : Int)) = false := by rw [he]; simp; omega
          have hia : s[pre.length + 1]? = some a := by rw [he, List.getElem?_append_right (by omega)]; simp
          have hib : s[pre.length + 2]? = some b := by rw [he, List.getElem?_append_right (by omega)]; simp
          have hp1 : (0 : Int) ≤ ((pre.length + 1 : Nat) : Int) := by omega
          have hp2 : (0 : Int) ≤ ((pre.length + 2 : Nat) : Int) := by omega
          have la := ix_le a
          have lb := ix_le b
          by_cases ga : ixN a < 0
          · have da : decide (ixN a < 0) = true := by simpa using ga
            have hn0 : rawO (c :: a :: b :: r) = none := by rw [rawO, if_neg hc, if_neg (fun e => by simp [badC, da] at e)]
            rw [rawRes_none hn0]
            simp only [E34, hlt, hix, hp, k71, hc0, hb37, hw2, hge, hw, hia, hib, hp1, hp2, natI, k72, da, EVT, EVD, ↓reduceIte, Nat.reduceEqDiff, reduceCtorEq, Nat.reduceAdd, Nat.reduceLeDiff, ne_eq, Nat.reduceLT, Int.reduceLT, Int.reduceLE, Int.reduceNeg]
          · have da : decide (ixN a < 0) = false := by simpa using ga
            by_cases gb : ixN b < 0
            · have db : decide (ixN b < 0) = true := by simpa using gb
              have hn0 : rawO (c :: a :: b :: r) = none := by rw [rawO, if_neg hc, if_neg (fun e => by simp [badC, db] at e)]
              rw [rawRes_none hn0]
              simp only [E34, hlt, hix, hp, k71, hc0, hb37, hw2, hge, hw, hia, hib, hp1, hp2, natI, k72, da, db, EVT, EVD, ↓reduceIte, Nat.reduceEqDiff, reduceCtorEq, Nat.reduceAdd, Nat.reduceLeDiff, ne_eq, Nat.reduceLT, Int.reduceLT, Int.reduceLE, Int.reduceNeg]
            · have db : decide (ixN b < 0) = false := by simpa using gb
              have w1 : IntKind.i64.wrap (16 * ixN a) = 16 * ixN a := wrapS (by omega) (by omega)
              have w2 : IntKind.i64.wrap (16 * ixN a + ixN b) = 16 * ixN a + ixN b := wrapS (by omega) (by omega)
              have w3 : IntKind.u8.wrap (16 * ixN a + ixN b) = (((refC a b).toNat : Nat) : Int) := by
                unfold refC
                rw [u8_of_nat (by omega), IntKind.wrap_u8]; omega
              by_cases gp : plainE (refC a b) = true
              · have hn0 : rawO (c :: a :: b :: r) = none := by rw [rawO, if_neg hc, if_neg (fun e => by simp [badC, gp] at e)]
                rw [rawRes_none hn0]
                simp only [E34, hlt, hix, hp, k71, hc0, hb37, hw2, hge, hw, hia, hib, hp1, hp2, natI, k72, da, db, w1, w2, w3, gp, EVT, EVD, ↓reduceIte, Nat.reduceEqDiff, reduceCtorEq, Nat.reduceAdd, Nat.reduceLeDiff, ne_eq, Nat.reduceLT, Int.reduceLT, Int.reduceLE, Int.reduceNeg]
              · have gp0 : plainE (refC a b) = false := by simpa using gp
                have hn1 : rawO (c :: a :: b :: r) = (rawO r).map (refC a b :: ·) := by rw [rawO, if_neg hc, if_pos ⟨h37, by simp [badC, da, db, gp0]⟩]
                have ih := loop34 s hs (acall tabS) rfl n r (pre ++ [c, a, b]) (out ++ [refC a b]) (by simp at hn ⊢; omega) (by simpa using he) (by simp; omega)
                rw [rawRes_step hn1] at ih
                simp only [List.length_append, List.length_cons, List.length_nil, Nat.zero_add, Nat.reduceAdd, List.map_append, List.map_cons, List.map_nil] at ih
                simp only [E34, hlt, hix, hp, k71, hc0, hb37, hw2, hge, hw, hia, hib, hp1, hp2, natI, k72, da, db, w1, w2, w3, gp0, hr, EVT, EVD, ↓reduceIte, Nat.reduceEqDiff, reduceCtorEq, Nat.reduceAdd, Nat.reduceLeDiff, ne_eq, Nat.reduceLT, Int.reduceLT, Int.reduceLE, Int.reduceNeg]
                simp only [E34, widU, hw2, hw3, EVT, EVD, ↓reduceIte, Nat.reduceEqDiff, reduceCtorEq, Nat.reduceAdd, Nat.reduceLeDiff, ne_eq, Nat.reduceLT, Int.reduceLT, Int.reduceLE, Int.reduceNeg]
                exact ih
      · have hb37 : (((c.toNat : Nat) : Int) != 37) = true := by
          simp only [bne_iff_ne, ne_eq]
          intro e
          have h3 : c.toNat = 37 := by omega
          exact h37 (UInt8.toNat_inj.1 (by rw [h3]; rfl))
        have hn0 : rawO (c :: r) = none := by
          match r with
          | [] => rw [rawO, if_neg hc]; intro a b r e; cases e
          | [a] => rw [rawO, if_neg hc]; intro a b r e; cases e
          | a :: b :: r => rw [rawO, if_neg hc, if_neg (fun e => h37 e.1)]
        rw [rawRes_none hn0]
        simp only [E34, hlt, hix, hp, k71, hc0, hb37, EVT, EVD, ↓reduceIte, Nat.reduceEqDiff, reduceCtorEq, Nat.reduceAdd, Nat.reduceLeDiff, ne_eq, Nat.reduceLT, Int.reduceLT, Int.reduceLE, Int.reduceNeg]
def refRaw (s : Bytes) : Bytes × Bool := rawRes [] s
theorem c34 (s : Bytes) (hs : s.length ≤ 1000000) : acall tabS 34 [.str s] [] = some (.tuple [.str (refRaw s).1, .bool (refRaw s).2], []) := by
  refine acall_ex rfl rfl rfl ?_
  have h0 := loop34 s hs (acall tabS) rfl s.length s [] [] (Nat.le_refl _) rfl (Nat.le_refl _)
  simp only [fn34, E34, EVT, EVD, ↓reduceIte, Nat.reduceEqDiff, reduceCtorEq, Nat.reduceAdd, Nat.reduceLeDiff, ne_eq, Nat.reduceLT, Int.reduceLT, Int.reduceLE, Int.reduceNeg]
  exact h0
theorem k34 (s : Bytes) (hs : s.length ≤ 1000000) (M : AMem) : callOp (acall tabS) 34 [.str s] M = some (.tuple [.str (refRaw s).1, .bool (refRaw s).2], M) := callOp0 (c34 s hs) rfl rfl rfl rfl rfl M
theorem refRaw_one (c : UInt8) : (refRaw [c]).2 = plainE c := by
  by_cases h : plainE c = true
  · unfold refRaw rawRes
    rw [rawO_plain h, h]
    rfl
  · have : rawO [c] = none := by rw [rawO, if_neg h]; intro a b r e; cases e
    unfold refRaw
    rw [rawRes_none this]
    simpa using h
theorem refC_facts : ∀ c : UInt8, refC (hexD (c.toNat / 16)) (hexD (c.toNat % 16)) = c ∧ (plainE c = false → badC (hexD (c.toNat / 16)) (hexD (c.toNat % 16)) = false) := all_bytes (by decide +kernel)
theorem rawO_esc : ∀ s : Bytes, rawO (escN s) = some s
  | [] => rfl
  | c :: r => by
    have ih := rawO_esc r
    have h := refC_facts c
    rw [show escN (c :: r) = escB c ++ escN r by simp [escN]]
    unfold escB
    split
    · rename_i hp
      rw [show [c] ++ escN r = c :: escN r from rfl, rawO_plain hp, ih]; rfl
    · rename_i hp
      have hp0 : plainE c = false := by simpa using hp
      rw [show [37, hexD (c.toNat / 16), hexD (c.toNat % 16)] ++ escN r = 37 :: hexD (c.toNat / 16) :: hexD (c.toNat % 16) :: escN r from rfl, rawO, if_neg (by rw [plain_not.2.2.2.2.2]; simp), if_pos ⟨rfl, h.2 hp0⟩, ih, h.1]
      rfl
theorem refRaw_esc (s : Bytes) : refRaw (escN s) = (s, true) := by
  unfold refRaw rawRes
  rw [rawO_esc]
  rfl
end Go.Proofs.YtannopdcbocngaaGreatDoor
namespace Go.Proofs.YtannopdcbocngaaGreatDoor
open Go Go.Abs
def Lb (c : UInt8) : Prop := plainE c = true ∨ c = 37 ∨ c = 61 ∨ c = 44
theorem num_plain : ∀ c : UInt8, (c = 45 ∨ (48 ≤ c.toNat ∧ c.toNat ≤ 57)) → plainE c = true := all_bytes (by decide +kernel)
theorem lb_facts : ∀ c : UInt8, Lb c → c ≠ 32 ∧ c ≠ 10 ∧ c ≠ 58 := by
  intro c h
  have h1 := (plain_facts c).1
  rcases h with h | rfl | rfl | rfl
  · exact ⟨(h1 h).2.1, (h1 h).2.2.2.2.1, (h1 h).2.2.2.2.2⟩
  · decide
  · decide
  · decide
theorem itoa_lb {n : Int} : ∀ c, c ∈ Lib.itoa n → Lb c := fun c h => .inl (num_plain c (itoa_byte c h))
theorem escN_lb {s : Bytes} : ∀ c, c ∈ escN s → Lb c := fun c h => (escN_byte c h).elim .inl (fun h => .inr (.inl h))
theorem firstN_lb (k : Int) : ∀ c, c ∈ firstN k → Lb c := fun c h => (firstN_byte k c h).elim .inl (fun h => .inl (num_plain c h))
theorem errN_lb (k : Int) : ∀ c, c ∈ errN k → Lb c := fun c h => (errN_byte k c h).elim .inl (fun h => .inl (num_plain c h))
theorem words_ne : ∀ w, w ∈ wordsL.tail → w ≠ [] := by decide
theorem firstN_ne (k : Int) : firstN k ≠ [] := by
  unfold firstN
  split
  · rename_i h
    have h1 : k.toNat - 1 + 1 < wordsL.length := by show k.toNat - 1 + 1 < 18; omega
    have h2 : wordsL.getD k.toNat [] ∈ wordsL.tail := by
      have e : k.toNat = k.toNat - 1 + 1 := by omega
      rw [List.getD_eq_getElem?_getD, e, ← List.getElem?_tail, List.getElem?_eq_getElem (by rw [List.length_tail]; omega)]
      exact List.getElem_mem _
    exact words_ne _ h2
  · simp
theorem errN_ne (k : Int) : errN k ≠ [] := by unfold errN; split <;> simp
def RowLb (p : Bytes × Bytes) : Prop := (∀ c, c ∈ p.1 → Lb c) ∧ ∀ c, c ∈ p.2 → Lb c
theorem body_lb {p : Bytes × Bytes} (h : RowLb p) : bodyR p ≠ [] ∧ ∀ c, c ∈ bodyR p → Lb c := by
  refine ⟨by simp [bodyR], fun c hc => ?_⟩
  unfold bodyR at hc
  rcases List.mem_append.1 hc with hc | hc
  · exact h.1 c hc
  · rcases List.mem_cons.1 hc with rfl | hc
    · exact .inr (.inr (.inl rfl))
    · exact h.2 c hc
theorem rowsF_lb {l : List Fld} (h : ∀ f, f ∈ l → (∀ c, c ∈ f.word → Lb c) ∧ ∀ c, c ∈ f.s → Lb c) : ∀ p, p ∈ rowsF l → RowLb p := by
  intro p hp
  obtain ⟨f, hf, rfl⟩ := List.mem_map.1 hp
  have h1 := h f (List.mem_filter.1 hf).1
  refine ⟨h1.1, fun c hc => ?_⟩
  simp only [valF] at hc
  split at hc
  · exact itoa_lb c hc
  · exact h1.2 c hc
theorem fld_words : ∀ w, w ∈ [wClient, wPath, wTo, wN, wM, wHandle, wData, wIno, wKind, wNames] → ∀ c, c ∈ w → plainE c = true := by decide +kernel
theorem word_lb {w : Bytes} (h : w ∈ [wClient, wPath, wTo, wN, wM, wHandle, wData, wIno, wKind, wNames]) {n : Int} {s : Bytes} (hs : ∀ c, c ∈ s → Lb c) : (∀ c, c ∈ (⟨w, n, s⟩ : Fld).word → Lb c) ∧ ∀ c, c ∈ (⟨w, n, s⟩ : Fld).s → Lb c := ⟨fun c hc => .inl (fld_words w h c hc), hs⟩
theorem no_lb : ∀ c : UInt8, c ∈ ([] : Bytes) → Lb c := fun c h => by cases h
theorem opFlds_lb (o : Op) : ∀ f, f ∈ opFlds o → (∀ c, c ∈ f.word → Lb c) ∧ ∀ c, c ∈ f.s → Lb c := by
  intro f hf
  simp only [opFlds, List.mem_cons, List.not_mem_nil, or_false] at hf
  rcases hf with rfl | rfl | rfl | rfl | rfl | rfl | rfl
  · exact word_lb (by simp) no_lb
  · exact word_lb (by simp) escN_lb
  · exact word_lb (by simp) escN_lb
  · exact word_lb (by simp) no_lb
  · exact word_lb (by simp) no_lb
  · exact word_lb (by simp) no_lb
  · exact word_lb (by simp) escN_lb
theorem ansFlds_lb (a : Ans) : ∀ f, f ∈ ansFlds a → (∀ c, c ∈ f.word → Lb c) ∧ ∀ c, c ∈ f.s → Lb c := by
  intro f hf
  simp only [ansFlds, List.mem_cons, List.not_mem_nil, or_false] at hf
  rcases hf with rfl | rfl | rfl | rfl
  · exact word_lb (by simp) no_lb
  · exact word_lb (by simp) no_lb
  · exact word_lb (by simp) no_lb
  · exact word_lb (by simp) no_lb
theorem rowsA_lb (a : Ans) : ∀ p, p ∈ rowsA a → RowLb p := by
  intro p hp
  unfold rowsA at hp
  rcases List.mem_append.1 hp with hp | hp
  · exact rowsF_lb (ansFlds_lb a) p hp
  · rcases List.mem_append.1 hp with hp | hp
    · unfold rowsNm at hp
      split at hp
      · simp only [List.mem_singleton] at hp
        subst hp
        refine ⟨fun c hc => .inl (fld_words wNames (by simp) c hc), fun c hc => ?_⟩
        rcases join_mem hc with rfl | ⟨x, hx, hc⟩
        · exact .inr (.inr (.inr rfl))
        · obtain ⟨y, _, rfl⟩ := List.mem_map.1 hx
          exact escN_lb c hc
      · cases hp
    · exact rowsF_lb (fun f hf => by simp only [List.mem_singleton] at hf; subst hf; exact word_lb (by simp) escN_lb) p hp
theorem line_words {first : Bytes} {R : List (Bytes × Bytes)} (h1 : first ≠ []) (h2 : ∀ c, c ∈ first → Lb c) (hR : ∀ p, p ∈ R → RowLb p) :
    (∀ w, w ∈ cutL 32 (first ++ R.flatMap fun p => 32 :: bodyR p) → w ≠ [] ∧ ∀ c, c ∈ w → Lb c) ∧ ∀ c, c ∈ first ++ (R.flatMap fun p => 32 :: bodyR p) → c = 32 ∨ Lb c := by
  have e : (R.flatMap fun p => 32 :: bodyR p) = (R.map bodyR).flatMap (32 :: ·) := by rw [List.flatMap_map]
  have hb : ∀ b, b ∈ R.map bodyR → b ≠ [] ∧ ∀ c, c ∈ b → Lb c := fun b hb => by
    obtain ⟨p, hp, rfl⟩ := List.mem_map.1 hb
    exact body_lb (hR p hp)
  have h : cutL 32 (first ++ (R.map bodyR).flatMap (32 :: ·)) = first :: R.map bodyR := cutL_rows _ _ (fun hc => (lb_facts _ (h2 _ hc)).1 rfl) (fun b hbm hc => (lb_facts _ ((hb b hbm).2 _ hc)).1 rfl)
  constructor
  · intro w hw
    rw [e, h] at hw
    rcases List.mem_cons.1 hw with rfl | hw
    · exact ⟨h1, h2⟩
    · exact hb w hw
  · intro c hc
    rcases List.mem_append.1 hc with hc | hc
    · exact .inr (h2 c hc)
    · obtain ⟨p, hp, hc⟩ := List.mem_flatMap.1 hc
      rcases List.mem_cons.1 hc with rfl | hc
      · exact .inl rfl
      · exact .inr ((body_lb (hR p hp)).2 c hc)
theorem opN_rows (o : Op) : opN o = firstN o.kind ++ (rowsF (opFlds o)).flatMap fun p => 32 :: bodyR p := by
  unfold opN lineN
  rw [fldsN_rows]
theorem opN_words (o : Op) : (∀ w, w ∈ cutL 32 (opN o) → w ≠ [] ∧ ∀ c, c ∈ w → Lb c) ∧ ∀ c, c ∈ opN o → c = 32 ∨ Lb c := by
  rw [opN_rows]
  exact line_words (firstN_ne _) (firstN_lb _) (rowsF_lb (opFlds_lb o))
theorem ansN_words (a : Ans) : (∀ w, w ∈ cutL 32 (ansN a) → w ≠ [] ∧ ∀ c, c ∈ w → Lb c) ∧ ∀ c, c ∈ ansN a → c = 32 ∨ Lb c := by
  rw [ansN_rows]
  exact line_words (errN_ne _) (errN_lb _) (rowsA_lb a)
theorem opN_10 (o : Op) : (10 : UInt8) ∉ opN o := fun h => ((opN_words o).2 _ h).elim (fun e => by revert e; decide) (fun h => (lb_facts _ h).2.1 rfl)
theorem ansN_10 (a : Ans) : (10 : UInt8) ∉ ansN a := fun h => ((ansN_words a).2 _ h).elim (fun e => by revert e; decide) (fun h => (lb_facts _ h).2.1 rfl)
theorem index_two {c d : UInt8} : ∀ {h : Bytes} (r : Bytes), c ∉ h → Lib.index (h ++ c :: d :: r) [c, d] = h.length
  | [], r, _ => by unfold Lib.index; simp [List.isPrefixOf]
  | x :: h, r, hc => by
    have ih := index_two (c := c) (d := d) (h := h) r (fun e => hc (List.mem_cons_of_mem _ e))
    have hx : (c == x) = false := by
      simp only [beq_eq_false_iff_ne, ne_eq]
      exact fun e => hc (by rw [e]; simp)
    rw [List.cons_append, Lib.index]
    have hp : ([c, d] : Bytes).isPrefixOf (x :: (h ++ c :: d :: r)) = false := by simp [List.isPrefixOf, hx]
    rw [hp, ih]
    have : ((h.length : Int) == -1) = false := by simp
    rw [this]
    simp
theorem cut_two {c d : UInt8} {h : Bytes} (r : Bytes) (hc : c ∉ h) : Lib.cut (h ++ c :: d :: r) [c, d] = (h, r, true) := by
  unfold Lib.cut
  rw [index_two r hc, if_pos (by omega), natI, List.take_left, show h.length + [c, d].length = (h ++ [c, d]).length by simp, show h ++ c :: d :: r = (h ++ [c, d]) ++ r by simp, List.drop_left]
theorem cut_one {c : UInt8} {w v : Bytes} (h : c ∉ w) : Lib.cut (w ++ c :: v) [c] = (w, v, true) := by
  rw [cut_cutL, if_pos (by simp), cutL_app v h]
  simp
def evLine (e : Event) : Bytes := if e.kind = 1 then [98, 101, 103, 105, 110] ++ 32 :: (Lib.itoa e.client) ++ 58 :: 32 :: opN e.op else [101, 110, 100] ++ 32 :: (Lib.itoa e.client) ++ 58 :: 32 :: ansN e.ans
def cleanN (e : Event) : Event := if e.kind = 1 then ⟨1, e.client, e.op, ansZ⟩ else ⟨2, e.client, opZ, e.ans⟩
def keepN (l : List Event) : List Event := l.flatMap fun e => if e.kind = 1 ∨ e.kind = 2 then [cleanN e] else []
theorem itoa58 (n : Int) : (58 : UInt8) ∉ Lib.itoa n := itoa_not (by decide)
theorem itoa10 (n : Int) : (10 : UInt8) ∉ Lib.itoa n := itoa_not (by decide)
theorem evOf_line {e : Event} (h : EvOk e) (hk : e.kind = 1 ∨ e.kind = 2) : evOf (evLine e) = (cleanN e, true) := by
  by_cases h1 : e.kind = 1
  · have hc : Lib.cut (evLine e) [58, 32] = ([98, 101, 103, 105, 110] ++ 32 :: Lib.itoa e.client, opN e.op, true) := by
      unfold evLine
      rw [if_pos h1]
      refine cut_two _ ?_
      simp only [List.mem_append, List.mem_cons, not_or, List.not_mem_nil]
      exact ⟨by decide, by decide, itoa58 _⟩
    have hc2 : Lib.cut ([98, 101, 103, 105, 110] ++ 32 :: Lib.itoa e.client) [32] = ([98, 101, 103, 105, 110], Lib.itoa e.client, true) := cut_one (by decide)
    unfold evOf evWord evClient evRest evHas
    rw [hc]
    simp only
    rw [hc2]
    simp only [if_true]
    rw [rdOp_back h.op, atoi_itoa h.client]
    unfold cleanN
    rw [if_pos h1]
    rfl
  · have h2 : e.kind = 2 := hk.resolve_left h1
    have hc : Lib.cut (evLine e) [58, 32] = ([101, 110, 100] ++ 32 :: Lib.itoa e.client, ansN e.ans, true) := by
      unfold evLine
      rw [if_neg h1]
      refine cut_two _ ?_
      simp only [List.mem_append, List.mem_cons, not_or, List.not_mem_nil]
      exact ⟨by decide, by decide, itoa58 _⟩
    have hc2 : Lib.cut ([101, 110, 100] ++ 32 :: Lib.itoa e.client) [32] = ([101, 110, 100], Lib.itoa e.client, true) := cut_one (by decide)
    unfold evOf evWord evClient evRest evHas
    rw [hc]
    simp only
    rw [hc2]
    simp only [show ¬ (([101, 110, 100] : Bytes) = [98, 101, 103, 105, 110]) by decide, if_false, if_true]
    rw [rdAns_back h.ans, atoi_itoa h.client]
    unfold cleanN
    rw [if_neg h1]
    rfl
theorem evN_line {e : Event} (hk : e.kind = 1 ∨ e.kind = 2) : evN e = evLine e ++ [10] := by
  unfold evN evLine
  by_cases h1 : e.kind = 1
  · rw [if_pos h1, if_pos h1]; simp
  · rw [if_neg h1, if_neg h1, if_pos (hk.resolve_left h1)]; simp
theorem evN_none {e : Event} (hk : ¬ (e.kind = 1 ∨ e.kind = 2)) : evN e = [] := by
  unfold evN
  rw [if_neg (fun h => hk (.inl h)), if_neg (fun h => hk (.inr h))]
theorem evLine_10 (e : Event) : (10 : UInt8) ∉ evLine e := by
  unfold evLine
  split
  · simp only [List.mem_append, List.mem_cons, not_or, List.not_mem_nil]
    exact ⟨⟨by decide, by decide, itoa10 _⟩, by decide, by decide, opN_10 _⟩
  · simp only [List.mem_append, List.mem_cons, not_or, List.not_mem_nil]
    exact ⟨⟨by decide, by decide, itoa10 _⟩, by decide, by decide, ansN_10 _⟩
theorem evLine_ne (e : Event) : evLine e ≠ [] := by unfold evLine; split <;> simp
theorem evGo_hist : ∀ {l : List Event}, (∀ e, e ∈ l → EvOk e) → evGo (cutL 10 (histN l)) = some (keepN l)
  | [], _ => rfl
  | e :: r, h => by
    have ih := evGo_hist (l := r) (fun x hx => h x (List.mem_cons_of_mem _ hx))
    have e1 : histN (e :: r) = evN e ++ histN r := by simp [histN]
    have e2 : keepN (e :: r) = (if e.kind = 1 ∨ e.kind = 2 then [cleanN e] else []) ++ keepN r := by simp [keepN]
    rw [e1, e2]
    by_cases hk : e.kind = 1 ∨ e.kind = 2
    · rw [evN_line hk, List.append_assoc, show [10] ++ histN r = 10 :: histN r from rfl, cutL_app _ (evLine_10 e), evGo, if_neg (evLine_ne e), evOf_line (h e (by simp)) hk, if_pos rfl, ih, if_pos hk]
      rfl
    · rw [evN_none hk, if_neg hk]
      simpa using ih
theorem evN_clean {e : Event} (hk : e.kind = 1 ∨ e.kind = 2) : evN (cleanN e) = evN e := by
  unfold cleanN evN
  by_cases h1 : e.kind = 1
  · simp [h1]
  · have h2 : e.kind = 2 := hk.resolve_left h1
    simp [h2]
theorem histN_keep : ∀ l : List Event, histN (keepN l) = histN l
  | [] => rfl
  | e :: r => by
    have ih := histN_keep r
    have e1 : histN (e :: r) = evN e ++ histN r := by simp [histN]
    have e2 : keepN (e :: r) = (if e.kind = 1 ∨ e.kind = 2 then [cleanN e] else []) ++ keepN r := by simp [keepN]
    rw [e1, e2]
    by_cases hk : e.kind = 1 ∨ e.kind = 2
    · rw [if_pos hk]
      rw [show histN ([cleanN e] ++ keepN r) = evN (cleanN e) ++ histN (keepN r) by simp [histN], ih, evN_clean hk]
    · rw [if_neg hk, evN_none hk]
      simpa using ih
theorem rdHist_back {l : List Event} (h : ∀ e, e ∈ l → EvOk e) : rdHist (histN l) = (keepN l, 0) := by
  unfold rdHist
  rw [evGo_hist h]
  simp only
  rw [histN_keep, if_pos rfl]
theorem histN_app (a b : List Event) : histN (a ++ b) = histN a ++ histN b := by simp [histN]
theorem count_hist : ∀ l : List Event, (histN l).count 10 = (keepN l).length
  | [] => rfl
  | e :: r => by
    have ih := count_hist r
    have e1 : histN (e :: r) = evN e ++ histN r := by simp [histN]
    have e2 : keepN (e :: r) = (if e.kind = 1 ∨ e.kind = 2 then [cleanN e] else []) ++ keepN r := by simp [keepN]
    rw [e1, e2, List.count_append, List.length_append, ih]
    by_cases hk : e.kind = 1 ∨ e.kind = 2
    · rw [if_pos hk, evN_line hk, List.count_append, List.count_eq_zero.2 (evLine_10 e)]
      rfl
    · rw [if_neg hk, evN_none hk]
      rfl
theorem sameEvs_self : ∀ l : List Event, sameEvs l l = true
  | [] => rfl
  | x :: r => by rw [sameEvs, sameEvs_self r]; simp [sameEvB]
end Go.Proofs.YtannopdcbocngaaGreatDoor
namespace Go.Proofs.YtannopdcbocngaaGreatDoor
open Go Go.Abs
attribute [local irreducible] exK opsK opK gK forkK kr acall callOp owhen obind
theorem EvI.cut {e : Event} (h : EvI e) : EvOk (cutEvN e) := ⟨h.client, h.op.cut.1, h.ans.cut.1⟩
theorem fewN_ok {l : List Event} (h : ∀ e, e ∈ l → EvI e) : (∀ e, e ∈ fewN l → EvOk e) ∧ (fewN l).length ≤ 20 := by
  refine ⟨fun e he => ?_, by simp [fewN]; omega⟩
  obtain ⟨x, hx, rfl⟩ := List.mem_map.1 he
  exact (h x (List.mem_of_mem_take hx)).cut
theorem keepN_ok {l : List Event} (h : ∀ e, e ∈ l → EvOk e) : ∀ e, e ∈ keepN l → EvOk e := by
  intro e he
  obtain ⟨x, hx, hm⟩ := List.mem_flatMap.1 he
  split at hm
  · simp only [List.mem_singleton] at hm
    subst hm
    unfold cleanN
    split
    · exact ⟨(h x hx).client, (h x hx).op, ansZ_ok⟩
    · exact ⟨(h x hx).client, opZ_ok, (h x hx).ans⟩
  · cases hm
theorem keepN_len (l : List Event) : (keepN l).length ≤ l.length := by
  induction l with
  | nil => exact Nat.le_refl _
  | cons e r ih =>
    have e2 : keepN (e :: r) = (if e.kind = 1 ∨ e.kind = 2 then [cleanN e] else []) ++ keepN r := by simp [keepN]
    rw [e2, List.length_append, List.length_cons]
    split <;> simp <;> omega
theorem keepN_snoc (l : List Event) (e : Event) : keepN (l ++ [e]) = keepN l ++ (if e.kind = 1 ∨ e.kind = 2 then [cleanN e] else []) := by simp [keepN]
theorem loop7a (l m all : List Event) (hl : all.length ≤ 100000) (C : CallF) (hC : C = acall tabS) : ∀ (r pre : List Event), all = pre ++ r → ∀ (fn : List ARes) (base : Nat) (k : List K),
    exK C fn base (.block 0 :: k) (.loop [0, 1, 5, 6, 7, 8] lb7_0) [(0, .slice .sh (l.map eEv)), (1, .slice .sh (m.map eEv)), (5, .bool true), (6, .slice (.own 0) ((keepN pre).map eEv)), (7, .slice (.own 1) (all.map eEv)), (8, eI pre.length)] [.tick 17 (keepN pre).length, .tick 17 all.length] =
    kr C fn base k ⟨.normal, [(0, .slice .sh (l.map eEv)), (1, .slice .sh (m.map eEv)), (5, .bool true), (6, .slice (.own 0) ((keepN all).map eEv)), (7, .slice (.own 1) (all.map eEv)), (8, eI all.length), (28, .bool false)], [.tick 17 (keepN all).length, .tick 17 all.length]⟩
  | [], pre, he, fn, base, k => by
    subst hC
    have hpre : pre = all := by simpa using he.symm
    subst hpre
    have hlt : decide ((pre.length : Int) < pre.length) = false := by simp
    rw [exK_loop]
    simp only [E7, List.length_map, hlt, EVT, EVD, ↓reduceIte, Nat.reduceEqDiff, reduceCtorEq, Nat.reduceAdd, Nat.reduceLeDiff, ne_eq, Nat.reduceLT, Int.reduceLT, Int.reduceLE, Int.reduceNeg]
  | e :: r, pre, he, fn, base, k => by
    subst hC
    have hl' : pre.length < all.length := by rw [he]; simp
    have hlt : decide ((pre.length : Int) < all.length) = true := by simpa using hl'
    have hix : all[pre.length]? = some e := by rw [he]; simp
    have hn : (0 : Int) ≤ pre.length := by omega
    have hw : IntKind.i64.wrap ((pre.length : Int) + 1) = ((pre.length + 1 : Nat) : Int) := by rw [wrapS (by omega) (by omega)]; simp
    have hkl := keepN_len pre
    have hr := roomO (a := (keepN pre).length + 1) (b := 200) (by omega) (by omega)
    have ih := loop7a l m all hl (acall tabS) rfl r (pre ++ [e]) (by simpa using he) fn base k
    rw [keepN_snoc] at ih
    rw [exK_loop]
    simp only [E7, eEvC, List.length_map, hlt, hix, hn, EVT, EVD, ↓reduceIte, Nat.reduceEqDiff, reduceCtorEq, Nat.reduceAdd, Nat.reduceLeDiff, ne_eq, Nat.reduceLT, Int.reduceLT, Int.reduceLE, Int.reduceNeg]
    refine fork_split (fun hb => ?_) (fun hb => ?_)
    · have h1 : e.kind = 1 := by simpa using hb
      have hb2 : (e.kind == 2) = false := by rw [h1]; rfl
      rw [if_pos (.inl h1)] at ih
      have hcl : cleanN e = ⟨1, e.client, e.op, ansZ⟩ := by unfold cleanN; rw [if_pos h1]
      rw [hcl] at ih
      simp only [List.length_append, List.length_cons, List.length_nil, Nat.zero_add, List.map_append, List.map_cons, List.map_nil, eEvC, ansZ] at ih
      simp only [E7, hb, hb2, hr, List.length_map, EVT, EVD, ↓reduceIte, Nat.reduceEqDiff, reduceCtorEq, Nat.reduceAdd, Nat.reduceLeDiff, ne_eq, Nat.reduceLT, Int.reduceLT, Int.reduceLE, Int.reduceNeg]
      simp only [E7, hb2, hw, wid_evs, List.length_map, EVT, EVD, ↓reduceIte, Nat.reduceEqDiff, reduceCtorEq, Nat.reduceAdd, Nat.reduceLeDiff, ne_eq, Nat.reduceLT, Int.reduceLT, Int.reduceLE, Int.reduceNeg]
      exact ih
    · simp only [E7, hb, EVT, EVD, ↓reduceIte, Nat.reduceEqDiff, reduceCtorEq, Nat.reduceAdd, Nat.reduceLeDiff, ne_eq, Nat.reduceLT, Int.reduceLT, Int.reduceLE, Int.reduceNeg]
      refine fork_split (fun hc => ?_) (fun hc => ?_)
      · have h2 : e.kind = 2 := by simpa using hc
        have h1 : ¬ e.kind = 1 := by rw [h2]; decide
        rw [if_pos (.inr h2)] at ih
        have hcl : cleanN e = ⟨2, e.client, opZ, e.ans⟩ := by unfold cleanN; rw [if_neg h1]
        rw [hcl] at ih
        simp only [List.length_append, List.length_cons, List.length_nil, Nat.zero_add, List.map_append, List.map_cons, List.map_nil, eEvC, opZ] at ih
        simp only [E7, hc, hr, List.length_map, EVT, EVD, ↓reduceIte, Nat.reduceEqDiff, reduceCtorEq, Nat.reduceAdd, Nat.reduceLeDiff, ne_eq, Nat.reduceLT, Int.reduceLT, Int.reduceLE, Int.reduceNeg]
        simp only [E7, hw, wid_evs, List.length_map, EVT, EVD, ↓reduceIte, Nat.reduceEqDiff, reduceCtorEq, Nat.reduceAdd, Nat.reduceLeDiff, ne_eq, Nat.reduceLT, Int.reduceLT, Int.reduceLE, Int.reduceNeg]
        exact ih
      · have h1 : ¬ (e.kind = 1 ∨ e.kind = 2) := fun h => h.elim (fun h => by simp [h] at hb) (fun h => by simp [h] at hc)
        rw [if_neg h1] at ih
        simp only [List.length_append, List.length_cons, List.length_nil, Nat.zero_add, List.append_nil] at ih
        simp only [E7, hc, hw, EVT, EVD, ↓reduceIte, Nat.reduceEqDiff, reduceCtorEq, Nat.reduceAdd, Nat.reduceLeDiff, ne_eq, Nat.reduceLT, Int.reduceLT, Int.reduceLE, Int.reduceNeg]
        exact ih
theorem loop7b (l m a b : List Event) (er : Int) (na nb : Nat) (s : Bytes) (hs : s.length ≤ 1000000000) (C : CallF) (hC : C = acall tabS) : ∀ (r pre : Bytes), s = pre ++ r → ∀ (fn : List ARes) (base : Nat) (k : List K),
    exK C fn base (.block 2 :: k) (.loop [0, 1, 5, 6, 10, 11, 12, 13, 14] lb7_1) [(0, .slice .sh (l.map eEv)), (1, .slice .sh (m.map eEv)), (5, .bool true), (6, .slice (.own 0) (a.map eEv)), (10, .str s), (11, .slice .sh (b.map eEv)), (12, eI er), (13, eI (pre.count 10 : Nat)), (14, eI pre.length)] [.tick 17 na, .tick 17 nb] =
    kr C fn base k ⟨.normal, [(0, .slice .sh (l.map eEv)), (1, .slice .sh (m.map eEv)), (5, .bool true), (6, .slice (.own 0) (a.map eEv)), (10, .str s), (11, .slice .sh (b.map eEv)), (12, eI er), (13, eI (s.count 10 : Nat)), (14, eI s.length), (67, .bool false)], [.tick 17 na, .tick 17 nb]⟩
  | [], pre, he, fn, base, k => by
    subst hC
    have hpre : pre = s := by simpa using he.symm
    subst hpre
    have hlt : decide ((pre.length : Int) < pre.length) = false := by simp
    rw [exK_loop]
    simp only [E7, hlt, EVT, EVD, ↓reduceIte, Nat.reduceEqDiff, reduceCtorEq, Nat.reduceAdd, Nat.reduceLeDiff, ne_eq, Nat.reduceLT, Int.reduceLT, Int.reduceLE, Int.reduceNeg]
  | c :: r, pre, he, fn, base, k => by
    subst hC
    have hl' : pre.length < s.length := by rw [he]; simp
    have hlt : decide ((pre.length : Int) < s.length) = true := by simpa using hl'
    have hix : s[pre.length]? = some c := by rw [he]; simp
    have hn : (0 : Int) ≤ pre.length := by omega
    have hcl : pre.count 10 ≤ pre.length := List.count_le_length
    have hw : IntKind.i64.wrap ((pre.length : Int) + 1) = ((pre.length + 1 : Nat) : Int) := by rw [wrapS (by omega) (by omega)]; simp
    have hw2 : IntKind.i64.wrap (((pre.count 10 : Nat) : Int) + 1) = ((pre.count 10 + 1 : Nat) : Int) := by rw [wrapS (by omega) (by omega)]; simp
    have ih := loop7b l m a b er na nb s hs (acall tabS) rfl r (pre ++ [c]) (by simpa using he) fn base k
    rw [List.count_append] at ih
    rw [exK_loop]
    simp only [E7, hlt, hix, hn, EVT, EVD, ↓reduceIte, Nat.reduceEqDiff, reduceCtorEq, Nat.reduceAdd, Nat.reduceLeDiff, ne_eq, Nat.reduceLT, Int.reduceLT, Int.reduceLE, Int.reduceNeg]
    by_cases h10 : c = 10
    · have hb : (((c.toNat : Nat) : Int) == 10) = true := by rw [h10]; rfl
      rw [h10, show List.count (10 : UInt8) [10] = 1 from rfl, List.length_append] at ih
      simp only [List.length_cons, List.length_nil, Nat.zero_add] at ih
      simp only [E7, hb, hw2, EVT, EVD, ↓reduceIte, Nat.reduceEqDiff, reduceCtorEq, Nat.reduceAdd, Nat.reduceLeDiff, ne_eq, Nat.reduceLT, Int.reduceLT, Int.reduceLE, Int.reduceNeg]
      simp only [E7, hw, EVT, EVD, ↓reduceIte, Nat.reduceEqDiff, reduceCtorEq, Nat.reduceAdd, Nat.reduceLeDiff, ne_eq, Nat.reduceLT, Int.reduceLT, Int.reduceLE, Int.reduceNeg]
      exact ih
    · have hb : (((c.toNat : Nat) : Int) == 10) = false := by
        simp only [beq_eq_false_iff_ne, ne_eq]
        intro e
        have h3 : c.toNat = 10 := by omega
        exact h10 (UInt8.toNat_inj.1 (by rw [h3]; rfl))
      have h0 : List.count (10 : UInt8) [c] = 0 := List.count_eq_zero.2 (by simpa using fun e => h10 e.symm)
      rw [h0, List.length_append] at ih
      simp only [List.length_cons, List.length_nil, Nat.zero_add, Nat.add_zero] at ih
      simp only [E7, hb, EVT, EVD, ↓reduceIte, Nat.reduceEqDiff, reduceCtorEq, Nat.reduceAdd, Nat.reduceLeDiff, ne_eq, Nat.reduceLT, Int.reduceLT, Int.reduceLE, Int.reduceNeg]
      simp only [E7, hw, EVT, EVD, ↓reduceIte, Nat.reduceEqDiff, reduceCtorEq, Nat.reduceAdd, Nat.reduceLeDiff, ne_eq, Nat.reduceLT, Int.reduceLT, Int.reduceLE, Int.reduceNeg]
      exact ih
theorem cutL_count (c : UInt8) : ∀ s : Bytes, (cutL c s).length = s.count c + 1
  | [] => rfl
  | x :: r => by
    have ih := cutL_count c r
    by_cases h : x = c
    · subst h
      rw [cutL, if_pos rfl, List.count_cons_self, List.length_cons, ih]
    · rw [cutL, if_neg h, List.count_cons_of_ne (fun e => h e), List.length_cons, List.length_tail, ih]
      omega
theorem evN_small {e : Event} (h : EvI e) : (evN (cutEvN e)).length ≤ 20100 := by
  have h1 := h.op.cut
  have h2 := h.ans.cut
  have l1 := opN_small h1.1 h1.2.1 h1.2.2.1 h1.2.2.2
  have l2 := ansN_small h2.1 h2.2.1 h2.2.2.1 h2.2.2.2
  have l3 := itoa_le h.client
  unfold evN
  rw [show (cutEvN e).kind = e.kind from rfl, show (cutEvN e).client = e.client from rfl, show (cutEvN e).op = cutOpN e.op from rfl, show (cutEvN e).ans = cutAnsN e.ans from rfl]
  split
  · simp; omega
  · split
    · simp; omega
    · simp
theorem histN_small : ∀ {l : List Event}, (∀ e, e ∈ l → (evN e).length ≤ 20100) → (histN l).length ≤ 20100 * l.length
  | [], _ => by simp [histN]
  | e :: r, h => by
    have h1 := h e (by simp)
    have h2 := histN_small fun g hg => h g (List.mem_cons_of_mem _ hg)
    simp only [histN, List.flatMap_cons, List.length_append, List.length_cons] at h2 ⊢
    omega
theorem fewN_small {l : List Event} (h : ∀ e, e ∈ l → EvI e) : ∀ e, e ∈ fewN l → (evN e).length ≤ 20100 := by
  intro e he
  obtain ⟨x, hx, rfl⟩ := List.mem_map.1 he
  exact evN_small (h x (List.mem_of_mem_take hx))
theorem c7 (l m : List Event) (hl : ∀ e, e ∈ l → EvI e) (hm : ∀ e, e ∈ m → EvI e) : acall tabS 7 [.slice .sh (l.map eEv), .slice .sh (m.map eEv)] [] = some (.bool true, []) := by
  refine acall_ex rfl rfl rfl ?_
  have h20 := k20 l
  have h20' := k20 m
  obtain ⟨fok, fl⟩ := fewN_ok hl
  obtain ⟨gok, gl⟩ := fewN_ok hm
  have fs := fewN_small hl
  have gs := fewN_small hm
  obtain ⟨f, hf⟩ : ∃ f, fewN l = f := ⟨_, rfl⟩
  obtain ⟨g, hg⟩ : ∃ g, fewN m = g := ⟨_, rfl⟩
  rw [hf] at h20 fok fl fs
  rw [hg] at h20' gok gl gs
  have aok : ∀ e, e ∈ f ++ g → EvOk e := fun e he => (List.mem_append.1 he).elim (fok e) (gok e)
  have asm : ∀ e, e ∈ f ++ g → (evN e).length ≤ 20100 := fun e he => (List.mem_append.1 he).elim (fs e) (gs e)
  have al : (f ++ g).length ≤ 40 := by simp; omega
  have kok := keepN_ok aok
  have kl := keepN_len (f ++ g)
  have hsl := histN_small asm
  have hct := count_hist (f ++ g)
  have h19 := kS19 (f ++ g) aok (by omega)
  have h19a := kS19 f fok (by omega)
  have h19b := kS19 g gok (by omega)
  have h19k := kS19 (keepN (f ++ g)) kok (by omega)
  have h28 := kS28 (histN (f ++ g)) (by omega) (by rw [cutL_count]; omega)
  rw [rdHist_back aok] at h28
  have h32 := k32 (keepN (f ++ g)) (keepN (f ++ g)) kok kok (by omega)
  rw [sameEvs_self] at h32
  have hlp := loop7a l m (f ++ g) (by omega) (acall tabS) rfl (f ++ g) [] rfl
  have hlb := loop7b l m (keepN (f ++ g)) (keepN (f ++ g)) 0 (keepN (f ++ g)).length (f ++ g).length (histN (f ++ g)) (by omega) (acall tabS) rfl (histN (f ++ g)) [] rfl
  rw [hct] at hlb
  rw [histN_keep] at h19k
  have r1 := roomO (a := f.length) (b := 200) (by omega) (by omega)
  have r2 := roomO (a := f.length + g.length) (b := 200) (by simp at al; omega) (by omega)
  have happ := histN_app f g
  have hlf : (histN f).length ≤ 20100 * f.length := histN_small fs
  have hlg : (histN g).length ≤ 20100 * g.length := histN_small gs
  have mx := max_lt ((histN f).length + (histN g).length) (by omega)
  have k0 : keepN [] = [] := rfl
  rw [List.length_append] at hlp hlb
  simp only [k0, List.map_nil, List.length_nil, List.map_append] at hlp hlb
  obtain ⟨s, hs⟩ : ∃ s, histN (f ++ g) = s := ⟨_, rfl⟩
  obtain ⟨kp, hkp⟩ : ∃ s, keepN (f ++ g) = s := ⟨_, rfl⟩
  rw [hs] at h19 h28 hlb h19k happ
  rw [hkp] at h28 h32 hlp hlb h19k
  simp only [List.map_append] at h19
  simp only [fn7, E7, kS10, h20, h20', r1, r2, wid_evs, List.length_map, List.length_append, List.length_nil, Nat.zero_add, EVT, EVD, ↓reduceIte, Nat.reduceEqDiff, reduceCtorEq, Nat.reduceAdd, Nat.reduceLeDiff, ne_eq, Nat.reduceLT, Int.reduceLT, Int.reduceLE, Int.reduceNeg]
  refine (hlp _ _ _).trans ?_
  simp only [E7, h19, h28, EVT, EVD, ↓reduceIte, Nat.reduceEqDiff, reduceCtorEq, Nat.reduceAdd, Nat.reduceLeDiff, ne_eq, Nat.reduceLT, Int.reduceLT, Int.reduceLE, Int.reduceNeg]
  refine (hlb _ _ _).trans ?_
  have hk1 : (((kp.length : Nat) : Int) == ((kp.length : Nat) : Int)) = true := by simp
  have hs1 : (s == histN f ++ histN g) = true := by rw [happ]; simp
  have hs2 : (s == s) = true := by simp
  simp only [E7, h20, h20', h32, h19a, h19b, h19k, mx, hs1, hs2, hk1, List.length_map, show ((0 : Int) == 0) = true from rfl, EVT, EVD, ↓reduceIte, Nat.reduceEqDiff, reduceCtorEq, Nat.reduceAdd, Nat.reduceLeDiff, ne_eq, Nat.reduceLT, Int.reduceLT, Int.reduceLE, Int.reduceNeg]
end Go.Proofs.YtannopdcbocngaaGreatDoor
namespace Go.Proofs.YtannopdcbocngaaGreatDoor
open Go Go.Abs Go.ChangeShapes Go.WideShapes Go.ChangeAt Go.RowKit Go.Lib
theorem reportHists_witness (os : Os) {H : Type} (enc : TypeId × Value → H) :
    (OpenSpec.ofChange Rows.reportHistsSpec).preRow enc Tryz.prog Tryz.f7 Rows.reportHistsRow.domain false Rows.reportHistsRow.laid ((laidWorld os).forCall (fun _ _ => 0) ⟨#[], #[.slice none 0 0, .slice none 0 0], []⟩).memory #[.slice none 0 0, .slice none 0 0] := by
  have hw : (DataW.whole enc Tryz.prog ((laidWorld os).forCall (fun _ _ => 0) ⟨#[], #[.slice none 0 0, .slice none 0 0], []⟩).memory Tryz.f7.params.toList (OpenSpec.ofChange Rows.reportHistsSpec).vars false (#[.slice none 0 0, .slice none 0 0] : Array Value).toList 8).map (fun x => (x.1, x.2.1)) =
      some ([.nil, .nil], []) := by kernel_rfl
  obtain ⟨⟨x1, x2, x3⟩, hx, hx1⟩ := Option.map_eq_some_iff.1 hw
  simp only [Prod.mk.injEq] at hx1
  obtain ⟨rfl, rfl⟩ := hx1
  exact OpenSpec.preRow_of_cond 8 hx (by kernel_rfl) (fun k hk => by cases hk) (by kernel_rfl) (laid_met os _)
theorem reportHists_law : ∀ (x0 : List Event) (x1 : List Event), (∀ e, e ∈ x0 → EvI e) → (∀ e, e ∈ x1 → EvI e) → acall tabS 7 [.slice .sh (x0.map eEv), .slice .sh (x1.map eEv)] [] = some (.bool true, []) := fun x0 x1 => c7 x0 x1
set_option maxRecDepth 100000 in
set_option maxHeartbeats 2000000 in
theorem reportHists_lifted (os : Os) (started : os.Started) (H : Type) (enc : TypeId × Value → H) (F : Stop.Interp) :
    ReturnsInHanded {} Tryz.checked os 7 .any ((OpenSpec.ofChange Rows.reportHistsSpec).preRow enc Tryz.prog Tryz.f7 Rows.reportHistsRow.domain false Rows.reportHistsRow.laid)
      (((OpenSpec.ofChange Rows.reportHistsSpec).at F).post enc Tryz.prog Tryz.f7 false Rows.reportHistsRow.fresh Rows.reportHistsRow.handsOn Rows.reportHistsRow.again) := by
  refine returnsInHanded_of_row (C := Tryz.checked) (s := OpenSpec.ofChange Rows.reportHistsSpec) ownK started (by kernel_rfl) Tryz.func7
    (witness_row_atRef (enc := enc) (C := Tryz.checked) false (laidWorld os) #[.slice none 0 0, .slice none 0 0] rfl (by kernel_rfl) (by kernel_rfl) (by kernel_rfl) (reportHists_witness os enc)) ?_
  intro W base args ds gs before hval0 hW _ _ _ hL hsh _
  have hval : ∀ (j : Nat) t v, Tryz.f7.params[j]? = some t → args[j]? = some v → Value.okWide Tryz.prog W .any base t v := hval0
  have hW' := hW
  have hlt0 := hW.lt
  obtain ⟨p, q, hA0, hV0, rfl, _, _⟩ := hW
  have hA : DataW.TrodAll enc Tryz.prog W 0 (fun _ => true) true Tryz.f7.params.toList args.toList ds p := hA0
  have hpar : Tryz.f7.params = #[29, 29] := rfl
  have u4 : Tryz.prog.underlying 4 = some .bool := by kernel_rfl
  have hA1 := hA
  rw [hpar] at hA hval
  obtain ⟨v0, vs1, d0, ds1, p0, q0, hvs0, rfl, rfl, h0, hA⟩ := trodAll_cons hA
  obtain ⟨v1, vs2, d1, ds2, p1, q1, rfl, rfl, rfl, h1, hA⟩ := trodAll_cons hA
  obtain ⟨rfl, rfl, rfl⟩ := trodAll_nil hA
  obtain rfl := two_of hvs0
  obtain ⟨rfl, rfl⟩ := trodVars_none hV0
  obtain ⟨m0, l0, r0⟩ := evs_val h0 (hval 0 29 _ rfl rfl)
  obtain ⟨m1, l1, r1⟩ := evs_val h1 (hval 1 29 _ rfl rfl)
  have hlt : ∀ x ∈ (p0 ++ (p1 ++ ([])) : List MemPlace), x.block < W.heap.size := fun x hx => hlt0 x (by simpa using hx)
  refine (true_calls soundS (reportHists_law m0 m1 l0 l1) W (globL hL hsh) _ rfl ?_).mono ?_
  · intro i c v hc hv
    match i with
    | 0 => cases hc; cases hv; exact r0
    | 1 => cases hc; cases hv; exact r1
    | i + 2 => cases hc
  · rintro e W' ⟨rfl, hb⟩
    exact ⟨_, rfl, ⟨_, _, _, [], _, [], hW', trodAll_mk1 (shut_bool u4 true), trodAll_stays hb hA1 (by rw [hpar]; intro t ht; simp at ht; rcases ht with rfl <;> exact ⟨by kernel_rfl, of_decide_eq_true (by kernel_rfl)⟩) hlt, rfl, hb.frame _, fun h => by cases h⟩⟩
theorem reportHists_row : Rows.ReportHistsSaid :=
  OpenClaim.holds_of_cond 7 Tryz.f7 rfl rfl rfl rfl rfl rfl rfl ⟨rfl, rfl, rfl, rfl, rfl⟩ rfl rfl rfl rfl rfl (by kernel_rfl) Tryz.func7 (by kernel_rfl)
    (of_decide_eq_true (by kernel_rfl)) (by unfold Func.isWrapper; rw [if_neg (of_decide_eq_false (by kernel_rfl))]; exact ⟨rfl, rfl⟩)
    (fun os started H enc _ F0 => by rw [OpenClaim.pre_eq_preRow]; exact reportHists_lifted os started H enc F0)
theorem reportHists_card : Rows.ReportHistsCardSaid :=
  Claim7.holds_tied_plain_at .later [] [.data, .data, .data, .data, .sentinel, .sentinel, .data, .pinned] true (true, "6ab42aecae4c7621001a14ab3450ecf26b822058164905cd807fd0cc9b42dd19") true
    reportHists_row (fun _ h => by cases h) (by kernel_rfl) (fun _ h => by cases h) reportHists_row_tie rfl ⟨rfl, rfl⟩ (by kernel_rfl) rfl
    (fun f fn hf hfn => by
      obtain rfl : f = 7 := Option.some.inj ((show Tryz.prog.funcNamed Tryz.f7.name = some 7 by kernel_rfl).symm.trans hf) |>.symm
      obtain rfl : fn = Tryz.f7 := (Option.some.inj (Tryz.func7.symm.trans hfn)).symm
      exact ⟨by kernel_rfl, fun j t ht => by
        have hw : ∀ t, t ∈ Tryz.f7.params.toList → Tryz.prog.wantsStandIn t = false := by
          rw [show Tryz.f7.params.toList = [29, 29] from rfl]
          intro t ht
          simp at ht
          rcases ht with rfl <;> kernel_rfl
        exact hw t (by simpa using Array.mem_of_getElem? ht)⟩)
    (by kernel_rfl)
end Go.Proofs.YtannopdcbocngaaGreatDoor
