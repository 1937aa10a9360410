/-
  ReportReadsCardSaid: proved of the given program, for every input that the row allows: see the last text of this claim. Conditions: none beside the row's own.
-/
import Derived.Test.YtannopdcbocngaaGreatDoorTie
import Derived.Test.YtannopdcbocngaaGreatDoorBaE
set_option linter.unusedSimpArgs false
set_option linter.unusedVariables false
set_option linter.unusedSectionVars false
namespace Go.Proofs.YtannopdcbocngaaGreatDoor
open Go Go.Abs Go.ChangeShapes Go.WideShapes Go.RowKit Go.Deep
structure OpI (o : Op) : Prop where
  kind : okI o.kind
  client : okI o.client
  n : okI o.n
  m : okI o.m
  handle : okI o.handle
structure AnsI (a : Ans) : Prop where
  err : okI a.err
  ino : okI a.ino
  kind : okI a.kind
  n : okI a.n
  m : okI a.m
structure EvI (e : Event) : Prop where
  kind : okI e.kind
  client : okI e.client
  op : OpI e.op
  ans : AnsI e.ans
theorem u_int : Tryz.prog.underlying 3 = some (.int .i64) := by kernel_rfl
theorem u_errno : Tryz.prog.underlying 25 = some (.int .i64) := by kernel_rfl
theorem u_str : Tryz.prog.underlying 9 = some .string := by kernel_rfl
theorem u_u8 : Tryz.prog.underlying 5 = some (.int .u8) := by kernel_rfl
theorem u_bytes : Tryz.prog.underlying 22 = some (.slice 5) := by kernel_rfl
theorem u_strs : Tryz.prog.underlying 26 = some (.slice 9) := by kernel_rfl
theorem u_evs : Tryz.prog.underlying 29 = some (.slice 57) := by kernel_rfl
theorem c_one : Tryz.prog.cellsOf 3 = 1 ∧ Tryz.prog.cellsOf 25 = 1 ∧ Tryz.prog.cellsOf 9 = 1 ∧ Tryz.prog.cellsOf 5 = 1 ∧ Tryz.prog.cellsOf 22 = 1 ∧ Tryz.prog.cellsOf 26 = 1 ∧ Tryz.prog.cellsOf 24 = 8 ∧ Tryz.prog.cellsOf 28 = 7 ∧ Tryz.prog.cellsOf 57 = 17 := ⟨by kernel_rfl, by kernel_rfl, by kernel_rfl, by kernel_rfl, by kernel_rfl, by kernel_rfl, by kernel_rfl, by kernel_rfl, by kernel_rfl⟩
section
variable {H : Type} {enc : TypeId × Value → H}
set_option maxRecDepth 100000 in
theorem op_rep {w : World} {fuel : Nat} {cs : List Value} {x : DataW H × List MemPlace} (h : DataW.trod enc Tryz.prog w 0 (fun _ => true) true fuel 24 cs = some x) : ∃ o : Op, OpI o ∧ CellsRep w (eOpC .sh o) cs := by
  obtain ⟨xs, n, _, _, hl, hxl, hf⟩ := DataW.trod_struct Tryz.underlying24 h
  have h0 : cs.length = 8 := by rw [hl]; kernel_rfl
  match cs, h0 with
  | [v0, v1, v2, v3, v4, v5, v6, v7], _ =>
    match xs, hxl with
    | [y0, y1, y2, y3, y4, y5, y6, y7], _ =>
      have e0 : DataW.trod enc Tryz.prog w 0 (fun _ => true) true n 3 ((List.drop 0 [v0, v1, v2, v3, v4, v5, v6, v7]).take (Tryz.prog.cellsOf 3)) = some y0 := hf 0 _ rfl
      rw [c_one.1] at e0
      have e1 : DataW.trod enc Tryz.prog w 0 (fun _ => true) true n 3 ((List.drop 1 [v0, v1, v2, v3, v4, v5, v6, v7]).take (Tryz.prog.cellsOf 3)) = some y1 := hf 1 _ rfl
      rw [c_one.1] at e1
      have e2 : DataW.trod enc Tryz.prog w 0 (fun _ => true) true n 9 ((List.drop 2 [v0, v1, v2, v3, v4, v5, v6, v7]).take (Tryz.prog.cellsOf 9)) = some y2 := hf 2 _ rfl
      rw [c_one.2.2.1] at e2
      have e3 : DataW.trod enc Tryz.prog w 0 (fun _ => true) true n 9 ((List.drop 3 [v0, v1, v2, v3, v4, v5, v6, v7]).take (Tryz.prog.cellsOf 9)) = some y3 := hf 3 _ rfl
      rw [c_one.2.2.1] at e3
      have e4 : DataW.trod enc Tryz.prog w 0 (fun _ => true) true n 3 ((List.drop 4 [v0, v1, v2, v3, v4, v5, v6, v7]).take (Tryz.prog.cellsOf 3)) = some y4 := hf 4 _ rfl
      rw [c_one.1] at e4
      have e5 : DataW.trod enc Tryz.prog w 0 (fun _ => true) true n 3 ((List.drop 5 [v0, v1, v2, v3, v4, v5, v6, v7]).take (Tryz.prog.cellsOf 3)) = some y5 := hf 5 _ rfl
      rw [c_one.1] at e5
      have e6 : DataW.trod enc Tryz.prog w 0 (fun _ => true) true n 3 ((List.drop 6 [v0, v1, v2, v3, v4, v5, v6, v7]).take (Tryz.prog.cellsOf 3)) = some y6 := hf 6 _ rfl
      rw [c_one.1] at e6
      have e7 : DataW.trod enc Tryz.prog w 0 (fun _ => true) true n 22 ((List.drop 7 [v0, v1, v2, v3, v4, v5, v6, v7]).take (Tryz.prog.cellsOf 22)) = some y7 := hf 7 _ rfl
      rw [c_one.2.2.2.2.1] at e7
      obtain ⟨a0, i0, r0⟩ := int_rep (v := v0) u_int e0
      obtain ⟨a1, i1, r1⟩ := int_rep (v := v1) u_int e1
      obtain ⟨a2, r2⟩ := str_rep (v := v2) u_str e2
      obtain ⟨a3, r3⟩ := str_rep (v := v3) u_str e3
      obtain ⟨a4, i4, r4⟩ := int_rep (v := v4) u_int e4
      obtain ⟨a5, i5, r5⟩ := int_rep (v := v5) u_int e5
      obtain ⟨a6, i6, r6⟩ := int_rep (v := v6) u_int e6
      obtain ⟨a7, r7⟩ := bytes_rep (v := v7) u_bytes u_u8 c_one.2.2.2.1 e7
      exact ⟨⟨a0, a1, a2, a3, a4, a5, a6, a7⟩, ⟨i0, i1, i4, i5, i6⟩, (CellsRep.app (.one r0) (CellsRep.app (.one r1) (CellsRep.app (.one r2) (CellsRep.app (.one r3) (CellsRep.app (.one r4) (CellsRep.app (.one r5) (CellsRep.app (.one r6) (.one r7))))))))⟩
set_option maxRecDepth 100000 in
theorem ans_rep {w : World} {fuel : Nat} {cs : List Value} {x : DataW H × List MemPlace} (h : DataW.trod enc Tryz.prog w 0 (fun _ => true) true fuel 28 cs = some x) : ∃ o : Ans, AnsI o ∧ CellsRep w (eAnsC .sh .sh o) cs := by
  obtain ⟨xs, n, _, _, hl, hxl, hf⟩ := DataW.trod_struct Tryz.underlying28 h
  have h0 : cs.length = 7 := by rw [hl]; kernel_rfl
  match cs, h0 with
  | [v0, v1, v2, v3, v4, v5, v6], _ =>
    match xs, hxl with
    | [y0, y1, y2, y3, y4, y5, y6], _ =>
      have e0 : DataW.trod enc Tryz.prog w 0 (fun _ => true) true n 25 ((List.drop 0 [v0, v1, v2, v3, v4, v5, v6]).take (Tryz.prog.cellsOf 25)) = some y0 := hf 0 _ rfl
      rw [c_one.2.1] at e0
      have e1 : DataW.trod enc Tryz.prog w 0 (fun _ => true) true n 3 ((List.drop 1 [v0, v1, v2, v3, v4, v5, v6]).take (Tryz.prog.cellsOf 3)) = some y1 := hf 1 _ rfl
      rw [c_one.1] at e1
      have e2 : DataW.trod enc Tryz.prog w 0 (fun _ => true) true n 3 ((List.drop 2 [v0, v1, v2, v3, v4, v5, v6]).take (Tryz.prog.cellsOf 3)) = some y2 := hf 2 _ rfl
      rw [c_one.1] at e2
      have e3 : DataW.trod enc Tryz.prog w 0 (fun _ => true) true n 3 ((List.drop 3 [v0, v1, v2, v3, v4, v5, v6]).take (Tryz.prog.cellsOf 3)) = some y3 := hf 3 _ rfl
      rw [c_one.1] at e3
      have e4 : DataW.trod enc Tryz.prog w 0 (fun _ => true) true n 3 ((List.drop 4 [v0, v1, v2, v3, v4, v5, v6]).take (Tryz.prog.cellsOf 3)) = some y4 := hf 4 _ rfl
      rw [c_one.1] at e4
      have e5 : DataW.trod enc Tryz.prog w 0 (fun _ => true) true n 26 ((List.drop 5 [v0, v1, v2, v3, v4, v5, v6]).take (Tryz.prog.cellsOf 26)) = some y5 := hf 5 _ rfl
      rw [c_one.2.2.2.2.2.1] at e5
      have e6 : DataW.trod enc Tryz.prog w 0 (fun _ => true) true n 22 ((List.drop 6 [v0, v1, v2, v3, v4, v5, v6]).take (Tryz.prog.cellsOf 22)) = some y6 := hf 6 _ rfl
      rw [c_one.2.2.2.2.1] at e6
      obtain ⟨a0, i0, r0⟩ := int_rep (v := v0) u_errno e0
      obtain ⟨a1, i1, r1⟩ := int_rep (v := v1) u_int e1
      obtain ⟨a2, i2, r2⟩ := int_rep (v := v2) u_int e2
      obtain ⟨a3, i3, r3⟩ := int_rep (v := v3) u_int e3
      obtain ⟨a4, i4, r4⟩ := int_rep (v := v4) u_int e4
      obtain ⟨a5, r5⟩ := strs_rep (v := v5) u_strs u_str c_one.2.2.1 e5
      obtain ⟨a6, r6⟩ := bytes_rep (v := v6) u_bytes u_u8 c_one.2.2.2.1 e6
      exact ⟨⟨a0, a1, a2, a3, a4, a5, a6⟩, ⟨i0, i1, i2, i3, i4⟩, (CellsRep.app (.one r0) (CellsRep.app (.one r1) (CellsRep.app (.one r2) (CellsRep.app (.one r3) (CellsRep.app (.one r4) (CellsRep.app (.one r5) (.one r6)))))))⟩
set_option maxRecDepth 100000 in
theorem ev_rep {w : World} {fuel : Nat} {cs : List Value} {x : DataW H × List MemPlace} (h : DataW.trod enc Tryz.prog w 0 (fun _ => true) true fuel 57 cs = some x) : ∃ o : Event, EvI o ∧ CellsRep w (eEvC o) cs := by
  obtain ⟨xs, n, _, _, hl, hxl, hf⟩ := DataW.trod_struct Tryz.underlying57 h
  have h0 : cs.length = 17 := by rw [hl]; kernel_rfl
  match cs, h0 with
  | [v0, v1, v2, v3, v4, v5, v6, v7, v8, v9, v10, v11, v12, v13, v14, v15, v16], _ =>
    match xs, hxl with
    | [y0, y1, y2, y3], _ =>
      have e0 : DataW.trod enc Tryz.prog w 0 (fun _ => true) true n 3 ((List.drop 0 [v0, v1, v2, v3, v4, v5, v6, v7, v8, v9, v10, v11, v12, v13, v14, v15, v16]).take (Tryz.prog.cellsOf 3)) = some y0 := hf 0 _ rfl
      rw [c_one.1] at e0
      have e1 : DataW.trod enc Tryz.prog w 0 (fun _ => true) true n 3 ((List.drop 1 [v0, v1, v2, v3, v4, v5, v6, v7, v8, v9, v10, v11, v12, v13, v14, v15, v16]).take (Tryz.prog.cellsOf 3)) = some y1 := hf 1 _ rfl
      rw [c_one.1] at e1
      have e2 : DataW.trod enc Tryz.prog w 0 (fun _ => true) true n 24 ((List.drop 2 [v0, v1, v2, v3, v4, v5, v6, v7, v8, v9, v10, v11, v12, v13, v14, v15, v16]).take (Tryz.prog.cellsOf 24)) = some y2 := hf 2 _ rfl
      rw [c_one.2.2.2.2.2.2.1] at e2
      have e3 : DataW.trod enc Tryz.prog w 0 (fun _ => true) true n 28 ((List.drop 10 [v0, v1, v2, v3, v4, v5, v6, v7, v8, v9, v10, v11, v12, v13, v14, v15, v16]).take (Tryz.prog.cellsOf 28)) = some y3 := hf 3 _ rfl
      rw [c_one.2.2.2.2.2.2.2.1] at e3
      obtain ⟨a0, i0, r0⟩ := int_rep (v := v0) u_int e0
      obtain ⟨a1, i1, r1⟩ := int_rep (v := v1) u_int e1
      obtain ⟨a2, i2, r2⟩ := op_rep e2
      obtain ⟨a3, i3, r3⟩ := ans_rep e3
      exact ⟨⟨a0, a1, a2, a3⟩, ⟨i0, i1, i2, i3⟩, (CellsRep.app (.one r0) (CellsRep.app (.one r1) (CellsRep.app r2 r3)))⟩
set_option maxRecDepth 100000 in
theorem op_val {w : World} {r : Reach} {b : Nat} {v : Value} {d : DataW H} {ps : List MemPlace} (h : DataW.Trod enc Tryz.prog w 0 (fun _ => true) true 24 v d ps) (hv : Value.okWide Tryz.prog w r b 24 v) : ∃ o : Op, OpI o ∧ Rep jX0 [] w (eOp .sh o) v := by
  obtain ⟨cs, rfl, o, ho, hr⟩ := whole_rep Tryz.underlying24 h hv (fun n cs y hy => op_rep hy)
  exact ⟨o, ho, agg_rep hr⟩
set_option maxRecDepth 100000 in
theorem ans_val {w : World} {r : Reach} {b : Nat} {v : Value} {d : DataW H} {ps : List MemPlace} (h : DataW.Trod enc Tryz.prog w 0 (fun _ => true) true 28 v d ps) (hv : Value.okWide Tryz.prog w r b 28 v) : ∃ o : Ans, AnsI o ∧ Rep jX0 [] w (eAns .sh .sh o) v := by
  obtain ⟨cs, rfl, o, ho, hr⟩ := whole_rep Tryz.underlying28 h hv (fun n cs y hy => ans_rep hy)
  exact ⟨o, ho, agg_rep hr⟩
set_option maxRecDepth 100000 in
theorem evs_val {w : World} {r : Reach} {b : Nat} {v : Value} {d : DataW H} {ps : List MemPlace} (h : DataW.Trod enc Tryz.prog w 0 (fun _ => true) true 29 v d ps) (hv : Value.okWide Tryz.prog w r b 29 v) : ∃ l : List Event, (∀ e, e ∈ l → EvI e) ∧ Rep jX0 [] w (.slice .sh (l.map eEv)) v := by
  obtain ⟨a, len, cap, rfl⟩ := okWide_slice u_evs hv
  obtain ⟨fuel, hf⟩ := h
  obtain ⟨l, h1, h2⟩ := rows_rep (eC := eEvC) (mk := eEv) (P := EvI) u_evs c_one.2.2.2.2.2.2.2.2 (by omega) (fun _ => rfl) (fun _ => rfl) (fun n cs y _ hy => ev_rep hy) hf
  exact ⟨l, h1, .plain h2⟩
set_option maxRecDepth 100000 in
theorem str_val {w : World} {r : Reach} {b : Nat} {v : Value} {d : DataW H} {ps : List MemPlace} (h : DataW.Trod enc Tryz.prog w 0 (fun _ => true) true 9 v d ps) (hv : Value.okWide Tryz.prog w r b 9 v) : ∃ s : Bytes, Rep jX0 [] w (.str s) v := by
  obtain ⟨s, rfl, _⟩ := Go.ChangeMaps.open_string u_str hv h
  have : Go.Abs.bs s.data.toList = s := by apply ByteArray.ext; simp [Go.Abs.bs]
  have h := RepP.str (w := w) (saf := SafW w) s.data.toList
  rw [this] at h
  exact ⟨_, .plain h⟩
end
theorem OpI.cut {o : Op} (h : OpI o) : OpOk (cutOpN o) ∧ (cutOpN o).path.length ≤ 300 ∧ (cutOpN o).dest.length ≤ 300 ∧ (cutOpN o).data.length ≤ 300 :=
  ⟨⟨h.kind, h.client, by simp [cutOpN]; omega, by simp [cutOpN]; omega, h.n, h.m, h.handle, by simp [cutOpN]; omega⟩, by simp [cutOpN]; omega, by simp [cutOpN]; omega, by simp [cutOpN]; omega⟩
theorem sumL_100 : ∀ l : List Bytes, sumL (l.map (List.take 100)) ≤ 100 * l.length
  | [] => by simp [sumL]
  | x :: r => by
    have := sumL_100 r
    simp only [sumL, List.map_cons, List.sum_cons, List.length_cons, List.length_take] at this ⊢
    omega
theorem AnsI.cut {a : Ans} (h : AnsI a) : AnsOk (cutAnsN a) ∧ (cutAnsN a).names.length ≤ 40 ∧ sumL (cutAnsN a).names ≤ 4000 ∧ (cutAnsN a).data.length ≤ 300 := by
  have h1 : (cutAnsN a).names.length ≤ 40 := by simp [cutAnsN]; omega
  have h2 : sumL (cutAnsN a).names ≤ 4000 := by
    have := sumL_100 (a.names.take 40)
    have h3 : (a.names.take 40).length ≤ 40 := by simp; omega
    simp only [cutAnsN]; omega
  have h3 : (cutAnsN a).data.length ≤ 300 := by simp [cutAnsN]; omega
  exact ⟨⟨h.err, h.ino, h.kind, h.n, h.m, by omega, by omega, by omega⟩, h1, h2, h3⟩
theorem opN_small {o : Op} (h : OpOk o) (g1 : o.path.length ≤ 300) (g2 : o.dest.length ≤ 300) (g3 : o.data.length ≤ 300) : (opN o).length ≤ 4000 := by
  have h0 := firstN_le h.kind
  have h1 := fldN_le' (f := ⟨wClient, o.client, []⟩) h.client
  have h2 := fldN_le' (f := ⟨wPath, 0, escN o.path⟩) okI_zero
  have h3 := fldN_le' (f := ⟨wTo, 0, escN o.dest⟩) okI_zero
  have h4 := fldN_le' (f := ⟨wN, o.n, []⟩) h.n
  have h5 := fldN_le' (f := ⟨wM, o.m, []⟩) h.m
  have h6 := fldN_le' (f := ⟨wHandle, o.handle, []⟩) h.handle
  have h7 := fldN_le' (f := ⟨wData, 0, escN o.data⟩) okI_zero
  have e1 := escN_le o.path; have e2 := escN_le o.dest; have e3 := escN_le o.data
  simp only [wClient, wPath, wTo, wN, wM, wHandle, wData, List.length_cons, List.length_nil] at h1 h2 h3 h4 h5 h6 h7
  simp only [opN, lineN, opFlds, fldsN, List.flatMap_cons, List.flatMap_nil, List.length_append, List.length_nil, wClient, wPath, wTo, wN, wM, wHandle, wData]
  omega
theorem namesN_le2 (l : List Bytes) : (namesN l).length ≤ 3 * sumL l + l.length + 10 := by
  have h1 := join_le (l.map escN)
  have h2 := sumL_esc l
  unfold namesN
  split
  · simp only [wNames, List.length_cons, List.length_append, List.length_nil, List.length_map] at h1 ⊢
    omega
  · simp
theorem ansN_small {a : Ans} (h : AnsOk a) (g1 : a.names.length ≤ 40) (g2 : sumL a.names ≤ 4000) (g3 : a.data.length ≤ 300) : (ansN a).length ≤ 20000 := by
  have h0 := ansHead_le h
  have h1 := namesN_le2 a.names
  have h2 := fldN_le' (f := ⟨wData, 0, escN a.data⟩) okI_zero
  have e1 := escN_le a.data
  simp only [wData, List.length_cons, List.length_nil] at h2
  unfold ansN
  rw [lineN]
  simp only [fldsN, List.flatMap_cons, List.flatMap_nil, List.length_append, List.length_nil, wData]
  omega
theorem kS12 (o : Op) (M : AMem) : callOp (acall tabS) 12 [eOp .sh o] M = some (eOp .sh (cutOpN o), M) := callOp0 (tab_leS (c12 o)) rfl rfl rfl rfl rfl M
theorem kS13 (a : Ans) (M : AMem) : callOp (acall tabS) 13 [eAns .sh .sh a] M = some (eAns .sh .sh (cutAnsN a), M) := callOp0 (tab_leS (c13 a)) rfl rfl rfl rfl rfl M
end Go.Proofs.YtannopdcbocngaaGreatDoor
namespace Go.Proofs.YtannopdcbocngaaGreatDoor
open Go Go.Abs
def isB (x : Option (AVal × AMem)) (b : Bool) : Bool := match x with
  | some (.bool c, []) => c == b
  | _ => false
theorem isB_eq {x : Option (AVal × AMem)} {b : Bool} (h : isB x b = true) : x = some (.bool b, []) := by
  unfold isB at h
  split at h
  · have := beq_iff_eq.1 h; subst this; rfl
  · cases h
def isI (x : Option (AVal × AMem)) (n : Int) : Bool := match x with
  | some (.int .i64 m, []) => m == n
  | _ => false
theorem isI_eq {x : Option (AVal × AMem)} {b : Int} (h : isI x b = true) : x = some (eI b, []) := by
  unfold isI at h
  split at h
  · have := beq_iff_eq.1 h; subst this; rfl
  · cases h
def ixN (c : UInt8) : Int := Lib.indexByte hexL c
theorem c71 (c : UInt8) : acall tabS 71 [.int .u8 c.toNat] [] = some (.bool (plainE c), []) := by
  have h : (List.range 256).all (fun n => isB (rcall tabR 4 8 71 [.int .u8 (n : Int)] []) (plainE (UInt8.ofNat n))) = true := by kernel_rfl
  have h1 := List.all_eq_true.1 h c.toNat (List.mem_range.2 c.toNat_lt)
  have h2 := isB_eq h1
  rw [UInt8.ofNat_toNat] at h2
  exact run_sound h2
theorem k71 (c : UInt8) (M : AMem) : callOp (acall tabS) 71 [.int .u8 c.toNat] M = some (.bool (plainE c), M) := callOp0 (c71 c) rfl rfl rfl rfl rfl M
theorem c72 (c : UInt8) : acall tabS 72 [.int .u8 c.toNat] [] = some (eI (ixN c), []) := by
  have h : (List.range 256).all (fun n => isI (rcall tabR 4 8 72 [.int .u8 (n : Int)] []) (ixN (UInt8.ofNat n))) = true := by kernel_rfl
  have h1 := List.all_eq_true.1 h c.toNat (List.mem_range.2 c.toNat_lt)
  have h2 := isI_eq h1
  rw [UInt8.ofNat_toNat] at h2
  exact run_sound h2
theorem k72 (c : UInt8) (M : AMem) : callOp (acall tabS) 72 [.int .u8 c.toNat] M = some (eI (ixN c), M) := callOp0 (c72 c) rfl rfl rfl rfl rfl M
attribute [local irreducible] exK opsK opK gK forkK kr acall callOp owhen obind
theorem mid_cut (p w r : Bytes) : ((p ++ (w ++ r)).take (p.length + w.length)).drop p.length = w := by
  rw [show p.length + w.length = (p ++ w).length by simp, ← List.append_assoc, List.take_left, List.drop_left]
theorem loop33 (s : Bytes) (c : UInt8) (hs : s.length ≤ 1000000) (C : CallF) (hC : C = acall tabS) : ∀ (r p w : Bytes) (out : List Bytes), s = p ++ (w ++ r) → c ∉ w → out.length ≤ p.length → ∀ (u : List Bytes), out ++ cutL c (w ++ r) = u → ∀ (fn : List ARes) (base : Nat) (k : List K), ∃ z : AVal,
    exK C fn base (.block 0 :: k) (.loop [0, 1, 5, 6, 7] lb33_0) [(0, .str s), (1, .int .u8 c.toNat), (5, .slice (.own 0) (out.map .str)), (6, eI p.length), (7, eI (p.length + w.length : Nat))] [.tick 1 out.length] =
    kr C fn base k ⟨.normal, [(0, .str s), (1, .int .u8 c.toNat), (5, .slice (.own 0) (u.map .str)), (6, z), (7, eI (s.length + 1 : Nat)), (12, .bool false)], [.tick 1 u.length]⟩
  | [], p, w, out, he, hw, ho, u, hu, fn, base, k => by
    subst hC
    have hl : s.length = p.length + w.length := by rw [he]; simp
    have hu' : u = out ++ [w] := by rw [← hu, List.append_nil, cutL_noc hw]
    subst hu'
    have hle : decide (((p.length + w.length : Nat) : Int) ≤ (s.length : Int)) = true := by simp; omega
    have hlt : decide (((p.length + w.length + 1 : Nat) : Int) ≤ (s.length : Int)) = false := by simp; omega
    have heq : (((p.length + w.length : Nat) : Int) == (s.length : Int)) = true := by simp; omega
    have hsl : (s.take (p.length + w.length)).drop p.length = w := by rw [he]; exact mid_cut p w []
    have hok : (((p.length + w.length : Nat) : Int) ≤ ((s.length : Nat) : Int) ∧ ((p.length : Nat) : Int) ≤ ((p.length + w.length : Nat) : Int)) = True := by simp only [eq_iff_iff, iff_true]; omega
    have hw1 : IntKind.i64.wrap (((p.length + w.length : Nat) : Int) + 1) = ((p.length + w.length + 1 : Nat) : Int) := by rw [wrapS (by omega) (by omega)]; simp
    have hr := roomO (a := out.length + 1) (b := 16) (by omega) (by omega)
    refine ⟨eI ((p.length + w.length + 1 : Nat) : Int), ?_⟩
    rw [exK_loop]
    simp only [E33, hle, heq, hsl, hok, hw1, hr, natI, EVT, EVD, ↓reduceIte, Nat.reduceEqDiff, reduceCtorEq, Nat.reduceAdd, Nat.reduceLeDiff, ne_eq, Nat.reduceLT, Int.reduceLT, Int.reduceLE, Int.reduceNeg]
    simp only [E33, widS, hw1, EVT, EVD, ↓reduceIte, Nat.reduceEqDiff, reduceCtorEq, Nat.reduceAdd, Nat.reduceLeDiff, ne_eq, Nat.reduceLT, Int.reduceLT, Int.reduceLE, Int.reduceNeg]
    rw [exK_loop, show (s.length + 1 : Nat) = p.length + w.length + 1 by omega]
    simp only [E33, hlt, List.map_append, List.map_cons, List.map_nil, List.length_append, List.length_cons, List.length_nil, Nat.zero_add, EVT, EVD, ↓reduceIte, Nat.reduceEqDiff, reduceCtorEq, Nat.reduceAdd, Nat.reduceLeDiff, ne_eq, Nat.reduceLT, Int.reduceLT, Int.reduceLE, Int.reduceNeg]
  | x :: r, p, w, out, he, hw, ho, u, hu, fn, base, k => by
    subst hC
    have hl : s.length = p.length + w.length + (r.length + 1) := by rw [he]; simp; omega
    have hle : decide (((p.length + w.length : Nat) : Int) ≤ (s.length : Int)) = true := by simp; omega
    have heq : (((p.length + w.length : Nat) : Int) == (s.length : Int)) = false := by simp; omega
    have hix : s[p.length + w.length]? = some x := by rw [he, ← List.append_assoc, List.getElem?_append_right (by simp)]; simp
    have hsl : (s.take (p.length + w.length)).drop p.length = w := by rw [he]; exact mid_cut p w _
    have hok : (((p.length + w.length : Nat) : Int) ≤ ((s.length : Nat) : Int) ∧ ((p.length : Nat) : Int) ≤ ((p.length + w.length : Nat) : Int)) = True := by simp only [eq_iff_iff, iff_true]; omega
    have hw1 : IntKind.i64.wrap (((p.length + w.length : Nat) : Int) + 1) = ((p.length + w.length + 1 : Nat) : Int) := by rw [wrapS (by omega) (by omega)]; simp
    have hr := roomO (a := out.length + 1) (b := 16) (by omega) (by omega)
    have hn : (0 : Int) ≤ ((p.length + w.length : Nat) : Int) := by omega
    by_cases hx : x = c
    · subst hx
      have hb : (((x.toNat : Nat) : Int) == ((x.toNat : Nat) : Int)) = true := by simp
      obtain ⟨z, ih⟩ := loop33 s x hs (acall tabS) rfl r (p ++ (w ++ [x])) [] (out ++ [w]) (by rw [he]; simp) (by simp) (by simp; omega) u (by rw [← hu, cutL_app _ hw]; simp) fn base k
      refine ⟨z, ?_⟩
      simp only [List.length_append, List.length_cons, List.length_nil, Nat.zero_add, Nat.add_zero, List.map_append, List.map_cons, List.map_nil, ← Nat.add_assoc] at ih
      rw [exK_loop]
      simp only [E33, hle, heq, hix, hn, hb, EVT, EVD, ↓reduceIte, Nat.reduceEqDiff, reduceCtorEq, Nat.reduceAdd, Nat.reduceLeDiff, ne_eq, Nat.reduceLT, Int.reduceLT, Int.reduceLE, Int.reduceNeg]
      simp only [E33, hsl, hok, hw1, hr, natI, EVT, EVD, ↓reduceIte, Nat.reduceEqDiff, reduceCtorEq, Nat.reduceAdd, Nat.reduceLeDiff, ne_eq, Nat.reduceLT, Int.reduceLT, Int.reduceLE, Int.reduceNeg]
      simp only [E33, widS, hw1, EVT, EVD, ↓reduceIte, Nat.reduceEqDiff, reduceCtorEq, Nat.reduceAdd, Nat.reduceLeDiff, ne_eq, Nat.reduceLT, Int.reduceLT, Int.reduceLE, Int.reduceNeg]
      exact ih
    · have hb : (((x.toNat : Nat) : Int) == ((c.toNat : Nat) : Int)) = false := by
        simp only [beq_eq_false_iff_ne, ne_eq, Int.natCast_inj]
        exact fun e => hx (UInt8.toNat_inj.1 e)
      obtain ⟨z, ih⟩ := loop33 s c hs (acall tabS) rfl r p (w ++ [x]) out (by rw [he]; simp) (by simp [hw]; exact fun e => hx e.symm) ho u (by rw [← hu]; simp) fn base k
      refine ⟨z, ?_⟩
      simp only [List.length_append, List.length_cons, List.length_nil, Nat.zero_add, ← Nat.add_assoc] at ih
      rw [exK_loop]
      simp only [E33, hle, heq, hix, hn, hb, EVT, EVD, ↓reduceIte, Nat.reduceEqDiff, reduceCtorEq, Nat.reduceAdd, Nat.reduceLeDiff, ne_eq, Nat.reduceLT, Int.reduceLT, Int.reduceLE, Int.reduceNeg]
      simp only [E33, hw1, EVT, EVD, ↓reduceIte, Nat.reduceEqDiff, reduceCtorEq, Nat.reduceAdd, Nat.reduceLeDiff, ne_eq, Nat.reduceLT, Int.reduceLT, Int.reduceLE, Int.reduceNeg]
      exact ih
theorem c33 (s : Bytes) (c : UInt8) (hs : s.length ≤ 1000000) : acall tabS 33 [.str s, .int .u8 c.toNat] [] = some (.slice .sh ((cutL c s).map .str), []) := by
  refine acall_ex rfl rfl rfl ?_
  have h0 := fun fn base k => loop33 s c hs (acall tabS) rfl s [] [] [] rfl (by simp) (by simp) _ rfl fn base k
  simp only [List.length_nil, List.nil_append, List.map_nil, Nat.add_zero] at h0
  simp only [fn33, E33, EVT, EVD, ↓reduceIte, Nat.reduceEqDiff, reduceCtorEq, Nat.reduceAdd, Nat.reduceLeDiff, ne_eq, Nat.reduceLT, Int.reduceLT, Int.reduceLE, Int.reduceNeg]
  obtain ⟨z, h1⟩ := h0 [.tmp 4] 0 [.seq q33_4]
  refine h1.trans ?_
  simp only [E33, EVT, EVD, ↓reduceIte, Nat.reduceEqDiff, reduceCtorEq, Nat.reduceAdd, Nat.reduceLeDiff, ne_eq, Nat.reduceLT, Int.reduceLT, Int.reduceLE, Int.reduceNeg]
theorem k33 (s : Bytes) (c : UInt8) (hs : s.length ≤ 1000000) (M : AMem) : callOp (acall tabS) 33 [.str s, .int .u8 c.toNat] M = some (.slice .sh ((cutL c s).map .str), M) := callOp0 (c33 s c hs) rfl rfl rfl rfl rfl M
end Go.Proofs.YtannopdcbocngaaGreatDoor
namespace Go.Proofs.YtannopdcbocngaaGreatDoor
open Go Go.Abs
attribute [local irreducible] exK opsK opK gK forkK kr acall callOp owhen obind
theorem bytes_one (c : UInt8) : bytesOf [.int .u8 ((c.toNat : Nat) : Int)] = some [c] := bytes_u8 [c]
theorem z10 : ((10 : Int) = 0) = False := by simp
theorem z16 : ((16 : Int) = 0) = False := by simp
def numT (m : Nat) (s : Bytes) : Bytes := if m = 0 ∧ s ≠ [] then s else Lib.decDigits m ++ s
theorem numT_step {m : Nat} {s : Bytes} (h : 0 < m ∨ s = []) : numT m s = numT (m / 10) (UInt8.ofNat (48 + m % 10) :: s) := by
  have h0 : ¬ (m = 0 ∧ s ≠ []) := fun e => by
    rcases h with h | h
    · omega
    · exact e.2 h
  unfold numT
  rw [if_neg h0]
  by_cases h1 : m < 10
  · rw [if_pos ⟨by omega, by simp⟩, Lib.decDigits, dif_pos h1, show m % 10 = m by omega]
    rfl
  · rw [if_neg (fun e => by omega), Lib.decDigits, dif_neg h1]
    simp
theorem loop37 (n : Int) (C : CallF) (hC : C = acall tabS) : ∀ (f m : Nat), m < f → m < 18446744073709551616 → ∀ (s u : Bytes), (s = [] → m + 1 < f) → u.length ≤ 1000 → numT m s = u → ∀ (fn : List ARes) (base : Nat) (k : List K), 
    exK C fn base (.block 0 :: k) (.loop [0, 3, 4] lb37_0) [(0, eI n), (3, .int .u64 m), (4, .str s)] [] =
    kr C fn base k ⟨.normal, [(0, eI n), (3, .int .u64 (0 : Int)), (4, .str u), (16, .bool false)], []⟩
  | 0, m, hf, _, _, _, _, _, _, _, _, _ => by omega
  | f + 1, m, hf, hm, s, u, hf2, hu1, hu, fn, base, k => by
    subst hC
    by_cases hg : 0 < m ∨ s = []
    · have hst := numT_step hg
      have ih := loop37 n (acall tabS) rfl f (m / 10)
      have hq : IntKind.u64.wrap ((m : Int).tdiv 10) = ((m / 10 : Nat) : Int) := by
        have : (m : Int).tdiv 10 = ((m / 10 : Nat) : Int) := by rw [Int.tdiv_eq_ediv_of_nonneg (by omega)]; omega
        rw [this, IntKind.wrap_u64]; omega
      have hr : IntKind.u64.wrap (48 + (m : Int).tmod 10) = ((48 + m % 10 : Nat) : Int) := by
        have : (m : Int).tmod 10 = ((m % 10 : Nat) : Int) := by rw [Int.tmod_eq_emod_of_nonneg (by omega)]; omega
        rw [this, IntKind.wrap_u64]; omega
      have hc : IntKind.u8.wrap ((48 + m % 10 : Nat) : Int) = (((UInt8.ofNat (48 + m % 10)).toNat : Nat) : Int) := by
        rw [u8_of_nat (by omega), IntKind.wrap_u8]; omega
      have hl : (UInt8.ofNat (48 + m % 10) :: s).length ≤ (numT m s).length := by
        rw [hst]; unfold numT
        split
        · exact Nat.le_refl _
        · simp
      rw [hu, List.length_cons] at hl
      have hmx := max_lt (1 + s.length) (by omega)
      have hf3 : m / 10 < f := by
        rcases hg with h | h
        · omega
        · have := hf2 h; omega
      have ih' := ih hf3 (by omega) (UInt8.ofNat (48 + m % 10) :: s) u (fun e => by cases e) hu1 (by rw [← hst]; exact hu) fn base k
      rw [exK_loop]
      rcases Nat.eq_zero_or_pos m with h0 | h0
      · have hs : s = [] := hg.resolve_left (by omega)
        have hb : decide (0 < (m : Int)) = false := by simp; omega
        subst hs
        simp only [E37, hb, z10, hr, hq, hc, bytes_one, hmx, List.length_nil, EVT, EVD, ↓reduceIte, Nat.reduceEqDiff, reduceCtorEq, Nat.reduceAdd, Nat.reduceLeDiff, ne_eq, Nat.reduceLT, Int.reduceLT, Int.reduceLE, Int.reduceNeg]
        exact ih'
      · have hb : decide (0 < (m : Int)) = true := by simp; omega
        simp only [E37, hb, z10, hr, hq, hc, bytes_one, hmx, EVT, EVD, ↓reduceIte, Nat.reduceEqDiff, reduceCtorEq, Nat.reduceAdd, Nat.reduceLeDiff, ne_eq, Nat.reduceLT, Int.reduceLT, Int.reduceLE, Int.reduceNeg]
        exact ih'
    · have h0 : m = 0 := by omega
      have hs : s ≠ [] := fun e => hg (.inr e)
      subst h0
      have hb2 : (s == []) = false := by simpa using hs
      have hu' : u = s := by rw [← hu]; unfold numT; rw [if_pos ⟨rfl, hs⟩]
      subst hu'
      rw [exK_loop]
      simp only [E37, hb2, show decide (0 < ((0 : Nat) : Int)) = false from rfl, show ((0 : Nat) : Int) = 0 from rfl, EVT, EVD, ↓reduceIte, Nat.reduceEqDiff, reduceCtorEq, Nat.reduceAdd, Nat.reduceLeDiff, ne_eq, Nat.reduceLT, Int.reduceLT, Int.reduceLE, Int.reduceNeg]
      done
theorem c37 (n : Int) (h : okI n) : acall tabS 37 [eI n] [] = some (.str (Lib.itoa n), []) := by
  refine acall_ex rfl rfl rfl ?_
  have h' := h
  unfold okI at h'
  have h0 := fun m hm hl => loop37 n (acall tabS) rfl (m + 2) m (by omega) hm [] _ (fun _ => by omega) hl rfl
  have e0 : ∀ m, numT m [] = Lib.decDigits m := fun m => by unfold numT; rw [if_neg (by simp)]; simp
  simp only [e0] at h0
  have hl := itoa_le h
  by_cases hn : n < 0
  · have hb : decide (n < 0) = true := by simpa using hn
    have hw : IntKind.u64.wrap n = ((n + 18446744073709551616).toNat : Int) := by rw [IntKind.wrap_u64]; omega
    have hw2 : IntKind.u64.wrap (0 - ((n + 18446744073709551616).toNat : Int)) = ((n.natAbs : Nat) : Int) := by rw [IntKind.wrap_u64]; omega
    have hi : Lib.itoa n = 45 :: Lib.decDigits n.natAbs := by unfold Lib.itoa; rw [if_pos hn]
    simp only [fn37, E37, hb, hw, hw2, EVT, EVD, ↓reduceIte, Nat.reduceEqDiff, reduceCtorEq, Nat.reduceAdd, Nat.reduceLeDiff, ne_eq, Nat.reduceLT, Int.reduceLT, Int.reduceLE, Int.reduceNeg]
    rw [hi, List.length_cons] at hl
    refine (h0 n.natAbs (by omega) (by omega) _ _ _).trans ?_
    have hmx := max_lt (1 + (Lib.decDigits n.natAbs).length) (by omega)
    rw [hi]
    simp only [E37, hb, hmx, EVT, EVD, ↓reduceIte, Nat.reduceEqDiff, reduceCtorEq, Nat.reduceAdd, Nat.reduceLeDiff, ne_eq, Nat.reduceLT, Int.reduceLT, Int.reduceLE, Int.reduceNeg]
  · have hb : decide (n < 0) = false := by simpa using hn
    have hw : IntKind.u64.wrap n = ((n.toNat : Nat) : Int) := by rw [IntKind.wrap_u64]; omega
    have hi : Lib.itoa n = Lib.decDigits n.toNat := by unfold Lib.itoa; rw [if_neg hn]
    simp only [fn37, E37, hb, hw, EVT, EVD, ↓reduceIte, Nat.reduceEqDiff, reduceCtorEq, Nat.reduceAdd, Nat.reduceLeDiff, ne_eq, Nat.reduceLT, Int.reduceLT, Int.reduceLE, Int.reduceNeg]
    rw [hi] at hl
    refine (h0 n.toNat (by omega) (by omega) _ _ _).trans ?_
    simp only [E37, hb, hi, EVT, EVD, ↓reduceIte, Nat.reduceEqDiff, reduceCtorEq, Nat.reduceAdd, Nat.reduceLeDiff, ne_eq, Nat.reduceLT, Int.reduceLT, Int.reduceLE, Int.reduceNeg]
theorem k37 (n : Int) (h : okI n) (M : AMem) : callOp (acall tabS) 37 [eI n] M = some (.str (Lib.itoa n), M) := callOp0 (c37 n h) rfl rfl rfl rfl rfl M
theorem hexR : ∀ n : Nat, n < 256 → IntKind.i64.wrap (n : Int) = (n : Int) ∧ IntKind.i64.wrap ((n : Int).tdiv 16) = ((n / 16 : Nat) : Int) ∧ IntKind.i64.wrap (((n / 16 : Nat) : Int) + 1) = ((n / 16 + 1 : Nat) : Int) ∧ (n : Int).tmod 16 = ((n % 16 : Nat) : Int) ∧ IntKind.i64.wrap (((n % 16 : Nat) : Int) + 1) = ((n % 16 + 1 : Nat) : Int) := by decide +kernel
theorem one_cut {s pre r : Bytes} {c : UInt8} (he : s = pre ++ c :: r) : (s.take (pre.length + 1)).drop pre.length = [c] := by
  subst he
  rw [List.take_append, List.take_of_length_le (by omega), show pre.length + 1 - pre.length = 1 by omega]
  simp
theorem loop49 (s : Bytes) (hs : s.length ≤ 1000000) (C : CallF) (hC : C = acall tabS) : ∀ (r pre : Bytes), s = pre ++ r → ∀ (fn : List ARes) (base : Nat) (k : List K),
    exK C fn base (.block 0 :: k) (.loop [0, 3, 4, 5] lb49_0) [(0, .str s), (3, .str hexL), (4, .str (escN pre)), (5, eI pre.length)] [] =
    kr C fn base k ⟨.normal, [(0, .str s), (3, .str hexL), (4, .str (escN s)), (5, eI s.length), (10, .bool false)], []⟩
  | [], pre, he, fn, base, k => by
    subst hC
    have : pre = s := by simpa using he.symm
    subst this
    rw [exK_loop]
    have hlt : decide ((pre.length : Int) < pre.length) = false := by simp
    simp only [E49, hlt, EVT, EVD, ↓reduceIte, Nat.reduceEqDiff, reduceCtorEq, Nat.reduceAdd, Nat.reduceLeDiff, ne_eq, Nat.reduceLT, Int.reduceLT, Int.reduceLE, Int.reduceNeg]
  | c :: r, pre, he, fn, base, k => by
    subst hC
    have hl : pre.length < s.length := by rw [he]; simp
    have hlt : decide ((pre.length : Int) < s.length) = true := by simpa using hl
    have hix : s[pre.length]? = some c := by rw [he]; simp
    have hn : (0 : Int) ≤ pre.length := by omega
    have hw : IntKind.i64.wrap ((pre.length : Int) + 1) = ((pre.length + 1 : Nat) : Int) := by rw [wrapS (by omega) (by omega)]; simp
    have ih := loop49 s hs (acall tabS) rfl r (pre ++ [c]) (by simpa using he) fn base k
    obtain ⟨h0, h1, h2, h3, h4⟩ := hexR c.toNat c.toNat_lt
    rw [exK_loop]
    simp only [E49, hlt, hix, k71, h0, EVT, EVD, ↓reduceIte, Nat.reduceEqDiff, reduceCtorEq, Nat.reduceAdd, Nat.reduceLeDiff, ne_eq, Nat.reduceLT, Int.reduceLT, Int.reduceLE, Int.reduceNeg]
    refine fork_split (fun hb => ?_) (fun hb => ?_)
    · have he2 : escN (pre ++ [c]) = escN pre ++ [c] := by rw [escN_snoc, escB, if_pos hb]
      have hok : (((pre.length + 1 : Nat) : Int) ≤ ((s.length : Nat) : Int) ∧ ((pre.length : Nat) : Int) ≤ ((pre.length + 1 : Nat) : Int)) = True := by simp only [eq_iff_iff, iff_true]; omega
      rw [he2] at ih
      simp only [List.length_append, List.length_cons, List.length_nil, Nat.zero_add] at ih
      have hle := escN_le pre
      have hmx := max_lt ((escN pre).length + 1) (by omega)
      simp only [E49, hb, hw, hok, natI, one_cut he, hmx, EVT, EVD, ↓reduceIte, Nat.reduceEqDiff, reduceCtorEq, Nat.reduceAdd, Nat.reduceLeDiff, ne_eq, Nat.reduceLT, Int.reduceLT, Int.reduceLE, Int.reduceNeg]
      exact ih
    · have ha : c.toNat / 16 < 16 := by have := c.toNat_lt; omega
      have hb' : c.toNat % 16 < 16 := by omega
      have he2 : escN (pre ++ [c]) = escN pre ++ [37, hexD (c.toNat / 16), hexD (c.toNat % 16)] := by rw [escN_snoc, escB, if_neg (by simp [hb])]
      rw [he2] at ih
      simp only [List.length_append, List.length_cons, List.length_nil, Nat.zero_add, hexL] at ih
      have hle := escN_le pre
      have x1 := max_lt ((escN pre).length + 1) (by omega)
      have x2 := max_lt ((escN pre).length + 1 + 1) (by omega)
      have x3 := max_lt ((escN pre).length + 1 + 1 + 1) (by omega)
      have x4 := max_lt ((escN pre).length + 2) (by omega)
      have x5 := max_lt ((escN pre).length + 3) (by omega)
      have x6 := max_lt ((escN pre).length + 2 + 1) (by omega)
      simp only [E49, hb, h1, h2, h3, h4, hexL, z16, x1, x2, x3, x4, x5, x6, natI, hex_ok _ ha, hex_ok _ hb', hex_cut _ ha, hex_cut _ hb', hw, EVT, EVD, ↓reduceIte, Nat.reduceEqDiff, reduceCtorEq, Nat.reduceAdd, Nat.reduceLeDiff, ne_eq, Nat.reduceLT, Int.reduceLT, Int.reduceLE, Int.reduceNeg]
      rw [show escN pre ++ [37, hexD (c.toNat / 16), hexD (c.toNat % 16)] = escN pre ++ [37] ++ [hexD (c.toNat / 16)] ++ [hexD (c.toNat % 16)] by simp] at ih
      exact ih
theorem c49 (s : Bytes) (hs : s.length ≤ 1000000) : acall tabS 49 [.str s] [] = some (.str (escN s), []) := by
  refine acall_ex rfl rfl rfl ?_
  have h0 := fun fn base k => loop49 s hs (acall tabS) rfl s [] rfl fn base k
  simp only [hexL] at h0
  simp only [fn49, E49, EVT, EVD, ↓reduceIte, Nat.reduceEqDiff, reduceCtorEq, Nat.reduceAdd, Nat.reduceLeDiff, ne_eq, Nat.reduceLT, Int.reduceLT, Int.reduceLE, Int.reduceNeg]
  refine (h0 _ _ _).trans ?_
  simp only [E49, EVT, EVD, ↓reduceIte, Nat.reduceEqDiff, reduceCtorEq, Nat.reduceAdd, Nat.reduceLeDiff, ne_eq, Nat.reduceLT, Int.reduceLT, Int.reduceLE, Int.reduceNeg]
theorem k49 (s : Bytes) (hs : s.length ≤ 1000000) (M : AMem) : callOp (acall tabS) 49 [.str s] M = some (.str (escN s), M) := callOp0 (c49 s hs) rfl rfl rfl rfl rfl M
theorem c46 (w : Bytes) (hw : w.length ≤ 100) (n : Int) (h : okI n) : acall tabS 46 [.str w, eI n] [] = some (.str (fldN ⟨w, n, []⟩), []) := by
  refine acall_ex rfl rfl rfl ?_
  by_cases hn : n = 0
  · have hb : (n == 0) = true := by simpa using hn
    simp only [fn46, E46, hb, EVT, EVD, ↓reduceIte, Nat.reduceEqDiff, reduceCtorEq, Nat.reduceAdd, Nat.reduceLeDiff, ne_eq, Nat.reduceLT, Int.reduceLT, Int.reduceLE, Int.reduceNeg]
    simp [fldN, hn]
  · have hb : (n == 0) = false := by simpa using hn
    have hl := itoa_le h
    simp (disch := omega) only [fn46, E46, hb, k37 n h, EVT, EVD, ↓reduceIte, Nat.reduceEqDiff, reduceCtorEq, Nat.reduceAdd, Nat.reduceLeDiff, ne_eq, Nat.reduceLT, Int.reduceLT, Int.reduceLE, Int.reduceNeg]
    simp [fldN, hn]
theorem k46 (w : Bytes) (hw : w.length ≤ 100) (n : Int) (h : okI n) (M : AMem) : callOp (acall tabS) 46 [.str w, eI n] M = some (.str (fldN ⟨w, n, []⟩), M) := callOp0 (c46 w hw n h) rfl rfl rfl rfl rfl M
theorem c47 (w s : Bytes) (hw : w.length ≤ 100) (h : s.length ≤ 1000000) : acall tabS 47 [.str w, .str s] [] = some (.str (fldN ⟨w, 0, escN s⟩), []) := by
  refine acall_ex rfl rfl rfl ?_
  by_cases hn : s = []
  · have hb : (s == []) = true := by simpa using hn
    simp only [fn47, E47, hb, EVT, EVD, ↓reduceIte, Nat.reduceEqDiff, reduceCtorEq, Nat.reduceAdd, Nat.reduceLeDiff, ne_eq, Nat.reduceLT, Int.reduceLT, Int.reduceLE, Int.reduceNeg]
    simp [fldN, hn, escN]
  · have hb : (s == []) = false := by simpa using hn
    have he : escN s ≠ [] := fun e => hn (escN_nil.1 e)
    have hl := escN_le s
    simp (disch := omega) only [fn47, E47, hb, k49 s h, EVT, EVD, ↓reduceIte, Nat.reduceEqDiff, reduceCtorEq, Nat.reduceAdd, Nat.reduceLeDiff, ne_eq, Nat.reduceLT, Int.reduceLT, Int.reduceLE, Int.reduceNeg]
    simp [fldN, he]
theorem k47 (w s : Bytes) (hw : w.length ≤ 100) (h : s.length ≤ 1000000) (M : AMem) : callOp (acall tabS) 47 [.str w, .str s] M = some (.str (fldN ⟨w, 0, escN s⟩), M) := callOp0 (c47 w s hw h) rfl rfl rfl rfl rfl M
theorem c45 : acall tabS 45 [] [] = some (.slice .sh (wordsL.tail.map .str), []) := by
  refine acall_ex rfl rfl rfl ?_
  simp only [fn45, E45, EVT, EVD, ↓reduceIte, Nat.reduceEqDiff, reduceCtorEq, Nat.reduceAdd, Nat.reduceLeDiff, ne_eq, Nat.reduceLT, Int.reduceLT, Int.reduceLE, Int.reduceNeg]
  rfl
theorem k45 (M : AMem) : callOp (acall tabS) 45 [] M = some (.slice .sh (wordsL.tail.map .str), M) := callOp0 c45 rfl rfl rfl rfl rfl M
theorem words_tail {k : Nat} (h : k < 17) : wordsL.tail[k]? = some (wordsL.getD (k + 1) []) := by
  have : k + 1 < wordsL.length := by show k + 1 < 18; omega
  rw [List.getElem?_tail, List.getD_eq_getElem?_getD, List.getElem?_eq_getElem this]
  rfl
theorem k46' {w : Bytes} (hw : w.length ≤ 100) {n : Int} (h : okI n) : ∃ t : Bytes, t.length ≤ 4000000 ∧ fldN ⟨w, n, []⟩ = t ∧ ∀ M, callOp (acall tabS) 46 [.str w, eI n] M = some (.str t, M) :=
  ⟨_, by have := fldN_le' (f := ⟨w, n, []⟩) h; simp only [List.length_nil] at this; omega, rfl, k46 w hw n h⟩
theorem k47' {w s : Bytes} (hw : w.length ≤ 100) (h : s.length ≤ 1000000) : ∃ t : Bytes, t.length ≤ 4000000 ∧ fldN ⟨w, 0, escN s⟩ = t ∧ ∀ M, callOp (acall tabS) 47 [.str w, .str s] M = some (.str t, M) :=
  ⟨_, by have := fldN_le' (f := ⟨w, 0, escN s⟩) okI_zero; have h2 := escN_le s; simp only at this; omega, rfl, k47 w s hw h⟩
theorem c16 (o : Op) (h : OpOk o) : acall tabS 16 [eOp .sh o] [] = some (.str (opN o), []) := by
  refine acall_ex rfl rfl rfl ?_
  obtain ⟨t1, l1, e1, h1⟩ := k46' (w := wClient) (by decide) h.client
  obtain ⟨t2, l2, e2, h2⟩ := k47' (w := wPath) (by decide) h.path
  obtain ⟨t3, l3, e3, h3⟩ := k47' (w := wTo) (by decide) h.dest
  obtain ⟨t4, l4, e4, h4⟩ := k46' (w := wN) (by decide) h.n
  obtain ⟨t5, l5, e5, h5⟩ := k46' (w := wM) (by decide) h.m
  obtain ⟨t6, l6, e6, h6⟩ := k46' (w := wHandle) (by decide) h.handle
  obtain ⟨t7, l7, e7, h7⟩ := k47' (w := wData) (by decide) h.data
  have h0 := k37 o.kind h.kind
  have hl0 := itoa_le h.kind
  have hl1 := firstN_le h.kind
  have hop : opN o = firstN o.kind ++ (t1 ++ (t2 ++ (t3 ++ (t4 ++ (t5 ++ (t6 ++ t7)))))) := by
    simp [opN, lineN, opFlds, fldsN, e1, e2, e3, e4, e5, e6, e7]
  simp only [wClient, wPath, wTo, wN, wM, wHandle, wData] at h1 h2 h3 h4 h5 h6 h7
  have hkk := h.kind
  unfold okI at hkk
  by_cases hk : 1 ≤ o.kind ∧ o.kind ≤ 17
  · have hb1 : decide (1 ≤ o.kind) = true := by simpa using hk.1
    have hb2 : decide (o.kind ≤ 17) = true := by simpa using hk.2
    have hi : IntKind.i64.wrap (o.kind - 1) = ((o.kind.toNat - 1 : Nat) : Int) := by rw [wrapS (by omega) (by omega)]; omega
    have hf : firstN o.kind = wordsL.getD (o.kind.toNat - 1 + 1) [] := by
      unfold firstN
      rw [if_pos (by omega), show o.kind.toNat - 1 + 1 = o.kind.toNat by omega]
    have hw := words_tail (k := o.kind.toNat - 1) (by omega)
    rw [← hf] at hw
    rw [hop]
    generalize firstN o.kind = t0 at *
    have y0 := max_lt (1 + 1 + (Lib.itoa o.kind).length) (by omega)
    have y0' := max_lt (2 + (Lib.itoa o.kind).length) (by omega)
    have y1 := max_lt (t0.length + t1.length) (by omega)
    have y2 := max_lt (t0.length + t1.length + t2.length) (by omega)
    have y3 := max_lt (t0.length + t1.length + t2.length + t3.length) (by omega)
    have y4 := max_lt (t0.length + t1.length + t2.length + t3.length + t4.length) (by omega)
    have y5 := max_lt (t0.length + t1.length + t2.length + t3.length + t4.length + t5.length) (by omega)
    have y6 := max_lt (t0.length + t1.length + t2.length + t3.length + t4.length + t5.length + t6.length) (by omega)
    have y7 := max_lt (t0.length + t1.length + t2.length + t3.length + t4.length + t5.length + t6.length + t7.length) (by omega)
    simp only [fn16, E16, eOp, eOpC, y0, y0', y1, y2, y3, y4, y5, y6, y7, h0, hb1, hb2, k45, hi, hw, natI, h1, h2, h3, h4, h5, h6, h7, bytes_u8, EVT, EVD, ↓reduceIte, Nat.reduceEqDiff, reduceCtorEq, Nat.reduceAdd, Nat.reduceLeDiff, ne_eq, Nat.reduceLT, Int.reduceLT, Int.reduceLE, Int.reduceNeg]
    simp only [List.append_assoc]
  · have hf : firstN o.kind = 111 :: 112 :: Lib.itoa o.kind := by
      unfold firstN
      rw [if_neg (by omega)]
    rw [hop]
    obtain ⟨t0, ht0⟩ : ∃ t, firstN o.kind = t := ⟨_, rfl⟩
    rw [hf] at ht0
    rw [hf, ht0]
    have hl3 : t0.length ≤ 23 := by rw [← ht0]; simp; omega
    have y0 := max_lt (1 + 1 + (Lib.itoa o.kind).length) (by omega)
    have y0' := max_lt (2 + (Lib.itoa o.kind).length) (by omega)
    have y1 := max_lt (t0.length + t1.length) (by omega)
    have y2 := max_lt (t0.length + t1.length + t2.length) (by omega)
    have y3 := max_lt (t0.length + t1.length + t2.length + t3.length) (by omega)
    have y4 := max_lt (t0.length + t1.length + t2.length + t3.length + t4.length) (by omega)
    have y5 := max_lt (t0.length + t1.length + t2.length + t3.length + t4.length + t5.length) (by omega)
    have y6 := max_lt (t0.length + t1.length + t2.length + t3.length + t4.length + t5.length + t6.length) (by omega)
    have y7 := max_lt (t0.length + t1.length + t2.length + t3.length + t4.length + t5.length + t6.length + t7.length) (by omega)
    by_cases h9 : 1 ≤ o.kind
    · have hb1 : decide (1 ≤ o.kind) = true := by simpa using h9
      have hb2 : decide (o.kind ≤ 17) = false := by simp; omega
      simp only [fn16, E16, eOp, eOpC, y0, y0', h0, hb1, hb2, ht0, EVT, EVD, ↓reduceIte, Nat.reduceEqDiff, reduceCtorEq, Nat.reduceAdd, Nat.reduceLeDiff, ne_eq, Nat.reduceLT, Int.reduceLT, Int.reduceLE, Int.reduceNeg]
      simp only [E16, y1, y2, y3, y4, y5, y6, y7, h1, h2, h3, h4, h5, h6, h7, bytes_u8, EVT, EVD, ↓reduceIte, Nat.reduceEqDiff, reduceCtorEq, Nat.reduceAdd, Nat.reduceLeDiff, ne_eq, Nat.reduceLT, Int.reduceLT, Int.reduceLE, Int.reduceNeg]
      simp only [List.append_assoc]
    · have hb1 : decide (1 ≤ o.kind) = false := by simp; omega
      simp only [fn16, E16, eOp, eOpC, y0, y0', h0, hb1, ht0, EVT, EVD, ↓reduceIte, Nat.reduceEqDiff, reduceCtorEq, Nat.reduceAdd, Nat.reduceLeDiff, ne_eq, Nat.reduceLT, Int.reduceLT, Int.reduceLE, Int.reduceNeg]
      simp only [E16, y1, y2, y3, y4, y5, y6, y7, h1, h2, h3, h4, h5, h6, h7, bytes_u8, EVT, EVD, ↓reduceIte, Nat.reduceEqDiff, reduceCtorEq, Nat.reduceAdd, Nat.reduceLeDiff, ne_eq, Nat.reduceLT, Int.reduceLT, Int.reduceLE, Int.reduceNeg]
      simp only [List.append_assoc]
theorem k16 (o : Op) (h : OpOk o) (M : AMem) : callOp (acall tabS) 16 [eOp .sh o] M = some (.str (opN o), M) := callOp0 (c16 o h) rfl rfl rfl rfl rfl M
end Go.Proofs.YtannopdcbocngaaGreatDoor
namespace Go.Proofs.YtannopdcbocngaaGreatDoor
open Go Go.Abs
attribute [local irreducible] exK opsK opK gK forkK kr acall callOp owhen obind
theorem ix0 {α : Type} (x : α) (l : List α) : (x :: l)[Int.toNat 0]? = some x := rfl
def commaN (r : List Bytes) : Bytes := r.flatMap fun x => 44 :: escN x
theorem commaN_cons (x : Bytes) (r : List Bytes) : commaN (x :: r) = [44] ++ escN x ++ commaN r := by simp [commaN]
theorem sumL_cons (x : Bytes) (r : List Bytes) : sumL (x :: r) = x.length + sumL r := by simp [sumL]
theorem namesN_cons (x : Bytes) (r : List Bytes) : namesN (x :: r) = [32, 110, 97, 109, 101, 115, 61] ++ escN x ++ commaN r := by
  unfold namesN
  rw [if_pos (by simp), List.map_cons, Lib.join_cons]
  have : Lib.joinTail [44] (r.map escN) = commaN r := by
    unfold Lib.joinTail commaN
    rw [List.map_map, ← List.flatMap_def]
    rfl
  rw [this]
  simp [wNames]
theorem loop18 (a : Ans) (h : AnsOk a) (C : CallF) (hC : C = acall tabS) : ∀ (r pre : List Bytes), a.names = pre ++ r → 0 < pre.length → ∀ (t : Bytes), t.length + 3 * sumL r + r.length ≤ 1000000000 → ∀ (fn : List ARes) (base : Nat) (k : List K),
    exK C fn base (.block 0 :: k) (.loop [1, 3, 4] lb18_0) [(1, .ptr 0 0), (3, .str t), (4, eI pre.length)] [.cells (eAnsC .sh .sh a)] =
    kr C fn base k ⟨.normal, [(1, .ptr 0 0), (3, .str (t ++ commaN r)), (4, eI a.names.length), (33, .bool false)], [.cells (eAnsC .sh .sh a)]⟩
  | [], pre, he, hp, t, ht, fn, base, k => by
    subst hC
    have hpre : pre = a.names := by simpa using he.symm
    have hlt : decide ((pre.length : Int) < a.names.length) = false := by rw [hpre]; simp
    rw [exK_loop]
    have h0 : t ++ commaN [] = t := by simp [commaN]
    rw [h0]
    rw [hpre] at hlt ⊢
    simp only [E18, eAnsC, hlt, EVT, EVD, ↓reduceIte, Nat.reduceEqDiff, reduceCtorEq, Nat.reduceAdd, Nat.reduceLeDiff, ne_eq, Nat.reduceLT, Int.reduceLT, Int.reduceLE, Int.reduceNeg]
  | x :: r, pre, he, hp, t, ht, fn, base, k => by
    subst hC
    have hl' : pre.length < a.names.length := by rw [he]; simp
    have hlt : decide ((pre.length : Int) < a.names.length) = true := by simpa using hl'
    have hix : a.names[pre.length]? = some x := by rw [he]; simp
    have hn : (0 : Int) ≤ pre.length := by omega
    have hz : ((pre.length : Int) == 0) = false := by simp; intro e; rw [e] at hp; simp at hp
    have hnl := h.names
    have hw : IntKind.i64.wrap ((pre.length : Int) + 1) = ((pre ++ [x]).length : Int) := by rw [List.length_append, wrapS (by omega) (by omega)]; simp
    have hsx : x.length ≤ 1000000 := by
      have := sumL_mem (l := a.names) (x := x) (by rw [he]; simp)
      have := h.sum; omega
    have hle := escN_le x
    rw [sumL_cons, List.length_cons] at ht
    have ih := loop18 a h (acall tabS) rfl r (pre ++ [x]) (by simpa using he) (by simp) (t ++ [44] ++ escN x) (by simp; omega) fn base k
    have hfr : t ++ [44] ++ escN x ++ commaN r = t ++ commaN (x :: r) := by rw [commaN_cons]; simp
    rw [hfr] at ih
    simp only [List.length_append, List.length_cons, List.length_nil, Nat.zero_add, eAnsC] at ih hw
    have m1 := max_lt (t.length + 1) (by omega)
    have m2 := max_lt (t.length + 1 + (escN x).length) (by omega)
    rw [exK_loop]
    simp only [E18, eAnsC, hlt, hix, hn, hz, m1, m2, k49 x hsx, hw, EVT, EVD, ↓reduceIte, Nat.reduceEqDiff, reduceCtorEq, Nat.reduceAdd, Nat.reduceLeDiff, ne_eq, Nat.reduceLT, Int.reduceLT, Int.reduceLE, Int.reduceNeg]
    exact ih
theorem c18 (a : Ans) (h : AnsOk a) : acall tabS 18 [eAns .sh .sh a] [] = some (.str (ansN a), []) := by
  refine acall_ex rfl rfl rfl ?_
  obtain ⟨t1, l1, e1, h1⟩ := k46' (w := wIno) (by decide) h.ino
  obtain ⟨t2, l2, e2, h2⟩ := k46' (w := wKind) (by decide) h.kind
  obtain ⟨t3, l3, e3, h3⟩ := k46' (w := wN) (by decide) h.n
  obtain ⟨t4, l4, e4, h4⟩ := k46' (w := wM) (by decide) h.m
  obtain ⟨t5, l5, e5, h5⟩ := k47' (w := wData) (by decide) h.data
  have h0 := k37 a.err h.err
  have hl0 := itoa_le h.err
  have hl1 := errN_le h.err
  have hnm := namesN_le h
  have hop : ansN a = errN a.err ++ t1 ++ t2 ++ t3 ++ t4 ++ namesN a.names ++ t5 := by
    simp [ansN, lineN, ansFlds, fldsN, e1, e2, e3, e4, e5]
  simp only [wIno, wKind, wN, wM, wData] at h1 h2 h3 h4 h5
  have hz : (((a.err == 0) = true) ∧ errN a.err = [111, 107]) ∨ (((a.err == 0) = false) ∧ errN a.err = 101 :: 114 :: 114 :: 111 :: 114 :: Lib.itoa a.err) := by
    by_cases hk : a.err = 0
    · exact .inl ⟨by simp [hk], by unfold errN; rw [if_neg (by simpa using hk)]⟩
    · exact .inr ⟨by simp [hk], by unfold errN; rw [if_pos (by simpa using hk)]⟩
  rw [hop]
  have y0 := max_lt (5 + (Lib.itoa a.err).length) (by omega)
  have y0' := max_lt (1 + 1 + 1 + 1 + 1 + (Lib.itoa a.err).length) (by omega)
  obtain ⟨t0, ht0⟩ : ∃ t, errN a.err = t := ⟨_, rfl⟩
  rw [ht0] at hl1 hz ⊢
  have y1 := max_lt (t0.length + t1.length) (by omega)
  have y2 := max_lt (t0.length + t1.length + t2.length) (by omega)
  have y3 := max_lt (t0.length + t1.length + t2.length + t3.length) (by omega)
  have y4 := max_lt (t0.length + t1.length + t2.length + t3.length + t4.length) (by omega)
  have hd : ∀ fn base k, exK (acall tabS) fn base (.block 0 :: k) (.loop [1, 3, 4] lb18_0) [(1, .ptr 0 0), (3, .str (t0 ++ t1 ++ t2 ++ t3 ++ t4)), (4, eI 0)] [.cells (eAnsC .sh .sh a)] =
      kr (acall tabS) fn base k ⟨.normal, [(1, .ptr 0 0), (3, .str (t0 ++ t1 ++ t2 ++ t3 ++ t4 ++ namesN a.names)), (4, eI a.names.length), (33, .bool false)], [.cells (eAnsC .sh .sh a)]⟩ := by
    intro fn base k
    rw [exK_loop]
    cases hnames : a.names with
    | nil =>
      rw [show namesN ([] : List Bytes) = [] from rfl, List.append_nil]
      simp only [E18, eAnsC, hnames, List.map_nil, List.length_nil, show decide ((0 : Int) < ((0 : Nat) : Int)) = false from rfl, EVT, EVD, ↓reduceIte, Nat.reduceEqDiff, reduceCtorEq, Nat.reduceAdd, Nat.reduceLeDiff, ne_eq, Nat.reduceLT, Int.reduceLT, Int.reduceLE, Int.reduceNeg]
      rfl
    | cons x r =>
      have hsx : x.length ≤ 1000000 := by
        have := sumL_mem (l := a.names) (x := x) (by rw [hnames]; simp)
        have := h.sum; omega
      have hle := escN_le x
      have hsum := h.sum
      have hlen := h.names
      rw [hnames, sumL_cons] at hsum
      rw [hnames, List.length_cons] at hlen
      generalize ht : t0 ++ t1 ++ t2 ++ t3 ++ t4 = t at *
      have htl : t.length ≤ 20000000 := by rw [← ht]; simp; omega
      have m1 := max_lt (t.length + 7) (by omega)
      have m1' := max_lt (t.length + 1 + 1 + 1 + 1 + 1 + 1 + 1) (by omega)
      have m2 := max_lt (t.length + 7 + (escN x).length) (by omega)
      have ih := loop18 a h (acall tabS) rfl r [x] (by simpa using hnames) (by simp) (t ++ [32, 110, 97, 109, 101, 115, 61] ++ escN x) (by simp; omega) fn base k
      have hfr : t ++ [32, 110, 97, 109, 101, 115, 61] ++ escN x ++ commaN r = t ++ namesN (x :: r) := by rw [namesN_cons]; simp
      rw [hfr, hnames] at ih
      simp only [List.length_append, List.length_cons, List.length_nil, Nat.zero_add, eAnsC, hnames] at ih
      have hlt : decide ((0 : Int) < ((r.length + 1 : Nat) : Int)) = true := by simp
      simp only [E18, eAnsC, hnames, hlt, List.length_cons, m1, m1', m2, k49 x hsx, ix0, show IntKind.i64.wrap (0 + 1) = 1 from by decide, EVT, EVD, ↓reduceIte, Nat.reduceEqDiff, reduceCtorEq, Nat.reduceAdd, Nat.reduceLeDiff, ne_eq, Nat.reduceLT, Int.reduceLT, Int.reduceLE, Int.reduceNeg]
      exact ih
  simp only [eAnsC] at hd
  have hnl : (namesN a.names).length ≤ 4000007 := hnm
  obtain ⟨t6, ht6⟩ : ∃ t, namesN a.names = t := ⟨_, rfl⟩
  rw [ht6] at hnl ⊢
  have m5 := max_lt (t0.length + t1.length + t2.length + t3.length + t4.length + t6.length + t5.length) (by omega)
  rcases hz with ⟨hb, hz⟩ | ⟨hb, hz⟩
  · simp only [fn18, E18, eAns, eAnsC, h0, y0, y0', hb, EVT, EVD, ↓reduceIte, Nat.reduceEqDiff, reduceCtorEq, Nat.reduceAdd, Nat.reduceLeDiff, ne_eq, Nat.reduceLT, Int.reduceLT, Int.reduceLE, Int.reduceNeg]
    rw [← hz]
    simp only [E18, y1, y2, y3, y4, h1, h2, h3, h4, EVT, EVD, ↓reduceIte, Nat.reduceEqDiff, reduceCtorEq, Nat.reduceAdd, Nat.reduceLeDiff, ne_eq, Nat.reduceLT, Int.reduceLT, Int.reduceLE, Int.reduceNeg]
    refine (hd _ _ _).trans ?_
    rw [ht6]
    simp only [E18, bytes_u8, h5, m5, EVT, EVD, ↓reduceIte, Nat.reduceEqDiff, reduceCtorEq, Nat.reduceAdd, Nat.reduceLeDiff, ne_eq, Nat.reduceLT, Int.reduceLT, Int.reduceLE, Int.reduceNeg]
  · simp only [fn18, E18, eAns, eAnsC, h0, y0, y0', hb, EVT, EVD, ↓reduceIte, Nat.reduceEqDiff, reduceCtorEq, Nat.reduceAdd, Nat.reduceLeDiff, ne_eq, Nat.reduceLT, Int.reduceLT, Int.reduceLE, Int.reduceNeg]
    rw [← hz]
    simp only [E18, y1, y2, y3, y4, h1, h2, h3, h4, EVT, EVD, ↓reduceIte, Nat.reduceEqDiff, reduceCtorEq, Nat.reduceAdd, Nat.reduceLeDiff, ne_eq, Nat.reduceLT, Int.reduceLT, Int.reduceLE, Int.reduceNeg]
    refine (hd _ _ _).trans ?_
    rw [ht6]
    simp only [E18, bytes_u8, h5, m5, EVT, EVD, ↓reduceIte, Nat.reduceEqDiff, reduceCtorEq, Nat.reduceAdd, Nat.reduceLeDiff, ne_eq, Nat.reduceLT, Int.reduceLT, Int.reduceLE, Int.reduceNeg]
theorem k18 (a : Ans) (h : AnsOk a) (M : AMem) : callOp (acall tabS) 18 [eAns .sh .sh a] M = some (.str (ansN a), M) := callOp0 (c18 a h) rfl rfl rfl rfl rfl M
theorem loop21 (l : List Event) (hok : ∀ e, e ∈ l → EvOk e) (hl : l.length ≤ 100000) (C : CallF) (hC : C = acall tabS) : ∀ (r pre : List Event), l = pre ++ r → ∀ (t : Bytes), t.length ≤ 10000100 * pre.length → ∀ (fn : List ARes) (base : Nat) (k : List K),
    exK C fn base (.block 0 :: k) (.loop [0, 3, 4] lb21_0) [(0, .slice .sh (l.map eEv)), (3, .str t), (4, eI pre.length)] [] =
    kr C fn base k ⟨.normal, [(0, .slice .sh (l.map eEv)), (3, .str (t ++ histN r)), (4, eI l.length), (9, .bool false)], []⟩
  | [], pre, he, t, ht, fn, base, k => by
    subst hC
    have : pre = l := by simpa using he.symm
    subst this
    rw [exK_loop]
    have hlt : decide ((pre.length : Int) < pre.length) = false := by simp
    have h0 : t ++ histN [] = t := by simp [histN]
    rw [h0]
    simp only [E21, hlt, EVT, EVD, ↓reduceIte, Nat.reduceEqDiff, reduceCtorEq, Nat.reduceAdd, Nat.reduceLeDiff, ne_eq, Nat.reduceLT, Int.reduceLT, Int.reduceLE, Int.reduceNeg]
  | e :: r, pre, he, t, ht, fn, base, k => by
    subst hC
    have hl' : pre.length < l.length := by rw [he]; simp
    have hlt : decide ((pre.length : Int) < l.length) = true := by simpa using hl'
    have hix : l[pre.length]? = some e := by rw [he]; simp
    have hn : (0 : Int) ≤ pre.length := by omega
    have hw : IntKind.i64.wrap ((pre.length : Int) + 1) = ((pre ++ [e]).length : Int) := by rw [List.length_append, wrapS (by omega) (by omega)]; simp
    have hfo := hok e (by rw [he]; simp)
    have h4 := evN_le hfo
    have ho := opN_le hfo.op; have ha := ansN_le hfo.ans; have hi := itoa_le hfo.client
    have ih := loop21 l hok hl (acall tabS) rfl r (pre ++ [e]) (by simpa using he) (t ++ evN e) (by simp; omega) fn base k
    have hfr : t ++ evN e ++ histN r = t ++ histN (e :: r) := by simp [histN]
    rw [hfr] at ih
    generalize t ++ histN (e :: r) = u at ih ⊢
    have h37 := k37 e.client hfo.client
    have h16 := k16 e.op hfo.op
    have h18 := k18 e.ans hfo.ans
    simp only [eOpC, eAnsC, eOp, eAns] at h16 h18
    simp only [List.length_append, List.length_cons, List.length_nil, Nat.zero_add] at hw
    obtain ⟨ic, hic⟩ : ∃ x, Lib.itoa e.client = x := ⟨_, rfl⟩
    obtain ⟨oc, hoc⟩ : ∃ x, opN e.op = x := ⟨_, rfl⟩
    obtain ⟨ac, hac⟩ : ∃ x, ansN e.ans = x := ⟨_, rfl⟩
    rw [hic] at h37 hi; rw [hoc] at h16 ho; rw [hac] at h18 ha
    have a1 := max_lt (t.length + 6) (by omega)
    have a2 := max_lt (t.length + 6 + ic.length) (by omega)
    have a3 := max_lt (t.length + 6 + ic.length + 2) (by omega)
    have a4 := max_lt (t.length + 6 + ic.length + 2 + oc.length) (by omega)
    have a5 := max_lt (t.length + 6 + ic.length + 2 + oc.length + 1) (by omega)
    have b1 := max_lt (t.length + 4) (by omega)
    have b2 := max_lt (t.length + 4 + ic.length) (by omega)
    have b3 := max_lt (t.length + 4 + ic.length + 2) (by omega)
    have b4 := max_lt (t.length + 4 + ic.length + 2 + ac.length) (by omega)
    have b5 := max_lt (t.length + 4 + ic.length + 2 + ac.length + 1) (by omega)
    rw [exK_loop]
    simp only [E21, hlt, hix, eEvC, EVT, EVD, ↓reduceIte, Nat.reduceEqDiff, reduceCtorEq, Nat.reduceAdd, Nat.reduceLeDiff, ne_eq, Nat.reduceLT, Int.reduceLT, Int.reduceLE, Int.reduceNeg]
    refine fork_split (fun hb => ?_) (fun hb => ?_)
    · have he1 : e.kind = 1 := by simpa using hb
      have hc : (e.kind == 2) = false := by rw [he1]; rfl
      have he2 : t ++ evN e = t ++ [98, 101, 103, 105, 110, 32] ++ ic ++ [58, 32] ++ oc ++ [10] := by rw [evN, if_pos he1, hic, hoc]; simp
      rw [he2] at ih
      simp only [List.length_append, List.length_cons, List.length_nil, Nat.zero_add] at ih
      simp only [E21, hb, hc, hn, h37, h16, a1, a2, a3, a4, a5, EVT, EVD, ↓reduceIte, Nat.reduceEqDiff, reduceCtorEq, Nat.reduceAdd, Nat.reduceLeDiff, ne_eq, Nat.reduceLT, Int.reduceLT, Int.reduceLE, Int.reduceNeg]
      simp only [E21, hw, EVT, EVD, ↓reduceIte, Nat.reduceEqDiff, reduceCtorEq, Nat.reduceAdd, Nat.reduceLeDiff, ne_eq, Nat.reduceLT, Int.reduceLT, Int.reduceLE, Int.reduceNeg]
      exact ih
    · simp only [E21, hb, hn, EVT, EVD, ↓reduceIte, Nat.reduceEqDiff, reduceCtorEq, Nat.reduceAdd, Nat.reduceLeDiff, ne_eq, Nat.reduceLT, Int.reduceLT, Int.reduceLE, Int.reduceNeg]
      refine fork_split (fun hc => ?_) (fun hc => ?_)
      · have he2 : t ++ evN e = t ++ [101, 110, 100, 32] ++ ic ++ [58, 32] ++ ac ++ [10] := by rw [evN, if_neg (by simpa using hb), if_pos (by simpa using hc), hic, hac]; simp
        rw [he2] at ih
        simp only [List.length_append, List.length_cons, List.length_nil, Nat.zero_add] at ih
        simp only [E21, hb, hc, hn, h37, h18, b1, b2, b3, b4, b5, EVT, EVD, ↓reduceIte, Nat.reduceEqDiff, reduceCtorEq, Nat.reduceAdd, Nat.reduceLeDiff, ne_eq, Nat.reduceLT, Int.reduceLT, Int.reduceLE, Int.reduceNeg]
        simp only [E21, hw, EVT, EVD, ↓reduceIte, Nat.reduceEqDiff, reduceCtorEq, Nat.reduceAdd, Nat.reduceLeDiff, ne_eq, Nat.reduceLT, Int.reduceLT, Int.reduceLE, Int.reduceNeg]
        exact ih
      · have he2 : evN e = [] := by rw [evN, if_neg (by simpa using hb), if_neg (by simpa using hc)]
        rw [he2, List.append_nil] at ih
        simp only [List.length_append, List.length_cons, List.length_nil, Nat.add_zero, Nat.zero_add] at ih
        simp only [E21, hb, hc, hn, hw, EVT, EVD, ↓reduceIte, Nat.reduceEqDiff, reduceCtorEq, Nat.reduceAdd, Nat.reduceLeDiff, ne_eq, Nat.reduceLT, Int.reduceLT, Int.reduceLE, Int.reduceNeg]
        exact ih
theorem c21 (l : List Event) (hok : ∀ e, e ∈ l → EvOk e) (hl : l.length ≤ 100000) : acall tabS 21 [.slice .sh (l.map eEv)] [] = some (.str (histN l), []) := by
  refine acall_ex rfl rfl rfl ?_
  have h0 := loop21 l hok hl (acall tabS) rfl l [] rfl [] (by simp)
  simp only [List.length_nil, List.nil_append] at h0
  simp only [fn21, E21, EVT, EVD, ↓reduceIte, Nat.reduceEqDiff, reduceCtorEq, Nat.reduceAdd, Nat.reduceLeDiff, ne_eq, Nat.reduceLT, Int.reduceLT, Int.reduceLE, Int.reduceNeg]
  refine (h0 _ _ _).trans ?_
  simp only [E21, EVT, EVD, ↓reduceIte, Nat.reduceEqDiff, reduceCtorEq, Nat.reduceAdd, Nat.reduceLeDiff, ne_eq, Nat.reduceLT, Int.reduceLT, Int.reduceLE, Int.reduceNeg]
theorem k21 (l : List Event) (hok : ∀ e, e ∈ l → EvOk e) (hl : l.length ≤ 100000) (M : AMem) : callOp (acall tabS) 21 [.slice .sh (l.map eEv)] M = some (.str (histN l), M) := callOp0 (c21 l hok hl) rfl rfl rfl rfl rfl M
end Go.Proofs.YtannopdcbocngaaGreatDoor
namespace Go.Proofs.YtannopdcbocngaaGreatDoor
open Go Go.Abs
attribute [local irreducible] exK opsK opK gK forkK kr acall callOp owhen obind
def sameEvB (x y : Event) : Bool := decide (x.kind = y.kind ∧ x.client = y.client ∧ opN x.op = opN y.op ∧ ansN x.ans = ansN y.ans)
def sameEvs : List Event → List Event → Bool
  | [], [] => true
  | x :: a, y :: b => sameEvB x y && sameEvs a b
  | _, _ => false
theorem sameEvs_len : ∀ {a b : List Event}, a.length ≠ b.length → sameEvs a b = false
  | [], [], h => absurd rfl h
  | x :: a, [], _ => rfl
  | [], y :: b, _ => rfl
  | x :: a, y :: b, h => by
    rw [sameEvs, sameEvs_len (a := a) (b := b) (by simpa using h), Bool.and_false]
theorem loop32 (a b : List Event) (ha : ∀ e, e ∈ a → EvOk e) (hb : ∀ e, e ∈ b → EvOk e) (hl : a.length ≤ 100000) (C : CallF) (hC : C = acall tabS) : ∀ (r r' pre pre' : List Event), a = pre ++ r → b = pre' ++ r' → pre.length = pre'.length → r.length = r'.length →
    exK C [.tmp 4] 0 [.block 0, .seq q32_4] (.loop [0, 1, 5] lb32_0) [(0, .slice .sh (a.map eEv)), (1, .slice .sh (b.map eEv)), (5, eI pre.length)] [] =
    some (.bool (sameEvs r r'), [])
  | [], r', pre, pre', he, he', hp, hr => by
    subst hC
    have : r' = [] := by simpa using hr.symm
    subst this
    have hpa : pre = a := by simpa using he.symm
    rw [exK_loop]
    have hlt : decide ((pre.length : Int) < a.length) = false := by rw [hpa]; simp
    simp only [E32, hlt, sameEvs, EVT, EVD, ↓reduceIte, Nat.reduceEqDiff, reduceCtorEq, Nat.reduceAdd, Nat.reduceLeDiff, ne_eq, Nat.reduceLT, Int.reduceLT, Int.reduceLE, Int.reduceNeg]
  | x :: r, [], pre, pre', he, he', hp, hr => by simp at hr
  | x :: r, y :: r', pre, pre', he, he', hp, hr => by
    subst hC
    have hl' : pre.length < a.length := by rw [he]; simp
    have hlt : decide ((pre.length : Int) < a.length) = true := by simpa using hl'
    have hix : a[pre.length]? = some x := by rw [he]; simp
    have hiy : b[pre.length]? = some y := by rw [he', hp]; simp
    have hn : (0 : Int) ≤ pre.length := by omega
    have hw : IntKind.i64.wrap ((pre.length : Int) + 1) = ((pre ++ [x]).length : Int) := by rw [List.length_append, wrapS (by omega) (by omega)]; simp
    have ex := ha x (by rw [he]; simp)
    have ey := hb y (by rw [he']; simp)
    have h1 := k16 x.op ex.op
    have h2 := k16 y.op ey.op
    have h3 := k18 x.ans ex.ans
    have h4 := k18 y.ans ey.ans
    simp only [eOp, eOpC, eAns, eAnsC] at h1 h2 h3 h4
    have ih := loop32 a b ha hb hl (acall tabS) rfl r r' (pre ++ [x]) (pre' ++ [y]) (by simpa using he) (by simpa using he') (by simpa using hp) (by simpa using hr)
    simp only [List.length_append, List.length_cons, List.length_nil, Nat.zero_add] at ih hw
    rw [sameEvs]
    rw [exK_loop]
    by_cases c1 : x.kind = y.kind
    · have d1 : (x.kind != y.kind) = false := by simp [c1]
      by_cases c2 : x.client = y.client
      · have d2 : (x.client != y.client) = false := by simp [c2]
        by_cases c3 : opN x.op = opN y.op
        · have d3 : (opN y.op != opN y.op) = false := by simp
          by_cases c4 : ansN x.ans = ansN y.ans
          · have d4 : (ansN y.ans != ansN y.ans) = false := by simp
            have hs : sameEvB x y = true := by simp [sameEvB, c1, c2, c3, c4]
            simp only [E32, hlt, hix, hiy, hn, eEvC, d1, d2, d3, d4, h1, h2, h3, h4, c3, c4, hw, hs, Bool.true_and, EVT, EVD, ↓reduceIte, Nat.reduceEqDiff, reduceCtorEq, Nat.reduceAdd, Nat.reduceLeDiff, ne_eq, Nat.reduceLT, Int.reduceLT, Int.reduceLE, Int.reduceNeg]
            exact ih
          · have d4 : (ansN x.ans != ansN y.ans) = true := by simpa using c4
            have hs : sameEvB x y = false := by simp [sameEvB, c4]
            simp only [E32, hlt, hix, hiy, hn, eEvC, d1, d2, d3, d4, h1, h2, h3, h4, c3, hs, Bool.false_and, EVT, EVD, ↓reduceIte, Nat.reduceEqDiff, reduceCtorEq, Nat.reduceAdd, Nat.reduceLeDiff, ne_eq, Nat.reduceLT, Int.reduceLT, Int.reduceLE, Int.reduceNeg]
        · have d3 : (opN x.op != opN y.op) = true := by simpa using c3
          have hs : sameEvB x y = false := by simp [sameEvB, c3]
          simp only [E32, hlt, hix, hiy, hn, eEvC, d1, d2, d3, h1, h2, h3, h4, hs, Bool.false_and, EVT, EVD, ↓reduceIte, Nat.reduceEqDiff, reduceCtorEq, Nat.reduceAdd, Nat.reduceLeDiff, ne_eq, Nat.reduceLT, Int.reduceLT, Int.reduceLE, Int.reduceNeg]
      · have d2 : (x.client != y.client) = true := by simpa using c2
        have hs : sameEvB x y = false := by simp [sameEvB, c2]
        simp only [E32, hlt, hix, hiy, hn, eEvC, d1, d2, hs, Bool.false_and, EVT, EVD, ↓reduceIte, Nat.reduceEqDiff, reduceCtorEq, Nat.reduceAdd, Nat.reduceLeDiff, ne_eq, Nat.reduceLT, Int.reduceLT, Int.reduceLE, Int.reduceNeg]
    · have d1 : (x.kind != y.kind) = true := by simpa using c1
      have hs : sameEvB x y = false := by simp [sameEvB, c1]
      simp only [E32, hlt, hix, hiy, hn, eEvC, d1, hs, Bool.false_and, EVT, EVD, ↓reduceIte, Nat.reduceEqDiff, reduceCtorEq, Nat.reduceAdd, Nat.reduceLeDiff, ne_eq, Nat.reduceLT, Int.reduceLT, Int.reduceLE, Int.reduceNeg]
theorem c32 (a b : List Event) (ha : ∀ e, e ∈ a → EvOk e) (hb : ∀ e, e ∈ b → EvOk e) (hl : a.length ≤ 100000) : acall tabS 32 [.slice .sh (a.map eEv), .slice .sh (b.map eEv)] [] = some (.bool (sameEvs a b), []) := by
  refine acall_ex rfl rfl rfl ?_
  by_cases h : a.length = b.length
  · have d : (((a.length : Nat) : Int) != ((b.length : Nat) : Int)) = false := by simp [h]
    have h0 := loop32 a b ha hb hl (acall tabS) rfl a b [] [] rfl rfl rfl h
    simp only [fn32, E32, List.length_map, d, EVT, EVD, ↓reduceIte, Nat.reduceEqDiff, reduceCtorEq, Nat.reduceAdd, Nat.reduceLeDiff, ne_eq, Nat.reduceLT, Int.reduceLT, Int.reduceLE, Int.reduceNeg]
    exact h0
  · have d : (((a.length : Nat) : Int) != ((b.length : Nat) : Int)) = true := by simp; omega
    rw [sameEvs_len h]
    simp only [fn32, E32, List.length_map, d, EVT, EVD, ↓reduceIte, Nat.reduceEqDiff, reduceCtorEq, Nat.reduceAdd, Nat.reduceLeDiff, ne_eq, Nat.reduceLT, Int.reduceLT, Int.reduceLE, Int.reduceNeg]
theorem k32 (a b : List Event) (ha : ∀ e, e ∈ a → EvOk e) (hb : ∀ e, e ∈ b → EvOk e) (hl : a.length ≤ 100000) (M : AMem) : callOp (acall tabS) 32 [.slice .sh (a.map eEv), .slice .sh (b.map eEv)] M = some (.bool (sameEvs a b), M) := callOp0 (c32 a b ha hb hl) rfl rfl rfl rfl rfl M
def cutEvN (e : Event) : Event := { e with op := cutOpN e.op, ans := cutAnsN e.ans }
def fewN (l : List Event) : List Event := (l.take 20).map cutEvN
theorem wid_evs : ∀ l : List Event, wid (l.map eEv) 17 = True := by
  intro l
  simp only [eq_iff_iff, iff_true]
  intro x hx
  obtain ⟨s, _, rfl⟩ := List.mem_map.1 hx
  rfl
theorem loop20 (l : List Event) (u : List Event) (hu : fewN l = u) (C : CallF) (hC : C = acall tabS) : ∀ (r pre : List Event), l = pre ++ r → pre.length ≤ 20 → ∀ (fn : List ARes) (base : Nat) (k : List K),
    exK C fn base (.block 0 :: k) (.loop [0, 3, 4] lb20_0) [(0, .slice .sh (l.map eEv)), (3, .slice (.own 0) ((pre.map cutEvN).map eEv)), (4, eI pre.length)] [.tick 17 pre.length] =
    kr C fn base k ⟨.normal, [(0, .slice .sh (l.map eEv)), (3, .slice (.own 0) (u.map eEv)), (4, eI u.length), (14, .bool false)], [.tick 17 u.length]⟩
  | [], pre, he, hp, fn, base, k => by
    subst hC
    have hpre : pre = l := by simpa using he.symm
    have hu' : u = pre.map cutEvN := by rw [← hu, fewN, ← hpre, List.take_of_length_le hp]
    subst hu'
    have hlt : decide ((pre.length : Int) < l.length) = false := by rw [hpre]; simp
    rw [exK_loop]
    simp only [E20, hlt, List.length_map, EVT, EVD, ↓reduceIte, Nat.reduceEqDiff, reduceCtorEq, Nat.reduceAdd, Nat.reduceLeDiff, ne_eq, Nat.reduceLT, Int.reduceLT, Int.reduceLE, Int.reduceNeg]
  | x :: r, pre, he, hp, fn, base, k => by
    subst hC
    have hl' : pre.length < l.length := by rw [he]; simp
    have hlt : decide ((pre.length : Int) < l.length) = true := by simpa using hl'
    by_cases h4 : pre.length = 20
    · have hu' : u = pre.map cutEvN := by rw [← hu, fewN, he, ← h4]; simp
      subst hu'
      have h40 : decide ((pre.length : Int) < 20) = false := by rw [h4]; rfl
      rw [exK_loop]
      simp only [E20, hlt, h40, List.length_map, EVT, EVD, ↓reduceIte, Nat.reduceEqDiff, reduceCtorEq, Nat.reduceAdd, Nat.reduceLeDiff, ne_eq, Nat.reduceLT, Int.reduceLT, Int.reduceLE, Int.reduceNeg]
    · have h40 : decide ((pre.length : Int) < 20) = true := by simp; omega
      have hix : l[pre.length]? = some x := by rw [he]; simp
      have hn : (0 : Int) ≤ pre.length := by omega
      have hw : IntKind.i64.wrap ((pre.length : Int) + 1) = ((pre ++ [x]).length : Int) := by rw [List.length_append, wrapS (by omega) (by omega)]; simp
      have hr := roomO (a := pre.length + 1) (b := 200) (by omega) (by omega)
      have ih := loop20 l u hu (acall tabS) rfl r (pre ++ [x]) (by simpa using he) (by simp; omega) fn base k
      have h12 := kS12 x.op
      have h13 := kS13 x.ans
      simp only [eOp, eOpC, eAns, eAnsC] at h12 h13
      simp only [List.length_append, List.length_cons, List.length_nil, Nat.zero_add, List.map_append, List.map_cons, List.map_nil] at ih hw
      rw [exK_loop]
      simp only [E20, eEvC, hlt, h40, hix, hn, hr, h12, h13, List.length_map, EVT, EVD, ↓reduceIte, Nat.reduceEqDiff, reduceCtorEq, Nat.reduceAdd, Nat.reduceLeDiff, ne_eq, Nat.reduceLT, Int.reduceLT, Int.reduceLE, Int.reduceNeg]
      simp only [E20, hw, wid_evs, EVT, EVD, ↓reduceIte, Nat.reduceEqDiff, reduceCtorEq, Nat.reduceAdd, Nat.reduceLeDiff, ne_eq, Nat.reduceLT, Int.reduceLT, Int.reduceLE, Int.reduceNeg]
      exact ih
theorem c20 (l : List Event) : acall tabS 20 [.slice .sh (l.map eEv)] [] = some (.slice .sh ((fewN l).map eEv), []) := by
  refine acall_ex rfl rfl rfl ?_
  have h0 := fun fn base k => loop20 l _ rfl (acall tabS) rfl l [] rfl (by simp) fn base k
  simp only [List.map_nil, List.length_nil] at h0
  simp only [fn20, E20, EVT, EVD, ↓reduceIte, Nat.reduceEqDiff, reduceCtorEq, Nat.reduceAdd, Nat.reduceLeDiff, ne_eq, Nat.reduceLT, Int.reduceLT, Int.reduceLE, Int.reduceNeg]
  refine (h0 _ _ _).trans ?_
  simp only [E20, EVT, EVD, ↓reduceIte, Nat.reduceEqDiff, reduceCtorEq, Nat.reduceAdd, Nat.reduceLeDiff, ne_eq, Nat.reduceLT, Int.reduceLT, Int.reduceLE, Int.reduceNeg]
theorem k20 (l : List Event) (M : AMem) : callOp (acall tabS) 20 [.slice .sh (l.map eEv)] M = some (.slice .sh ((fewN l).map eEv), M) := callOp0 (c20 l) rfl rfl rfl rfl rfl M
end Go.Proofs.YtannopdcbocngaaGreatDoor
namespace Go.Proofs.YtannopdcbocngaaGreatDoor
open Go Go.Abs
attribute [local irreducible] exK opsK opK gK forkK kr acall callOp owhen obind
def refC (a b : UInt8) : UInt8 := UInt8.ofNat (16 * ixN a + ixN b).toNat
def badC (a b : UInt8) : Bool := decide (ixN a < 0) || decide (ixN b < 0) || plainE (refC a b)
def rawO : Bytes → Option Bytes
  | c :: a :: b :: r => if plainE c = true then (rawO (a :: b :: r)).map (c :: ·) else if c = 37 ∧ badC a b = false then (rawO r).map (refC a b :: ·) else none
  | c :: r => if plainE c = true then (rawO r).map (c :: ·) else none
  | [] => some []
theorem rawO_plain {c : UInt8} (h : plainE c = true) (r : Bytes) : rawO (c :: r) = (rawO r).map (c :: ·) := by
  match r with
  | [] => rw [rawO, if_pos h]; intro a b r e; cases e
  | [a] => rw [rawO, if_pos h]; intro a b r e; cases e
  | a :: b :: r => rw [rawO, if_pos h]
def rawRes (out r : Bytes) : Bytes × Bool := match rawO r with
  | some u => (out ++ u, true)
  | none => ([], false)
theorem rawRes_step {out r r' : Bytes} {x : UInt8} (h : rawO r = (rawO r').map (x :: ·)) : rawRes (out ++ [x]) r' = rawRes out r := by
  unfold rawRes
  rw [h]
  cases rawO r' with
  | none => rfl
  | some u => simp
theorem rawRes_none {out r : Bytes} (h : rawO r = none) : rawRes out r = ([], false) := by unfold rawRes; rw [h]
theorem ix_le : ∀ c : UInt8, -1 ≤ ixN c ∧ ixN c ≤ 15 := all_bytes (by decide +kernel)
theorem loop34 (s : Bytes) (hs : s.length ≤ 1000000) (C : CallF) (hC : C = acall tabS) : ∀ (n : Nat) (r pre out : Bytes), r.length ≤ n → s = pre ++ r → out.length ≤ pre.length →
    exK C [.tmp 2, .tmp 3] 0 [.block 0, .seq q34_11] (.loop [0, 4, 5] lb34_0) [(0, .str s), (4, .slice (.own 0) (out.map u8V)), (5, eI pre.length)] [.tick 1 out.length] =
    some (.tuple [.str (rawRes out r).1, .bool (rawRes out r).2], [])
  | n, [], pre, out, hn, he, ho => by
    subst hC
    have hp : pre = s := by simpa using he.symm
    subst hp
    rw [exK_loop]
    have hlt : decide ((pre.length : Int) < pre.length) = false := by simp
    have h0 : rawRes out [] = (out, true) := by simp [rawRes, rawO]
    rw [h0]
    simp only [E34, hlt, bytes_u8, EVT, EVD, ↓reduceIte, Nat.reduceEqDiff, reduceCtorEq, Nat.reduceAdd, Nat.reduceLeDiff, ne_eq, Nat.reduceLT, Int.reduceLT, Int.reduceLE, Int.reduceNeg]
  | 0, c :: r, pre, out, hn, he, ho => by simp at hn
  | n + 1, c :: r, pre, out, hn, he, ho => by
    subst hC
    have hl : pre.length < s.length := by rw [he]; simp
    have hlt : decide ((pre.length : Int) < s.length) = true := by simpa using hl
    have hix : s[pre.length]? = some c := by rw [he]; simp
    have hp : (0 : Int) ≤ pre.length := by omega
    have hw : IntKind.i64.wrap ((pre.length : Int) + 1) = ((pre.length + 1 : Nat) : Int) := by rw [wrapS (by omega) (by omega)]; simp
    have hw2 : IntKind.i64.wrap ((pre.length : Int) + 2) = ((pre.length + 2 : Nat) : Int) := by rw [wrapS (by omega) (by omega)]; simp
    have hw3 : IntKind.i64.wrap (((pre.length + 2 : Nat) : Int) + 1) = ((pre.length + 3 : Nat) : Int) := by rw [wrapS (by omega) (by omega)]; omega
    have hr := roomO (a := out.length + 1) (b := 1) (by omega) (by omega)
    rw [exK_loop]
    by_cases hc : plainE c = true
    · have ih := loop34 s hs (acall tabS) rfl n r (pre ++ [c]) (out ++ [c]) (by simpa using hn) (by simpa using he) (by simp; omega)
      rw [rawRes_step (rawO_plain hc r)] at ih
      simp only [List.length_append, List.length_cons, List.length_nil, Nat.zero_add, List.map_append, List.map_cons, List.map_nil] at ih
      simp only [E34, hlt, hix, hp, k71, hc, hr, hw, EVT, EVD, ↓reduceIte, Nat.reduceEqDiff, reduceCtorEq, Nat.reduceAdd, Nat.reduceLeDiff, ne_eq, Nat.reduceLT, Int.reduceLT, Int.reduceLE, Int.reduceNeg]
      simp only [E34, widU, hw, EVT, EVD, ↓reduceIte, Nat.reduceEqDiff, reduceCtorEq, Nat.reduceAdd, Nat.reduceLeDiff, ne_eq, Nat.reduceLT, Int.reduceLT, Int.reduceLE, Int.reduceNeg]
      exact ih
    · have hc0 : plainE c = false := by simpa using hc
      by_cases h37 : c = 37
      · have hb37 : (((c.toNat : Nat) : Int) != 37) = false := by rw [h37]; rfl
        match r, hn, he with
        | [], hn, he =>
          have hge : decide (((s.length : Nat) : Int) ≤ ((pre.length + 2 : Nat) : Int)) = true := by rw [he]; simp
          have hn0 : rawO [c] = none := by rw [rawO, if_neg hc]; intro a b r e; cases e
          rw [rawRes_none hn0]
          simp only [E34, hlt, hix, hp, k71, hc0, hb37, hw2, hge, EVT, EVD, ↓reduceIte, Nat.reduceEqDiff, reduceCtorEq, Nat.reduceAdd, Nat.reduceLeDiff, ne_eq, Nat.reduceLT, Int.reduceLT, Int.reduceLE, Int.reduceNeg]
        | [a], hn, he =>
          have hge : decide (((s.length : Nat) : Int) ≤ ((pre.length + 2 : Nat) : Int)) = true := by rw [he]; simp
          have hn0 : rawO [c, a] = none := by rw [rawO, if_neg hc]; intro a b r e; cases e
          rw [rawRes_none hn0]
          simp only [E34, hlt, hix, hp, k71, hc0, hb37, hw2, hge, EVT, EVD, ↓reduceIte, Nat.reduceEqDiff, reduceCtorEq, Nat.reduceAdd, Nat.reduceLeDiff, ne_eq, Nat.reduceLT, Int.reduceLT, Int.reduceLE, Int.reduceNeg]
        | a :: b :: r, hn, he =>
          have hge : decide (((s.length : Nat) : Int) ≤ ((pre.length + 2 : Nat) : Int)) = false := by rw [he]; simp; omega
          have hia : s[pre.length + 1]? = some a := by rw [he, List.getElem?_append_right (by omega)]; simp
          have hib : s[pre.length + 2]? = some b := by rw [he, List.getElem?_append_right (by omega)]; simp
          have hp1 : (0 : Int) ≤ ((pre.length + 1 : Nat) : Int) := by omega
          have hp2 : (0 : Int) ≤ ((pre.length + 2 : Nat) : Int) := by omega
          have la := ix_le a
          have lb := ix_le b
          by_cases ga : ixN a < 0
          · have da : decide (ixN a < 0) = true := by simpa using ga
            have hn0 : rawO (c :: a :: b :: r) = none := by rw [rawO, if_neg hc, if_neg (fun e => by simp [badC, da] at e)]
            rw [rawRes_none hn0]
            simp only [E34, hlt, hix, hp, k71, hc0, hb37, hw2, hge, hw, hia, hib, hp1, hp2, natI, k72, da, EVT, EVD, ↓reduceIte, Nat.reduceEqDiff, reduceCtorEq, Nat.reduceAdd, Nat.reduceLeDiff, ne_eq, Nat.reduceLT, Int.reduceLT, Int.reduceLE, Int.reduceNeg]
          · have da : decide (ixN a < 0) = false := by simpa using ga
            by_cases gb : ixN b < 0
            · have db : decide (ixN b < 0) = true := by simpa using gb
              have hn0 : rawO (c :: a :: b :: r) = none := by rw [rawO, if_neg hc, if_neg (fun e => by simp [badC, db] at e)]
              rw [rawRes_none hn0]
              simp only [E34, hlt, hix, hp, k71, hc0, hb37, hw2, hge, hw, hia, hib, hp1, hp2, natI, k72, da, db, EVT, EVD, ↓reduceIte, Nat.reduceEqDiff, reduceCtorEq, Nat.reduceAdd, Nat.reduceLeDiff, ne_eq, Nat.reduceLT, Int.reduceLT, Int.reduceLE, Int.reduceNeg]
            · have db : decide (ixN b < 0) = false := by simpa using gb
              have w1 : IntKind.i64.wrap (16 * ixN a) = 16 * ixN a := wrapS (by omega) (by omega)
              have w2 : IntKind.i64.wrap (16 * ixN a + ixN b) = 16 * ixN a + ixN b := wrapS (by omega) (by omega)
              have w3 : IntKind.u8.wrap (16 * ixN a + ixN b) = (((refC a b).toNat : Nat) : Int) := by
                unfold refC
                rw [u8_of_nat (by omega), IntKind.wrap_u8]; omega
              by_cases gp : plainE (refC a b) = true
              · have hn0 : rawO (c :: a :: b :: r) = none := by rw [rawO, if_neg hc, if_neg (fun e => by simp [badC, gp] at e)]
                rw [rawRes_none hn0]
                simp only [E34, hlt, hix, hp, k71, hc0, hb37, hw2, hge, hw, hia, hib, hp1, hp2, natI, k72, da, db, w1, w2, w3, gp, EVT, EVD, ↓reduceIte, Nat.reduceEqDiff, reduceCtorEq, Nat.reduceAdd, Nat.reduceLeDiff, ne_eq, Nat.reduceLT, Int.reduceLT, Int.reduceLE, Int.reduceNeg]
              · have gp0 : plainE (refC a b) = false := by simpa using gp
                have hn1 : rawO (c :: a :: b :: r) = (rawO r).map (refC a b :: ·) := by rw [rawO, if_neg hc, if_pos ⟨h37, by simp [badC, da, db, gp0]⟩]
                have ih := loop34 s hs (acall tabS) rfl n r (pre ++ [c, a, b]) (out ++ [refC a b]) (by simp at hn ⊢; omega) (by simpa using he) (by simp; omega)
                rw [rawRes_step hn1] at ih
                simp only [List.length_append, List.length_cons, List.length_nil, Nat.zero_add, Nat.reduceAdd, List.map_append, List.map_cons, List.map_nil] at ih
                simp only [E34, hlt, hix, hp, k71, hc0, hb37, hw2, hge, hw, hia, hib, hp1, hp2, natI, k72, da, db, w1, w2, w3, gp0, hr, EVT, EVD, ↓reduceIte, Nat.reduceEqDiff, reduceCtorEq, Nat.reduceAdd, Nat.reduceLeDiff, ne_eq, Nat.reduceLT, Int.reduceLT, Int.reduceLE, Int.reduceNeg]
                simp only [E34, widU, hw2, hw3, EVT, EVD, ↓reduceIte, Nat.reduceEqDiff, reduceCtorEq, Nat.reduceAdd, Nat.reduceLeDiff, ne_eq, Nat.reduceLT, Int.reduceLT, Int.reduceLE, Int.reduceNeg]
                exact ih
      · have hb37 : (((c.toNat : Nat) : Int) != 37) = true := by
          simp only [bne_iff_ne, ne_eq]
          intro e
          have h3 : c.toNat = 37 := by omega
          exact h37 (UInt8.toNat_inj.1 (by rw [h3]; rfl))
        have hn0 : rawO (c :: r) = none := by
          match r with
          | [] => rw [rawO, if_neg hc]; intro a b r e; cases e
          | [a] => rw [rawO, if_neg hc]; intro a b r e; cases e
          | a :: b :: r => rw [rawO, if_neg hc, if_neg (fun e => h37 e.1)]
        rw [rawRes_none hn0]
        simp only [E34, hlt, hix, hp, k71, hc0, hb37, EVT, EVD, ↓reduceIte, Nat.reduceEqDiff, reduceCtorEq, Nat.reduceAdd, Nat.reduceLeDiff, ne_eq, Nat.reduceLT, Int.reduceLT, Int.reduceLE, Int.reduceNeg]
def refRaw (s : Bytes) : Bytes × Bool := rawRes [] s
theorem c34 (s : Bytes) (hs : s.length ≤ 1000000) : acall tabS 34 [.str s] [] = some (.tuple [.str (refRaw s).1, .bool (refRaw s).2], []) := by
  refine acall_ex rfl rfl rfl ?_
  have h0 := loop34 s hs (acall tabS) rfl s.length s [] [] (Nat.le_refl _) rfl (Nat.le_refl _)
  simp only [fn34, E34, EVT, EVD, ↓reduceIte, Nat.reduceEqDiff, reduceCtorEq, Nat.reduceAdd, Nat.reduceLeDiff, ne_eq, Nat.reduceLT, Int.reduceLT, Int.reduceLE, Int.reduceNeg]
  exact h0
theorem k34 (s : Bytes) (hs : s.length ≤ 1000000) (M : AMem) : callOp (acall tabS) 34 [.str s] M = some (.tuple [.str (refRaw s).1, .bool (refRaw s).2], M) := callOp0 (c34 s hs) rfl rfl rfl rfl rfl M
theorem refRaw_one (c : UInt8) : (refRaw [c]).2 = plainE c := by
  by_cases h : plainE c = true
  · unfold refRaw rawRes
    rw [rawO_plain h, h]
    rfl
  · have : rawO [c] = none := by rw [rawO, if_neg h]; intro a b r e; cases e
    unfold refRaw
    rw [rawRes_none this]
    simpa using h
theorem refC_facts : ∀ c : UInt8, refC (hexD (c.toNat / 16)) (hexD (c.toNat % 16)) = c ∧ (plainE c = false → badC (hexD (c.toNat / 16)) (hexD (c.toNat % 16)) = false) := all_bytes (by decide +kernel)
theorem rawO_esc : ∀ s : Bytes, rawO (escN s) = some s
  | [] => rfl
  | c :: r => by
    have ih := rawO_esc r
    have h := refC_facts c
    rw [show escN (c :: r) = escB c ++ escN r by simp [escN]]
    unfold escB
    split
    · rename_i hp
      rw [show [c] ++ escN r = c :: escN r from rfl, rawO_plain hp, ih]; rfl
    · rename_i hp
      have hp0 : plainE c = false := by simpa using hp
      rw [show [37, hexD (c.toNat / 16), hexD (c.toNat % 16)] ++ escN r = 37 :: hexD (c.toNat / 16) :: hexD (c.toNat % 16) :: escN r from rfl, rawO, if_neg (by rw [plain_not.2.2.2.2.2]; simp), if_pos ⟨rfl, h.2 hp0⟩, ih, h.1]
      rfl
theorem refRaw_esc (s : Bytes) : refRaw (escN s) = (s, true) := by
  unfold refRaw rawRes
  rw [rawO_esc]
  rfl
end Go.Proofs.YtannopdcbocngaaGreatDoor
namespace Go.Proofs.YtannopdcbocngaaGreatDoor
open Go Go.Abs
def Lb (c : UInt8) : Prop := plainE c = true ∨ c = 37 ∨ c = 61 ∨ c = 44
theorem num_plain : ∀ c : UInt8, (c = 45 ∨ (48 ≤ c.toNat ∧ c.toNat ≤ 57)) → plainE c = true := all_bytes (by decide +kernel)
theorem lb_facts : ∀ c : UInt8, Lb c → c ≠ 32 ∧ c ≠ 10 ∧ c ≠ 58 := by
  intro c h
  have h1 := (plain_facts c).1
  rcases h with h | rfl | rfl | rfl
  · exact ⟨(h1 h).2.1, (h1 h).2.2.2.2.1, (h1 h).2.2.2.2.2⟩
  · decide
  · decide
  · decide
theorem itoa_lb {n : Int} : ∀ c, c ∈ Lib.itoa n → Lb c := fun c h => .inl (num_plain c (itoa_byte c h))
theorem escN_lb {s : Bytes} : ∀ c, c ∈ escN s → Lb c := fun c h => (escN_byte c h).elim .inl (fun h => .inr (.inl h))
theorem firstN_lb (k : Int) : ∀ c, c ∈ firstN k → Lb c := fun c h => (firstN_byte k c h).elim .inl (fun h => .inl (num_plain c h))
theorem errN_lb (k : Int) : ∀ c, c ∈ errN k → Lb c := fun c h => (errN_byte k c h).elim .inl (fun h => .inl (num_plain c h))
theorem words_ne : ∀ w, w ∈ wordsL.tail → w ≠ [] := by decide
theorem firstN_ne (k : Int) : firstN k ≠ [] := by
  unfold firstN
  split
  · rename_i h
    have h1 : k.toNat - 1 + 1 < wordsL.length := by show k.toNat - 1 + 1 < 18; omega
    have h2 : wordsL.getD k.toNat [] ∈ wordsL.tail := by
      have e : k.toNat = k.toNat - 1 + 1 := by omega
      rw [List.getD_eq_getElem?_getD, e, ← List.getElem?_tail, List.getElem?_eq_getElem (by rw [List.length_tail]; omega)]
      exact List.getElem_mem _
    exact words_ne _ h2
  · simp
theorem errN_ne (k : Int) : errN k ≠ [] := by unfold errN; split <;> simp
def RowLb (p : Bytes × Bytes) : Prop := (∀ c, c ∈ p.1 → Lb c) ∧ ∀ c, c ∈ p.2 → Lb c
theorem body_lb {p : Bytes × Bytes} (h : RowLb p) : bodyR p ≠ [] ∧ ∀ c, c ∈ bodyR p → Lb c := by
  refine ⟨by simp [bodyR], fun c hc => ?_⟩
  unfold bodyR at hc
  rcases List.mem_append.1 hc with hc | hc
  · exact h.1 c hc
  · rcases List.mem_cons.1 hc with rfl | hc
    · exact .inr (.inr (.inl rfl))
    · exact h.2 c hc
theorem rowsF_lb {l : List Fld} (h : ∀ f, f ∈ l → (∀ c, c ∈ f.word → Lb c) ∧ ∀ c, c ∈ f.s → Lb c) : ∀ p, p ∈ rowsF l → RowLb p := by
  intro p hp
  obtain ⟨f, hf, rfl⟩ := List.mem_map.1 hp
  have h1 := h f (List.mem_filter.1 hf).1
  refine ⟨h1.1, fun c hc => ?_⟩
  simp only [valF] at hc
  split at hc
  · exact itoa_lb c hc
  · exact h1.2 c hc
theorem fld_words : ∀ w, w ∈ [wClient, wPath, wTo, wN, wM, wHandle, wData, wIno, wKind, wNames] → ∀ c, c ∈ w → plainE c = true := by decide +kernel
theorem word_lb {w : Bytes} (h : w ∈ [wClient, wPath, wTo, wN, wM, wHandle, wData, wIno, wKind, wNames]) {n : Int} {s : Bytes} (hs : ∀ c, c ∈ s → Lb c) : (∀ c, c ∈ (⟨w, n, s⟩ : Fld).word → Lb c) ∧ ∀ c, c ∈ (⟨w, n, s⟩ : Fld).s → Lb c := ⟨fun c hc => .inl (fld_words w h c hc), hs⟩
theorem no_lb : ∀ c : UInt8, c ∈ ([] : Bytes) → Lb c := fun c h => by cases h
theorem opFlds_lb (o : Op) : ∀ f, f ∈ opFlds o → (∀ c, c ∈ f.word → Lb c) ∧ ∀ c, c ∈ f.s → Lb c := by
  intro f hf
  simp only [opFlds, List.mem_cons, List.not_mem_nil, or_false] at hf
  rcases hf with rfl | rfl | rfl | rfl | rfl | rfl | rfl
  · exact word_lb (by simp) no_lb
  · exact word_lb (by simp) escN_lb
  · exact word_lb (by simp) escN_lb
  · exact word_lb (by simp) no_lb
  · exact word_lb (by simp) no_lb
  · exact word_lb (by simp) no_lb
  · exact word_lb (by simp) escN_lb
theorem ansFlds_lb (a : Ans) : ∀ f, f ∈ ansFlds a → (∀ c, c ∈ f.word → Lb c) ∧ ∀ c, c ∈ f.s → Lb c := by
  intro f hf
  simp only [ansFlds, List.mem_cons, List.not_mem_nil, or_false] at hf
  rcases hf with rfl | rfl | rfl | rfl
  · exact word_lb (by simp) no_lb
  · exact word_lb (by simp) no_lb
  · exact word_lb (by simp) no_lb
  · exact word_lb (by simp) no_lb
theorem rowsA_lb (a : Ans) : ∀ p, p ∈ rowsA a → RowLb p := by
  intro p hp
  unfold rowsA at hp
  rcases List.mem_append.1 hp with hp | hp
  · exact rowsF_lb (ansFlds_lb a) p hp
  · rcases List.mem_append.1 hp with hp | hp
    · unfold rowsNm at hp
      split at hp
      · simp only [List.mem_singleton] at hp
        subst hp
        refine ⟨fun c hc => .inl (fld_words wNames (by simp) c hc), fun c hc => ?_⟩
        rcases join_mem hc with rfl | ⟨x, hx, hc⟩
        · exact .inr (.inr (.inr rfl))
        · obtain ⟨y, _, rfl⟩ := List.mem_map.1 hx
          exact escN_lb c hc
      · cases hp
    · exact rowsF_lb (fun f hf => by simp only [List.mem_singleton] at hf; subst hf; exact word_lb (by simp) escN_lb) p hp
theorem line_words {first : Bytes} {R : List (Bytes × Bytes)} (h1 : first ≠ []) (h2 : ∀ c, c ∈ first → Lb c) (hR : ∀ p, p ∈ R → RowLb p) :
    (∀ w, w ∈ cutL 32 (first ++ R.flatMap fun p => 32 :: bodyR p) → w ≠ [] ∧ ∀ c, c ∈ w → Lb c) ∧ ∀ c, c ∈ first ++ (R.flatMap fun p => 32 :: bodyR p) → c = 32 ∨ Lb c := by
  have e : (R.flatMap fun p => 32 :: bodyR p) = (R.map bodyR).flatMap (32 :: ·) := by rw [List.flatMap_map]
  have hb : ∀ b, b ∈ R.map bodyR → b ≠ [] ∧ ∀ c, c ∈ b → Lb c := fun b hb => by
    obtain ⟨p, hp, rfl⟩ := List.mem_map.1 hb
    exact body_lb (hR p hp)
  have h : cutL 32 (first ++ (R.map bodyR).flatMap (32 :: ·)) = first :: R.map bodyR := cutL_rows _ _ (fun hc => (lb_facts _ (h2 _ hc)).1 rfl) (fun b hbm hc => (lb_facts _ ((hb b hbm).2 _ hc)).1 rfl)
  constructor
  · intro w hw
    rw [e, h] at hw
    rcases List.mem_cons.1 hw with rfl | hw
    · exact ⟨h1, h2⟩
    · exact hb w hw
  · intro c hc
    rcases List.mem_append.1 hc with hc | hc
    · exact .inr (h2 c hc)
    · obtain ⟨p, hp, hc⟩ := List.mem_flatMap.1 hc
      rcases List.mem_cons.1 hc with rfl | hc
      · exact .inl rfl
      · exact .inr ((body_lb (hR p hp)).2 c hc)
theorem opN_rows (o : Op) : opN o = firstN o.kind ++ (rowsF (opFlds o)).flatMap fun p => 32 :: bodyR p := by
  unfold opN lineN
  rw [fldsN_rows]
theorem opN_words (o : Op) : (∀ w, w ∈ cutL 32 (opN o) → w ≠ [] ∧ ∀ c, c ∈ w → Lb c) ∧ ∀ c, c ∈ opN o → c = 32 ∨ Lb c := by
  rw [opN_rows]
  exact line_words (firstN_ne _) (firstN_lb _) (rowsF_lb (opFlds_lb o))
theorem ansN_words (a : Ans) : (∀ w, w ∈ cutL 32 (ansN a) → w ≠ [] ∧ ∀ c, c ∈ w → Lb c) ∧ ∀ c, c ∈ ansN a → c = 32 ∨ Lb c := by
  rw [ansN_rows]
  exact line_words (errN_ne _) (errN_lb _) (rowsA_lb a)
theorem opN_10 (o : Op) : (10 : UInt8) ∉ opN o := fun h => ((opN_words o).2 _ h).elim (fun e => by revert e; decide) (fun h => (lb_facts _ h).2.1 rfl)
theorem ansN_10 (a : Ans) : (10 : UInt8) ∉ ansN a := fun h => ((ansN_words a).2 _ h).elim (fun e => by revert e; decide) (fun h => (lb_facts _ h).2.1 rfl)
theorem index_two {c d : UInt8} : ∀ {h : Bytes} (r : Bytes), c ∉ h → Lib.index (h ++ c :: d :: r) [c, d] = h.length
  | [], r, _ => by unfold Lib.index; simp [List.isPrefixOf]
  | x :: h, r, hc => by
    have ih := index_two (c := c) (d := d) (h := h) r (fun e => hc (List.mem_cons_of_mem _ e))
    have hx : (c == x) = false := by
      simp only [beq_eq_false_iff_ne, ne_eq]
      exact fun e => hc (by rw [e]; simp)
    rw [List.cons_append, Lib.index]
    have hp : ([c, d] : Bytes).isPrefixOf (x :: (h ++ c :: d :: r)) = false := by simp [List.isPrefixOf, hx]
    rw [hp, ih]
    have : ((h.length : Int) == -1) = false := by simp
    rw [this]
    simp
theorem cut_two {c d : UInt8} {h : Bytes} (r : Bytes) (hc : c ∉ h) : Lib.cut (h ++ c :: d :: r) [c, d] = (h, r, true) := by
  unfold Lib.cut
  rw [index_two r hc, if_pos (by omega), natI, List.take_left, show h.length + [c, d].length = (h ++ [c, d]).length by simp, show h ++ c :: d :: r = (h ++ [c, d]) ++ r by simp, List.drop_left]
theorem cut_one {c : UInt8} {w v : Bytes} (h : c ∉ w) : Lib.cut (w ++ c :: v) [c] = (w, v, true) := by
  rw [cut_cutL, if_pos (by simp), cutL_app v h]
  simp
def evLine (e : Event) : Bytes := if e.kind = 1 then [98, 101, 103, 105, 110] ++ 32 :: (Lib.itoa e.client) ++ 58 :: 32 :: opN e.op else [101, 110, 100] ++ 32 :: (Lib.itoa e.client) ++ 58 :: 32 :: ansN e.ans
def cleanN (e : Event) : Event := if e.kind = 1 then ⟨1, e.client, e.op, ansZ⟩ else ⟨2, e.client, opZ, e.ans⟩
def keepN (l : List Event) : List Event := l.flatMap fun e => if e.kind = 1 ∨ e.kind = 2 then [cleanN e] else []
theorem itoa58 (n : Int) : (58 : UInt8) ∉ Lib.itoa n := itoa_not (by decide)
theorem itoa10 (n : Int) : (10 : UInt8) ∉ Lib.itoa n := itoa_not (by decide)
theorem evOf_line {e : Event} (h : EvOk e) (hk : e.kind = 1 ∨ e.kind = 2) : evOf (evLine e) = (cleanN e, true) := by
  by_cases h1 : e.kind = 1
  · have hc : Lib.cut (evLine e) [58, 32] = ([98, 101, 103, 105, 110] ++ 32 :: Lib.itoa e.client, opN e.op, true) := by
      unfold evLine
      rw [if_pos h1]
      refine cut_two _ ?_
      simp only [List.mem_append, List.mem_cons, not_or, List.not_mem_nil]
      exact ⟨by decide, by decide, itoa58 _⟩
    have hc2 : Lib.cut ([98, 101, 103, 105, 110] ++ 32 :: Lib.itoa e.client) [32] = ([98, 101, 103, 105, 110], Lib.itoa e.client, true) := cut_one (by decide)
    unfold evOf evWord evClient evRest evHas
    rw [hc]
    simp only
    rw [hc2]
    simp only [if_true]
    rw [rdOp_back h.op, atoi_itoa h.client]
    unfold cleanN
    rw [if_pos h1]
    rfl
  · have h2 : e.kind = 2 := hk.resolve_left h1
    have hc : Lib.cut (evLine e) [58, 32] = ([101, 110, 100] ++ 32 :: Lib.itoa e.client, ansN e.ans, true) := by
      unfold evLine
      rw [if_neg h1]
      refine cut_two _ ?_
      simp only [List.mem_append, List.mem_cons, not_or, List.not_mem_nil]
      exact ⟨by decide, by decide, itoa58 _⟩
    have hc2 : Lib.cut ([101, 110, 100] ++ 32 :: Lib.itoa e.client) [32] = ([101, 110, 100], Lib.itoa e.client, true) := cut_one (by decide)
    unfold evOf evWord evClient evRest evHas
    rw [hc]
    simp only
    rw [hc2]
    simp only [show ¬ (([101, 110, 100] : Bytes) = [98, 101, 103, 105, 110]) by decide, if_false, if_true]
    rw [rdAns_back h.ans, atoi_itoa h.client]
    unfold cleanN
    rw [if_neg h1]
    rfl
theorem evN_line {e : Event} (hk : e.kind = 1 ∨ e.kind = 2) : evN e = evLine e ++ [10] := by
  unfold evN evLine
  by_cases h1 : e.kind = 1
  · rw [if_pos h1, if_pos h1]; simp
  · rw [if_neg h1, if_neg h1, if_pos (hk.resolve_left h1)]; simp
theorem evN_none {e : Event} (hk : ¬ (e.kind = 1 ∨ e.kind = 2)) : evN e = [] := by
  unfold evN
  rw [if_neg (fun h => hk (.inl h)), if_neg (fun h => hk (.inr h))]
theorem evLine_10 (e : Event) : (10 : UInt8) ∉ evLine e := by
  unfold evLine
  split
  · simp only [List.mem_append, List.mem_cons, not_or, List.not_mem_nil]
    exact ⟨⟨by decide, by decide, itoa10 _⟩, by decide, by decide, opN_10 _⟩
  · simp only [List.mem_append, List.mem_cons, not_or, List.not_mem_nil]
    exact ⟨⟨by decide, by decide, itoa10 _⟩, by decide, by decide, ansN_10 _⟩
theorem evLine_ne (e : Event) : evLine e ≠ [] := by unfold evLine; split <;> simp
theorem evGo_hist : ∀ {l : List Event}, (∀ e, e ∈ l → EvOk e) → evGo (cutL 10 (histN l)) = some (keepN l)
  | [], _ => rfl
  | e :: r, h => by
    have ih := evGo_hist (l := r) (fun x hx => h x (List.mem_cons_of_mem _ hx))
    have e1 : histN (e :: r) = evN e ++ histN r := by simp [histN]
    have e2 : keepN (e :: r) = (if e.kind = 1 ∨ e.kind = 2 then [cleanN e] else []) ++ keepN r := by simp [keepN]
    rw [e1, e2]
    by_cases hk : e.kind = 1 ∨ e.kind = 2
    · rw [evN_line hk, List.append_assoc, show [10] ++ histN r = 10 :: histN r from rfl, cutL_app _ (evLine_10 e), evGo, if_neg (evLine_ne e), evOf_line (h e (by simp)) hk, if_pos rfl, ih, if_pos hk]
      rfl
    · rw [evN_none hk, if_neg hk]
      simpa using ih
theorem evN_clean {e : Event} (hk : e.kind = 1 ∨ e.kind = 2) : evN (cleanN e) = evN e := by
  unfold cleanN evN
  by_cases h1 : e.kind = 1
  · simp [h1]
  · have h2 : e.kind = 2 := hk.resolve_left h1
    simp [h2]
theorem histN_keep : ∀ l : List Event, histN (keepN l) = histN l
  | [] => rfl
  | e :: r => by
    have ih := histN_keep r
    have e1 : histN (e :: r) = evN e ++ histN r := by simp [histN]
    have e2 : keepN (e :: r) = (if e.kind = 1 ∨ e.kind = 2 then [cleanN e] else []) ++ keepN r := by simp [keepN]
    rw [e1, e2]
    by_cases hk : e.kind = 1 ∨ e.kind = 2
    · rw [if_pos hk]
      rw [show histN ([cleanN e] ++ keepN r) = evN (cleanN e) ++ histN (keepN r) by simp [histN], ih, evN_clean hk]
    · rw [if_neg hk, evN_none hk]
      simpa using ih
theorem rdHist_back {l : List Event} (h : ∀ e, e ∈ l → EvOk e) : rdHist (histN l) = (keepN l, 0) := by
  unfold rdHist
  rw [evGo_hist h]
  simp only
  rw [histN_keep, if_pos rfl]
theorem histN_app (a b : List Event) : histN (a ++ b) = histN a ++ histN b := by simp [histN]
theorem count_hist : ∀ l : List Event, (histN l).count 10 = (keepN l).length
  | [] => rfl
  | e :: r => by
    have ih := count_hist r
    have e1 : histN (e :: r) = evN e ++ histN r := by simp [histN]
    have e2 : keepN (e :: r) = (if e.kind = 1 ∨ e.kind = 2 then [cleanN e] else []) ++ keepN r := by simp [keepN]
    rw [e1, e2, List.count_append, List.length_append, ih]
    by_cases hk : e.kind = 1 ∨ e.kind = 2
    · rw [if_pos hk, evN_line hk, List.count_append, List.count_eq_zero.2 (evLine_10 e)]
      rfl
    · rw [if_neg hk, evN_none hk]
      rfl
theorem sameEvs_self : ∀ l : List Event, sameEvs l l = true
  | [] => rfl
  | x :: r => by rw [sameEvs, sameEvs_self r]; simp [sameEvB]
end Go.Proofs.YtannopdcbocngaaGreatDoor
namespace Go.Proofs.YtannopdcbocngaaGreatDoor
open Go Go.Abs
attribute [local irreducible] exK opsK opK gK forkK kr acall callOp owhen obind
def beginsN (s w : Bytes) : Bytes × Bool := if w.length ≤ s.length ∧ s.take w.length = w then (s.drop w.length, true) else ([], false)
theorem c66 (s w : Bytes) : acall tabS 66 [.str s, .str w] [] = some (.tuple [.str (beginsN s w).1, .bool (beginsN s w).2], []) := by
  refine acall_ex rfl rfl rfl ?_
  by_cases h : s.length < w.length
  · have hb : decide ((s.length : Int) < w.length) = true := by simpa using h
    have hr : beginsN s w = ([], false) := by unfold beginsN; rw [if_neg (fun e => absurd e.1 (by omega))]
    rw [hr]
    simp only [fn66, E66, hb, EVT, EVD, ↓reduceIte, Nat.reduceEqDiff, reduceCtorEq, Nat.reduceAdd, Nat.reduceLeDiff, ne_eq, Nat.reduceLT, Int.reduceLT, Int.reduceLE, Int.reduceNeg]
  · have hb : decide ((s.length : Int) < w.length) = false := by simpa using h
    have h2 : ((w.length : Int) ≤ s.length ∧ ((0 : Nat) : Int) ≤ w.length) = True := by simp only [eq_iff_iff, iff_true]; omega
    have h3 : ((s.length : Int) ≤ s.length ∧ (w.length : Int) ≤ s.length) = True := by simp only [eq_iff_iff, iff_true]; omega
    by_cases hw : s.take w.length = w
    · have hb2 : (s.take w.length != w) = false := by simp [hw]
      have hr : beginsN s w = (s.drop w.length, true) := by unfold beginsN; rw [if_pos ⟨by omega, hw⟩]
      rw [hr]
      simp only [fn66, E66, hb, h2, h3, hb2, natI, List.take_length, EVT, EVD, ↓reduceIte, Nat.reduceEqDiff, reduceCtorEq, Nat.reduceAdd, Nat.reduceLeDiff, ne_eq, Nat.reduceLT, Int.reduceLT, Int.reduceLE, Int.reduceNeg]
    · have hb2 : (s.take w.length != w) = true := by simpa using hw
      have hr : beginsN s w = ([], false) := by unfold beginsN; rw [if_neg (fun e => hw e.2)]
      rw [hr]
      simp only [fn66, E66, hb, h2, hb2, natI, EVT, EVD, ↓reduceIte, Nat.reduceEqDiff, reduceCtorEq, Nat.reduceAdd, Nat.reduceLeDiff, ne_eq, Nat.reduceLT, Int.reduceLT, Int.reduceLE, Int.reduceNeg]
theorem k66 (s w : Bytes) (M : AMem) : callOp (acall tabS) 66 [.str s, .str w] M = some (.tuple [.str (beginsN s w).1, .bool (beginsN s w).2], M) := callOp0 (c66 s w) rfl rfl rfl rfl rfl M
def numGo : Bytes → Nat → Option Nat
  | [], m => some m
  | c :: r, m => if c.toNat < 48 ∨ 57 < c.toNat then none else numGo r ((10 * m + (c.toNat - 48)) % 18446744073709551616)
def numEnd (neg : Bool) : Option Nat → Int
  | none => 0
  | some m => IntKind.i64.wrap (if neg = true then IntKind.u64.wrap (0 - (m : Int)) else m)
theorem numEnd_ok (neg : Bool) (x : Option Nat) : okI (numEnd neg x) := by
  unfold numEnd okI
  split
  · omega
  · rw [IntKind.wrap_i64]; omega
theorem loop62 (s : Bytes) (hs : s.length ≤ 1000000) (sg : Int) (neg : Bool) (hsg : (sg == 1) = neg) (C : CallF) (hC : C = acall tabS) : ∀ (r pre : Bytes), s = pre ++ r → ∀ (m : Nat), m < 18446744073709551616 →
    exK C [.tmp 2] 0 [.block 0, .seq q62_8] (.loop [0, 3, 4, 5] lb62_0) [(0, .str s), (3, eI sg), (4, .int .u64 m), (5, eI pre.length)] [] =
    some (eI (numEnd neg (numGo r m)), [])
  | [], pre, he, m, hm => by
    subst hC
    have hpre : pre = s := by simpa using he.symm
    subst hpre
    have hlt : decide ((pre.length : Int) < pre.length) = false := by simp
    rw [exK_loop]
    cases neg with
    | true => simp only [E62, hlt, hsg, numGo, numEnd, if_true, EVT, EVD, ↓reduceIte, Nat.reduceEqDiff, reduceCtorEq, Nat.reduceAdd, Nat.reduceLeDiff, ne_eq, Nat.reduceLT, Int.reduceLT, Int.reduceLE, Int.reduceNeg]
    | false => simp only [E62, hlt, hsg, numGo, numEnd, Bool.false_eq_true, if_false, EVT, EVD, ↓reduceIte, Nat.reduceEqDiff, reduceCtorEq, Nat.reduceAdd, Nat.reduceLeDiff, ne_eq, Nat.reduceLT, Int.reduceLT, Int.reduceLE, Int.reduceNeg]
  | c :: r, pre, he, m, hm => by
    subst hC
    have hl' : pre.length < s.length := by rw [he]; simp
    have hlt : decide ((pre.length : Int) < s.length) = true := by simpa using hl'
    have hix : s[pre.length]? = some c := by rw [he]; simp
    have hn : (0 : Int) ≤ pre.length := by omega
    have hw : IntKind.i64.wrap ((pre.length : Int) + 1) = ((pre.length + 1 : Nat) : Int) := by rw [wrapS (by omega) (by omega)]; simp
    have hcl := c.toNat_lt
    rw [exK_loop, numGo]
    by_cases h1 : c.toNat < 48
    · have d1 : decide (((c.toNat : Nat) : Int) < 48) = true := by simp; omega
      rw [if_pos (.inl h1)]
      simp only [E62, hlt, hix, hn, d1, numEnd, EVT, EVD, ↓reduceIte, Nat.reduceEqDiff, reduceCtorEq, Nat.reduceAdd, Nat.reduceLeDiff, ne_eq, Nat.reduceLT, Int.reduceLT, Int.reduceLE, Int.reduceNeg]
    · have d1 : decide (((c.toNat : Nat) : Int) < 48) = false := by simp; omega
      by_cases h2 : 57 < c.toNat
      · have d2 : decide (57 < ((c.toNat : Nat) : Int)) = true := by simp; omega
        rw [if_pos (.inr h2)]
        simp only [E62, hlt, hix, hn, d1, d2, numEnd, EVT, EVD, ↓reduceIte, Nat.reduceEqDiff, reduceCtorEq, Nat.reduceAdd, Nat.reduceLeDiff, ne_eq, Nat.reduceLT, Int.reduceLT, Int.reduceLE, Int.reduceNeg]
      · have d2 : decide (57 < ((c.toNat : Nat) : Int)) = false := by simp; omega
        rw [if_neg (by omega)]
        have hv : IntKind.u64.wrap (IntKind.u64.wrap (IntKind.u64.wrap (10 * (m : Int)) + IntKind.u64.wrap ((c.toNat : Nat) : Int)) - 48) = (((10 * m + (c.toNat - 48)) % 18446744073709551616 : Nat) : Int) := by
          simp only [IntKind.wrap_u64]
          omega
        have ih := loop62 s hs sg neg hsg (acall tabS) rfl r (pre ++ [c]) (by simpa using he) ((10 * m + (c.toNat - 48)) % 18446744073709551616) (by omega)
        simp only [List.length_append, List.length_cons, List.length_nil, Nat.zero_add] at ih
        simp only [E62, hlt, hix, hn, d1, d2, hv, EVT, EVD, ↓reduceIte, Nat.reduceEqDiff, reduceCtorEq, Nat.reduceAdd, Nat.reduceLeDiff, ne_eq, Nat.reduceLT, Int.reduceLT, Int.reduceLE, Int.reduceNeg]
        simp only [E62, hw, EVT, EVD, ↓reduceIte, Nat.reduceEqDiff, reduceCtorEq, Nat.reduceAdd, Nat.reduceLeDiff, ne_eq, Nat.reduceLT, Int.reduceLT, Int.reduceLE, Int.reduceNeg]
        exact ih
def numR (s : Bytes) : Int := if 20 < s.length then 0 else match s with
  | [] => 0
  | c :: r => if c = 45 then (if r = [] then 0 else numEnd true (numGo r 0)) else numEnd false (numGo (c :: r) 0)
theorem numR_ok (s : Bytes) : okI (numR s) := by
  unfold numR
  split
  · exact okI_zero
  · split
    · exact okI_zero
    · split
      · split
        · exact okI_zero
        · exact numEnd_ok _ _
      · exact numEnd_ok _ _
theorem c62 (s : Bytes) (hs : s.length ≤ 1000000) : acall tabS 62 [.str s] [] = some (eI (numR s), []) := by
  refine acall_ex rfl rfl rfl ?_
  cases s with
  | nil =>
    simp only [fn62, E62, numR, List.length_nil, show decide ((20 : Int) < ((0 : Nat) : Int)) = false from rfl, show (((0 : Int)) == ((0 : Nat) : Int)) = true from rfl, show (([] : Bytes) != []) = false from rfl, EVT, EVD, ↓reduceIte, Nat.reduceEqDiff, reduceCtorEq, Nat.reduceAdd, Nat.reduceLeDiff, ne_eq, Nat.reduceLT, Int.reduceLT, Int.reduceLE, Int.reduceNeg]
    try rfl
  | cons c r =>
    have hne : ((c :: r) != []) = true := by simp
    have h20 : decide ((20 : Int) < ((r.length + 1 : Nat) : Int)) = decide (20 < r.length + 1) := by
      rw [Bool.eq_iff_iff]; simp only [decide_eq_true_eq]; omega
    by_cases hl : 20 < r.length + 1
    · have hd : decide (20 < r.length + 1) = true := by simpa using hl
      have hr : numR (c :: r) = 0 := by unfold numR; rw [if_pos (by simpa using hl)]
      rw [hd] at h20
      rw [hr]
      by_cases hc : c = 45
      · have hb : (((c.toNat : Nat) : Int) == 45) = true := by rw [hc]; rfl
        simp only [fn62, E62, hne, hb, h20, ix0, List.length_cons, EVT, EVD, ↓reduceIte, Nat.reduceEqDiff, reduceCtorEq, Nat.reduceAdd, Nat.reduceLeDiff, ne_eq, Nat.reduceLT, Int.reduceLT, Int.reduceLE, Int.reduceNeg]
      · have hb : (((c.toNat : Nat) : Int) == 45) = false := by
          simp only [beq_eq_false_iff_ne, ne_eq]
          intro e
          have h3 : c.toNat = 45 := by omega
          exact hc (UInt8.toNat_inj.1 (by rw [h3]; rfl))
        simp only [fn62, E62, hne, hb, h20, ix0, List.length_cons, EVT, EVD, ↓reduceIte, Nat.reduceEqDiff, reduceCtorEq, Nat.reduceAdd, Nat.reduceLeDiff, ne_eq, Nat.reduceLT, Int.reduceLT, Int.reduceLE, Int.reduceNeg]
    · have hd : decide (20 < r.length + 1) = false := by simpa using hl
      rw [hd] at h20
      by_cases hc : c = 45
      · have hb : (((c.toNat : Nat) : Int) == 45) = true := by rw [hc]; rfl
        cases r with
        | nil =>
          have hr : numR [c] = 0 := by unfold numR; rw [if_neg (by simp)]; simp [hc]
          rw [hr]
          simp only [fn62, E62, hne, hb, h20, ix0, List.length_cons, List.length_nil, Nat.zero_add, show ((1 : Int) == ((1 : Nat) : Int)) = true from rfl, show decide ((20 : Int) < ((1 : Nat) : Int)) = false from rfl, EVT, EVD, ↓reduceIte, Nat.reduceEqDiff, reduceCtorEq, Nat.reduceAdd, Nat.reduceLeDiff, ne_eq, Nat.reduceLT, Int.reduceLT, Int.reduceLE, Int.reduceNeg]
        | cons x r =>
          have h1 : ((1 : Int) == ((r.length + 1 + 1 : Nat) : Int)) = false := by simp; omega
          have h0 := loop62 (c :: x :: r) hs 1 true rfl (acall tabS) rfl (x :: r) [c] rfl 0 (by omega)
          simp only [List.length_cons, List.length_nil, Nat.zero_add] at h0 h20
          have hr : numR (c :: x :: r) = numEnd true (numGo (x :: r) 0) := by
            unfold numR
            rw [if_neg (by simpa using hl)]
            simp only [hc, if_true]
            rw [if_neg (by simp)]
          rw [hr]
          simp only [fn62, E62, hne, hb, h20, h1, ix0, List.length_cons, EVT, EVD, ↓reduceIte, Nat.reduceEqDiff, reduceCtorEq, Nat.reduceAdd, Nat.reduceLeDiff, ne_eq, Nat.reduceLT, Int.reduceLT, Int.reduceLE, Int.reduceNeg]
          exact h0
      · have hb : (((c.toNat : Nat) : Int) == 45) = false := by
          simp only [beq_eq_false_iff_ne, ne_eq]
          intro e
          have h3 : c.toNat = 45 := by omega
          exact hc (UInt8.toNat_inj.1 (by rw [h3]; rfl))
        have h1 : ((0 : Int) == ((r.length + 1 : Nat) : Int)) = false := by simp; omega
        have h0 := loop62 (c :: r) hs 0 false rfl (acall tabS) rfl (c :: r) [] rfl 0 (by omega)
        simp only [List.length_nil] at h0
        have hr : numR (c :: r) = numEnd false (numGo (c :: r) 0) := by
          unfold numR
          rw [if_neg (by simpa using hl)]
          simp only [hc, if_false]
        rw [hr]
        simp only [fn62, E62, hne, hb, h20, h1, ix0, List.length_cons, EVT, EVD, ↓reduceIte, Nat.reduceEqDiff, reduceCtorEq, Nat.reduceAdd, Nat.reduceLeDiff, ne_eq, Nat.reduceLT, Int.reduceLT, Int.reduceLE, Int.reduceNeg]
        exact h0
theorem k62 (s : Bytes) (hs : s.length ≤ 1000000) (M : AMem) : callOp (acall tabS) 62 [.str s] M = some (eI (numR s), M) := callOp0 (c62 s hs) rfl rfl rfl rfl rfl M
theorem numGo_app (c : UInt8) : ∀ (l : Bytes) (m : Nat), numGo (l ++ [c]) m = (numGo l m).bind (numGo [c])
  | [], m => rfl
  | x :: r, m => by
    simp only [List.cons_append, numGo]
    split
    · rfl
    · exact numGo_app c r _
theorem numGo_dec (u : Nat) (h : u < 18446744073709551616) : numGo (Lib.decDigits u) 0 = some u := by
  induction u using Nat.strongRecOn with
  | _ u ih =>
    rw [Lib.decDigits]
    split
    · rename_i h1
      simp only [numGo, u8_of_nat (show 48 + u < 256 by omega)]
      rw [if_neg (by omega)]
      congr 1; omega
    · rename_i h1
      rw [numGo_app, ih (u / 10) (by omega) (by omega)]
      simp only [Option.bind_some, numGo, u8_of_nat (show 48 + u % 10 < 256 by omega)]
      rw [if_neg (by omega)]
      congr 1; omega
theorem dec_len : ∀ (k u : Nat), u < 10 ^ (k + 1) → (Lib.decDigits u).length ≤ k + 1
  | 0, u, h => by
    rw [Lib.decDigits, dif_pos (by omega)]
    simp
  | k + 1, u, h => by
    rw [Lib.decDigits]
    split
    · simp
    · have := dec_len k (u / 10) (by rw [Nat.pow_succ] at h; omega)
      simp; omega
theorem numR_itoa {n : Int} (h : okI n) : numR (Lib.itoa n) = n := by
  unfold okI at h
  unfold Lib.itoa
  by_cases hn : n < 0
  · rw [if_pos hn]
    have hl := dec_len 18 n.natAbs (by have : (10 : Nat) ^ 19 = 10000000000000000000 := by decide
                                       omega)
    unfold numR
    rw [if_neg (by simp; omega)]
    simp only [if_true]
    rw [if_neg (dec_ne _), numGo_dec _ (by omega)]
    simp only [numEnd, if_true]
    rw [IntKind.wrap_u64, IntKind.wrap_i64]
    omega
  · rw [if_neg hn]
    have hl := dec_len 18 n.toNat (by have : (10 : Nat) ^ 19 = 10000000000000000000 := by decide
                                      omega)
    have hg := numGo_dec n.toNat (by omega)
    have hd := dec_digit n.toNat
    cases he : Lib.decDigits n.toNat with
    | nil => exact absurd he (dec_ne _)
    | cons c r =>
      rw [he] at hl hg hd
      have hc := hd c (by simp)
      have h45 : ¬ c = 45 := fun e => by rw [e] at hc; revert hc; decide
      unfold numR
      rw [if_neg (by omega)]
      simp only [h45, if_false]
      rw [hg]
      simp only [numEnd, Bool.false_eq_true, if_false]
      rw [IntKind.wrap_i64]
      omega
end Go.Proofs.YtannopdcbocngaaGreatDoor
namespace Go.Proofs.YtannopdcbocngaaGreatDoor
open Go Go.Abs
attribute [local irreducible] exK opsK opK gK forkK kr acall callOp owhen obind
def kindGo (w : Bytes) : List Bytes → Nat → Option Int
  | [], _ => none
  | x :: r, i => if x = w then some ((i + 1 : Nat) : Int) else kindGo w r (i + 1)
def kindEnd (w : Bytes) : Option Int → Int
  | some k => k
  | none => numR (beginsN w [111, 112]).1
theorem beginsN_le (s w : Bytes) : (beginsN s w).1.length ≤ s.length := by
  unfold beginsN
  split <;> simp
theorem loop61 (w : Bytes) (hw : w.length ≤ 1000000) (L : List Bytes) (hL : L.length ≤ 1000) (C : CallF) (hC : C = acall tabS) : ∀ (r pre : List Bytes), L = pre ++ r →
    exK C [.tmp 2] 0 [.block 0, .seq q61_4] (.loop [0, 3, 4] lb61_0) [(0, .str w), (3, .slice .sh (L.map .str)), (4, eI pre.length)] [] =
    some (eI (kindEnd w (kindGo w r pre.length)), [])
  | [], pre, he => by
    subst hC
    have hpre : pre = L := by simpa using he.symm
    subst hpre
    have hlt : decide ((pre.length : Int) < pre.length) = false := by simp
    have h66 := k66 w [111, 112]
    have h62 := k62 (beginsN w [111, 112]).1 (Nat.le_trans (beginsN_le _ _) hw)
    rw [exK_loop]
    simp only [E61, List.length_map, hlt, h66, h62, kindGo, kindEnd, EVT, EVD, ↓reduceIte, Nat.reduceEqDiff, reduceCtorEq, Nat.reduceAdd, Nat.reduceLeDiff, ne_eq, Nat.reduceLT, Int.reduceLT, Int.reduceLE, Int.reduceNeg]
  | x :: r, pre, he => by
    subst hC
    have hl' : pre.length < L.length := by rw [he]; simp
    have hlt : decide ((pre.length : Int) < L.length) = true := by simpa using hl'
    have hix : L[pre.length]? = some x := by rw [he]; simp
    have hn : (0 : Int) ≤ pre.length := by omega
    have hwr : IntKind.i64.wrap ((pre.length : Int) + 1) = ((pre.length + 1 : Nat) : Int) := by rw [wrapS (by omega) (by omega)]; simp
    rw [exK_loop, kindGo]
    by_cases hx : x = w
    · have hb : (x == w) = true := by simpa using hx
      rw [if_pos hx]
      simp only [E61, List.length_map, hlt, hix, hn, hb, hwr, kindEnd, EVT, EVD, ↓reduceIte, Nat.reduceEqDiff, reduceCtorEq, Nat.reduceAdd, Nat.reduceLeDiff, ne_eq, Nat.reduceLT, Int.reduceLT, Int.reduceLE, Int.reduceNeg]
    · have hb : (x == w) = false := by simpa using hx
      have ih := loop61 w hw L hL (acall tabS) rfl r (pre ++ [x]) (by simpa using he)
      simp only [List.length_append, List.length_cons, List.length_nil, Nat.zero_add] at ih
      rw [if_neg hx]
      simp only [E61, List.length_map, hlt, hix, hn, hb, hwr, EVT, EVD, ↓reduceIte, Nat.reduceEqDiff, reduceCtorEq, Nat.reduceAdd, Nat.reduceLeDiff, ne_eq, Nat.reduceLT, Int.reduceLT, Int.reduceLE, Int.reduceNeg]
      exact ih
def kindR (w : Bytes) : Int := kindEnd w (kindGo w wordsL.tail 0)
theorem c61 (w : Bytes) (hw : w.length ≤ 1000000) : acall tabS 61 [.str w] [] = some (eI (kindR w), []) := by
  refine acall_ex rfl rfl rfl ?_
  have h0 := loop61 w hw wordsL.tail (by decide) (acall tabS) rfl wordsL.tail [] rfl
  simp only [List.length_nil] at h0
  simp only [fn61, E61, k45, EVT, EVD, ↓reduceIte, Nat.reduceEqDiff, reduceCtorEq, Nat.reduceAdd, Nat.reduceLeDiff, ne_eq, Nat.reduceLT, Int.reduceLT, Int.reduceLE, Int.reduceNeg]
  exact h0
theorem k61 (w : Bytes) (hw : w.length ≤ 1000000) (M : AMem) : callOp (acall tabS) 61 [.str w] M = some (eI (kindR w), M) := callOp0 (c61 w hw) rfl rfl rfl rfl rfl M
theorem kindGo_ok (w : Bytes) : ∀ (l : List Bytes) (i : Nat) (k : Int), i + l.length ≤ 1000 → kindGo w l i = some k → okI k
  | [], _, _, _, h => by cases h
  | x :: r, i, k, hl, h => by
    rw [kindGo] at h
    simp only [List.length_cons] at hl
    split at h
    · cases h; unfold okI; omega
    · exact kindGo_ok w r (i + 1) k (by omega) h
theorem kindR_ok (w : Bytes) : okI (kindR w) := by
  unfold kindR kindEnd
  split
  · rename_i k h
    exact kindGo_ok w _ _ _ (by decide) h
  · exact numR_ok _
theorem kindGo_word : ∀ k : Nat, 0 < k → k < 18 → kindGo (wordsL.getD k []) wordsL.tail 0 = some (k : Int)
  | 0, h, _ => absurd h (by omega)
  | 1, _, _ | 2, _, _ | 3, _, _ | 4, _, _ | 5, _, _ | 6, _, _ | 7, _, _ | 8, _, _ | 9, _, _ | 10, _, _ | 11, _, _ | 12, _, _ | 13, _, _ | 14, _, _ | 15, _, _ | 16, _, _ | 17, _, _ => rfl
  | k + 18, _, h => absurd h (by omega)
theorem kindGo_none (w : Bytes) : ∀ (l : List Bytes) (i : Nat), w ∉ l → kindGo w l i = none
  | [], _, _ => rfl
  | x :: r, i, h => by
    rw [kindGo, if_neg (fun e => h (by rw [e]; simp))]
    exact kindGo_none w r _ (fun hc => h (List.mem_cons_of_mem _ hc))
theorem kindR_first {k : Int} (h : okI k) : kindR (firstN k) = k := by
  unfold kindR firstN
  split
  · rename_i hk
    rw [kindGo_word k.toNat (by omega) (by omega)]
    simp only [kindEnd]
    omega
  · rw [kindGo_none _ _ _ (fun hm => firstN_none (k := k) (List.mem_of_mem_tail hm))]
    simp only [kindEnd]
    have : beginsN (111 :: 112 :: Lib.itoa k) [111, 112] = (Lib.itoa k, true) := by
      unfold beginsN
      rw [if_pos ⟨by simp, by simp⟩]
      simp
    rw [this, numR_itoa h]
def partsGo : List Bytes → Option (List (List Bytes))
  | [] => some []
  | x :: r => if (cutL 61 x).length = 2 then (partsGo r).map (cutL 61 x :: ·) else none
def pF (p : List Bytes) : AVal := .slice .sh (p.map .str)
def partsEnd (first : Bytes) (out : List (List Bytes)) : Option (List (List Bytes)) → Bytes × List (List Bytes) × Bool
  | none => ([], [], false)
  | some l => (first, out ++ l, true)
theorem widP : ∀ l : List (List Bytes), wid (l.map pF) 1 = True := by
  intro l
  simp only [eq_iff_iff, iff_true]
  intro x hx
  obtain ⟨s, _, rfl⟩ := List.mem_map.1 hx
  rfl
theorem loop60 (L : List Bytes) (first : Bytes) (t : List Bytes) (hLt : L = first :: t) (hL : L.length ≤ 1000000) (hs : ∀ x, x ∈ L → x.length ≤ 1000000) (C : CallF) (hC : C = acall tabS) : ∀ (r pre : List Bytes) (out : List (List Bytes)), L = pre ++ r → out.length ≤ pre.length →
    exK C [.tmp 2, .tmp 3, .tmp 4] 0 [.block 0, .seq q60_5] (.loop [5, 6, 7] lb60_0) [(5, .slice .sh (L.map .str)), (6, .slice (.own 0) (out.map pF)), (7, eI pre.length)] [.tick 1 out.length] =
    some (.tuple [.str (partsEnd first out (partsGo r)).1, .slice .sh ((partsEnd first out (partsGo r)).2.1.map pF), .bool (partsEnd first out (partsGo r)).2.2], [])
  | [], pre, out, he, ho => by
    subst hC
    have hpre : pre = L := by simpa using he.symm
    subst hpre
    have hlt : decide ((pre.length : Int) < pre.length) = false := by simp
    have hlt' : decide (((t.length + 1 : Nat) : Int) < ((t.length + 1 : Nat) : Int)) = false := by simp
    rw [exK_loop]
    simp only [E60, List.length_map, List.length_cons, hlt, hlt', partsGo, partsEnd, List.append_nil, hLt, List.map_cons, ix0, EVT, EVD, ↓reduceIte, Nat.reduceEqDiff, reduceCtorEq, Nat.reduceAdd, Nat.reduceLeDiff, ne_eq, Nat.reduceLT, Int.reduceLT, Int.reduceLE, Int.reduceNeg]
  | x :: r, pre, out, he, ho => by
    subst hC
    have hl' : pre.length < L.length := by rw [he]; simp
    have hlt : decide ((pre.length : Int) < L.length) = true := by simpa using hl'
    have hix : L[pre.length]? = some x := by rw [he]; simp
    have hn : (0 : Int) ≤ pre.length := by omega
    have hwr : IntKind.i64.wrap ((pre.length : Int) + 1) = ((pre.length + 1 : Nat) : Int) := by rw [wrapS (by omega) (by omega)]; simp
    have h33 := k33 x 61 (hs x (by rw [he]; simp))
    simp only [show (((61 : UInt8).toNat : Nat) : Int) = 61 from rfl] at h33
    have hr := roomO (a := out.length + 1) (b := 24) (by omega) (by omega)
    rw [exK_loop, partsGo]
    by_cases hx : (cutL 61 x).length = 2
    · have hb : ((((cutL 61 x).length : Nat) : Int) != 2) = false := by rw [hx]; rfl
      have ih := loop60 L first t hLt hL hs (acall tabS) rfl r (pre ++ [x]) (out ++ [cutL 61 x]) (by simpa using he) (by simp; omega)
      have hend : partsEnd first (out ++ [cutL 61 x]) (partsGo r) = partsEnd first out ((partsGo r).map (cutL 61 x :: ·)) := by
        cases partsGo r with
        | none => rfl
        | some l => simp [partsEnd]
      rw [hend] at ih
      simp only [List.length_append, List.length_cons, List.length_nil, Nat.zero_add, List.map_append, List.map_cons, List.map_nil, pF] at ih
      rw [if_pos hx]
      simp only [E60, List.length_map, hlt, hix, hn, h33, hb, hr, EVT, EVD, ↓reduceIte, Nat.reduceEqDiff, reduceCtorEq, Nat.reduceAdd, Nat.reduceLeDiff, ne_eq, Nat.reduceLT, Int.reduceLT, Int.reduceLE, Int.reduceNeg]
      simp only [E60, hwr, widP, pF, EVT, EVD, ↓reduceIte, Nat.reduceEqDiff, reduceCtorEq, Nat.reduceAdd, Nat.reduceLeDiff, ne_eq, Nat.reduceLT, Int.reduceLT, Int.reduceLE, Int.reduceNeg]
      exact ih
    · have hb : ((((cutL 61 x).length : Nat) : Int) != 2) = true := by simp; omega
      rw [if_neg hx]
      simp only [E60, List.length_map, hlt, hix, hn, h33, hb, partsEnd, List.map_nil, EVT, EVD, ↓reduceIte, Nat.reduceEqDiff, reduceCtorEq, Nat.reduceAdd, Nat.reduceLeDiff, ne_eq, Nat.reduceLT, Int.reduceLT, Int.reduceLE, Int.reduceNeg]
def partsR (s : Bytes) : Bytes × List (List Bytes) × Bool := partsEnd ((cutL 32 s).headD []) [] (partsGo (cutL 32 s).tail)
theorem c60 (s : Bytes) (hs : s.length ≤ 900000) : acall tabS 60 [.str s] [] = some (.tuple [.str (partsR s).1, .slice .sh ((partsR s).2.1.map pF), .bool (partsR s).2.2], []) := by
  refine acall_ex rfl rfl rfl ?_
  have h33 := k33 s 32 (by omega)
  simp only [show (((32 : UInt8).toNat : Nat) : Int) = 32 from rfl] at h33
  have hlen := cutL_len 32 s
  have h0 := loop60 (cutL 32 s) ((cutL 32 s).headD []) (cutL 32 s).tail (cutL_split 32 s) (by omega) (fun x hx => by have := cutL_mem 32 s x hx; omega) (acall tabS) rfl (cutL 32 s).tail [(cutL 32 s).headD []] [] (cutL_split 32 s) (by simp)
  simp only [List.length_cons, List.length_nil, List.map_nil, Nat.zero_add] at h0
  simp only [fn60, E60, h33, EVT, EVD, ↓reduceIte, Nat.reduceEqDiff, reduceCtorEq, Nat.reduceAdd, Nat.reduceLeDiff, ne_eq, Nat.reduceLT, Int.reduceLT, Int.reduceLE, Int.reduceNeg]
  exact h0
theorem k60 (s : Bytes) (hs : s.length ≤ 900000) (M : AMem) : callOp (acall tabS) 60 [.str s] M = some (.tuple [.str (partsR s).1, .slice .sh ((partsR s).2.1.map pF), .bool (partsR s).2.2], M) := callOp0 (c60 s hs) rfl rfl rfl rfl rfl M
theorem loop100 (s : Bytes) (hs : s.length ≤ 1000000) (C : CallF) (hC : C = acall tabS) : ∀ (r pre : Bytes), s = pre ++ r → ∀ z : Int, (if Lib.indexByte r 58 = -1 then -1 else (pre.length : Int) + Lib.indexByte r 58) = z →
    exK C [.tmp 2] 0 [.block 0, .seq q100_3] (.loop [0, 3] lb100_0) [(0, .str s), (3, eI pre.length)] [] = some (eI z, [])
  | [], pre, he, z, hz => by
    subst hC
    have hpre : pre = s := by simpa using he.symm
    subst hpre
    have hlt : decide ((pre.length : Int) < pre.length) = false := by simp
    have : z = -1 := by rw [← hz]; rfl
    subst this
    rw [exK_loop]
    simp only [E100, hlt, EVT, EVD, ↓reduceIte, Nat.reduceEqDiff, reduceCtorEq, Nat.reduceAdd, Nat.reduceLeDiff, ne_eq, Nat.reduceLT, Int.reduceLT, Int.reduceLE, Int.reduceNeg]
  | c :: r, pre, he, z, hz => by
    subst hC
    have hl' : pre.length < s.length := by rw [he]; simp
    have hlt : decide ((pre.length : Int) < s.length) = true := by simpa using hl'
    have hix : s[pre.length]? = some c := by rw [he]; simp
    have hn : (0 : Int) ≤ pre.length := by omega
    have hw : IntKind.i64.wrap ((pre.length : Int) + 1) = ((pre.length + 1 : Nat) : Int) := by rw [wrapS (by omega) (by omega)]; simp
    rw [exK_loop]
    by_cases hc : c = 58
    · have hb : (((c.toNat : Nat) : Int) == 58) = true := by rw [hc]; rfl
      have h0 : Lib.indexByte (c :: r) 58 = 0 := by rw [Lib.indexByte, hc]; simp
      rw [h0] at hz
      have : z = pre.length := by rw [← hz]; simp
      subst this
      simp only [E100, hlt, hix, hn, hb, EVT, EVD, ↓reduceIte, Nat.reduceEqDiff, reduceCtorEq, Nat.reduceAdd, Nat.reduceLeDiff, ne_eq, Nat.reduceLT, Int.reduceLT, Int.reduceLE, Int.reduceNeg]
    · have hb : (((c.toNat : Nat) : Int) == 58) = false := by
        simp only [beq_eq_false_iff_ne, ne_eq]
        intro e
        have h3 : c.toNat = 58 := by omega
        exact hc (UInt8.toNat_inj.1 (by rw [h3]; rfl))
      have h0 : Lib.indexByte (c :: r) 58 = if Lib.indexByte r 58 = -1 then -1 else Lib.indexByte r 58 + 1 := by
        rw [Lib.indexByte]
        simp [hc]
      have hge := Lib.indexByte_ge r 58
      have ih := loop100 s hs (acall tabS) rfl r (pre ++ [c]) (by simpa using he) z (by
        rw [← hz, h0, List.length_append]
        by_cases h : Lib.indexByte r 58 = -1
        · simp [h]
        · have h4 : ¬ (Lib.indexByte r 58 + 1 = -1) := by omega
          simp only [h, if_false, h4, List.length_cons, List.length_nil]
          omega)
      simp only [List.length_append, List.length_cons, List.length_nil, Nat.zero_add] at ih
      simp only [E100, hlt, hix, hn, hb, hw, EVT, EVD, ↓reduceIte, Nat.reduceEqDiff, reduceCtorEq, Nat.reduceAdd, Nat.reduceLeDiff, ne_eq, Nat.reduceLT, Int.reduceLT, Int.reduceLE, Int.reduceNeg]
      exact ih
theorem c100 (s : Bytes) (hs : s.length ≤ 1000000) : acall tabS 100 [.str s] [] = some (eI (Lib.indexByte s 58), []) := by
  refine acall_ex rfl rfl rfl ?_
  have h0 := loop100 s hs (acall tabS) rfl s [] rfl (Lib.indexByte s 58) (by split <;> simp_all)
  simp only [List.length_nil] at h0
  simp only [fn100, E100, EVT, EVD, ↓reduceIte, Nat.reduceEqDiff, reduceCtorEq, Nat.reduceAdd, Nat.reduceLeDiff, ne_eq, Nat.reduceLT, Int.reduceLT, Int.reduceLE, Int.reduceNeg]
  exact h0
theorem k100 (s : Bytes) (hs : s.length ≤ 1000000) (M : AMem) : callOp (acall tabS) 100 [.str s] M = some (eI (Lib.indexByte s 58), M) := callOp0 (c100 s hs) rfl rfl rfl rfl rfl M
end Go.Proofs.YtannopdcbocngaaGreatDoor
namespace Go.Proofs.YtannopdcbocngaaGreatDoor
open Go Go.Abs
attribute [local irreducible] exK opsK opK gK forkK kr acall callOp owhen obind
theorem ix1 {α : Type} (x y : α) (l : List α) : (x :: y :: l)[Int.toNat 1]? = some y := rfl
def setOp (o : Op) : List Bytes → Op
  | [w, v] => if w = wClient then { o with client := numR v } else if w = wPath then { o with path := (refRaw v).1 } else if w = wTo then { o with dest := (refRaw v).1 } else if w = wN then { o with n := numR v } else if w = wM then { o with m := numR v } else if w = wHandle then { o with handle := numR v } else if w = wData then { o with data := (refRaw v).1 } else o
  | _ => o
def PairOk (p : List Bytes) : Prop := ∃ w v, p = [w, v] ∧ v.length ≤ 1000000
theorem rawO_le : ∀ (n : Nat) (s u : Bytes), s.length ≤ n → rawO s = some u → u.length ≤ s.length
  | n, [], u, hn, h => by
    simp only [rawO, Option.some.injEq] at h
    subst h; simp
  | 0, c :: r, u, hn, h => by simp at hn
  | n + 1, c :: r, u, hn, h => by
    by_cases hp : plainE c = true
    · rw [rawO_plain hp] at h
      obtain ⟨u', h1, rfl⟩ := Option.map_eq_some_iff.1 h
      have := rawO_le n r u' (by simpa using hn) h1
      simp; omega
    · match r, hn, h with
      | [], hn, h => rw [rawO, if_neg hp] at h; · cases h
                     · intro a b r e; cases e
      | [a], hn, h => rw [rawO, if_neg hp] at h; · cases h
                      · intro a b r e; cases e
      | a :: b :: r, hn, h =>
        rw [rawO, if_neg hp] at h
        split at h
        · obtain ⟨u', h1, rfl⟩ := Option.map_eq_some_iff.1 h
          have := rawO_le n r u' (by simp at hn; omega) h1
          simp; omega
        · cases h
theorem refRaw_le (s : Bytes) : (refRaw s).1.length ≤ s.length := by
  unfold refRaw rawRes
  split
  · rename_i u h
    have := rawO_le s.length s u (Nat.le_refl _) h
    simpa using this
  · simp
theorem setOp_ok {o : Op} (h : OpOk o) {p : List Bytes} (hp : PairOk p) : OpOk (setOp o p) := by
  obtain ⟨w, v, rfl, hv⟩ := hp
  have hr := refRaw_le v
  have hn := numR_ok v
  have hr' : (refRaw v).1.length ≤ 1000000 := by omega
  rw [setOp]
  split
  · exact ⟨h.kind, hn, h.path, h.dest, h.n, h.m, h.handle, h.data⟩
  · skip
    split
    · exact ⟨h.kind, h.client, hr', h.dest, h.n, h.m, h.handle, h.data⟩
    · skip
      split
      · exact ⟨h.kind, h.client, h.path, hr', h.n, h.m, h.handle, h.data⟩
      · skip
        split
        · exact ⟨h.kind, h.client, h.path, h.dest, hn, h.m, h.handle, h.data⟩
        · skip
          split
          · exact ⟨h.kind, h.client, h.path, h.dest, h.n, hn, h.handle, h.data⟩
          · skip
            split
            · exact ⟨h.kind, h.client, h.path, h.dest, h.n, h.m, hn, h.data⟩
            · skip
              split
              · exact ⟨h.kind, h.client, h.path, h.dest, h.n, h.m, h.handle, hr'⟩
              · skip
                exact h
theorem foldOp_ok : ∀ {l : List (List Bytes)} {o : Op}, OpOk o → (∀ p, p ∈ l → PairOk p) → OpOk (l.foldl setOp o)
  | [], o, h, _ => h
  | p :: l, o, h, hl => by
    rw [List.foldl_cons]
    exact foldOp_ok (setOp_ok h (hl p (by simp))) (fun q hq => hl q (by simp [hq]))
theorem loop25 (s : Bytes) (c2 : List AVal) (hc2 : ∀ B M, c2.map (AVal.back1 B M) = c2) (l : List (List Bytes)) (hl : l.length ≤ 1000000) (hp : ∀ p, p ∈ l → PairOk p) (C : CallF) (hC : C = acall tabS) : ∀ (r pre : List (List Bytes)), l = pre ++ r → ∀ (o : Op) (t : Tk), t = .sh ∨ t = .c0 → ∀ (fn : List ARes) (base : Nat) (k : List K), ∃ t', (t' = .sh ∨ t' = .c0) ∧
    exK C fn base (.block 0 :: k) (.loop [0, 2, 5, 7, 8] lb25_0) [(0, .str s), (2, .ptr 0 0), (5, .slice .sh (l.map pF)), (7, .ptr 1 0), (8, eI pre.length)] [.cells c2, .cells (eOpC t o)] =
    kr C fn base k ⟨.normal, [(0, .str s), (2, .ptr 0 0), (5, .slice .sh (l.map pF)), (7, .ptr 1 0), (8, eI l.length), (27, .bool false)], [.cells c2, .cells (eOpC t' (r.foldl setOp o))]⟩
  | [], pre, he, o, t, ht, fn, base, k => by
    subst hC
    have hpre : pre = l := by simpa using he.symm
    subst hpre
    have hlt : decide ((pre.length : Int) < pre.length) = false := by simp
    refine ⟨t, ht, ?_⟩
    rw [exK_loop]
    simp only [E25, List.length_map, hlt, List.foldl_nil, EVT, EVD, ↓reduceIte, Nat.reduceEqDiff, reduceCtorEq, Nat.reduceAdd, Nat.reduceLeDiff, ne_eq, Nat.reduceLT, Int.reduceLT, Int.reduceLE, Int.reduceNeg]
  | p :: r, pre, he, o, t, ht, fn, base, k => by
    subst hC
    have hl' : pre.length < l.length := by rw [he]; simp
    have hlt : decide ((pre.length : Int) < l.length) = true := by simpa using hl'
    have hix : l[pre.length]? = some p := by rw [he]; simp
    have hn : (0 : Int) ≤ pre.length := by omega
    have hwr : IntKind.i64.wrap ((pre.length : Int) + 1) = ((pre.length + 1 : Nat) : Int) := by rw [wrapS (by omega) (by omega)]; simp
    obtain ⟨w, v, rfl, hv⟩ := hp p (by rw [he]; simp)
    have h62 := k62 v hv
    have h34 := k34 v hv
    rw [List.foldl_cons, exK_loop]
    by_cases g0 : w = wClient
    · have b0 : (w == [99, 108, 105, 101, 110, 116]) = true := by simpa [wClient] using g0
      have hset : setOp o [w, v] = { o with client := numR v } := by rw [setOp, if_pos g0]
      obtain ⟨t', ht', ih⟩ := loop25 s c2 hc2 l hl hp (acall tabS) rfl r (pre ++ [[w, v]]) (by simpa using he) (setOp o [w, v]) t ht fn base k
      refine ⟨t', ht', ?_⟩
      rw [← ih, hset]
      simp only [E25, List.length_map, hlt, hix, hn, pF, List.map_cons, List.map_nil, ix0, ix1, h62, h34, eOpC, b0, EVT, EVD, ↓reduceIte, Nat.reduceEqDiff, reduceCtorEq, Nat.reduceAdd, Nat.reduceLeDiff, ne_eq, Nat.reduceLT, Int.reduceLT, Int.reduceLE, Int.reduceNeg]
      simp only [E25, hwr, hc2, back1_t ht, backV_t ht, List.length_append, List.length_cons, List.length_nil, Nat.zero_add, EVT, EVD, ↓reduceIte, Nat.reduceEqDiff, reduceCtorEq, Nat.reduceAdd, Nat.reduceLeDiff, ne_eq, Nat.reduceLT, Int.reduceLT, Int.reduceLE, Int.reduceNeg]
    · have b0 : (w == [99, 108, 105, 101, 110, 116]) = false := by simpa [wClient] using g0
      by_cases g1 : w = wPath
      · have b1 : (w == [112, 97, 116, 104]) = true := by simpa [wPath] using g1
        have hset : setOp o [w, v] = { o with path := (refRaw v).1 } := by rw [setOp, if_neg g0, if_pos g1]
        obtain ⟨t', ht', ih⟩ := loop25 s c2 hc2 l hl hp (acall tabS) rfl r (pre ++ [[w, v]]) (by simpa using he) (setOp o [w, v]) t ht fn base k
        refine ⟨t', ht', ?_⟩
        rw [← ih, hset]
        simp only [E25, List.length_map, hlt, hix, hn, pF, List.map_cons, List.map_nil, ix0, ix1, h62, h34, eOpC, b0, b1, EVT, EVD, ↓reduceIte, Nat.reduceEqDiff, reduceCtorEq, Nat.reduceAdd, Nat.reduceLeDiff, ne_eq, Nat.reduceLT, Int.reduceLT, Int.reduceLE, Int.reduceNeg]
        simp only [E25, hwr, hc2, back1_t ht, backV_t ht, List.length_append, List.length_cons, List.length_nil, Nat.zero_add, EVT, EVD, ↓reduceIte, Nat.reduceEqDiff, reduceCtorEq, Nat.reduceAdd, Nat.reduceLeDiff, ne_eq, Nat.reduceLT, Int.reduceLT, Int.reduceLE, Int.reduceNeg]
      · have b1 : (w == [112, 97, 116, 104]) = false := by simpa [wPath] using g1
        by_cases g2 : w = wTo
        · have b2 : (w == [116, 111]) = true := by simpa [wTo] using g2
          have hset : setOp o [w, v] = { o with dest := (refRaw v).1 } := by rw [setOp, if_neg g0, if_neg g1, if_pos g2]
          obtain ⟨t', ht', ih⟩ := loop25 s c2 hc2 l hl hp (acall tabS) rfl r (pre ++ [[w, v]]) (by simpa using he) (setOp o [w, v]) t ht fn base k
          refine ⟨t', ht', ?_⟩
          rw [← ih, hset]
          simp only [E25, List.length_map, hlt, hix, hn, pF, List.map_cons, List.map_nil, ix0, ix1, h62, h34, eOpC, b0, b1, b2, EVT, EVD, ↓reduceIte, Nat.reduceEqDiff, reduceCtorEq, Nat.reduceAdd, Nat.reduceLeDiff, ne_eq, Nat.reduceLT, Int.reduceLT, Int.reduceLE, Int.reduceNeg]
          simp only [E25, hwr, hc2, back1_t ht, backV_t ht, List.length_append, List.length_cons, List.length_nil, Nat.zero_add, EVT, EVD, ↓reduceIte, Nat.reduceEqDiff, reduceCtorEq, Nat.reduceAdd, Nat.reduceLeDiff, ne_eq, Nat.reduceLT, Int.reduceLT, Int.reduceLE, Int.reduceNeg]
        · have b2 : (w == [116, 111]) = false := by simpa [wTo] using g2
          by_cases g3 : w = wN
          · have b3 : (w == [110]) = true := by simpa [wN] using g3
            have hset : setOp o [w, v] = { o with n := numR v } := by rw [setOp, if_neg g0, if_neg g1, if_neg g2, if_pos g3]
            obtain ⟨t', ht', ih⟩ := loop25 s c2 hc2 l hl hp (acall tabS) rfl r (pre ++ [[w, v]]) (by simpa using he) (setOp o [w, v]) t ht fn base k
            refine ⟨t', ht', ?_⟩
            rw [← ih, hset]
            simp only [E25, List.length_map, hlt, hix, hn, pF, List.map_cons, List.map_nil, ix0, ix1, h62, h34, eOpC, b0, b1, b2, b3, EVT, EVD, ↓reduceIte, Nat.reduceEqDiff, reduceCtorEq, Nat.reduceAdd, Nat.reduceLeDiff, ne_eq, Nat.reduceLT, Int.reduceLT, Int.reduceLE, Int.reduceNeg]
            simp only [E25, hwr, hc2, back1_t ht, backV_t ht, List.length_append, List.length_cons, List.length_nil, Nat.zero_add, EVT, EVD, ↓reduceIte, Nat.reduceEqDiff, reduceCtorEq, Nat.reduceAdd, Nat.reduceLeDiff, ne_eq, Nat.reduceLT, Int.reduceLT, Int.reduceLE, Int.reduceNeg]
          · have b3 : (w == [110]) = false := by simpa [wN] using g3
            by_cases g4 : w = wM
            · have b4 : (w == [109]) = true := by simpa [wM] using g4
              have hset : setOp o [w, v] = { o with m := numR v } := by rw [setOp, if_neg g0, if_neg g1, if_neg g2, if_neg g3, if_pos g4]
              obtain ⟨t', ht', ih⟩ := loop25 s c2 hc2 l hl hp (acall tabS) rfl r (pre ++ [[w, v]]) (by simpa using he) (setOp o [w, v]) t ht fn base k
              refine ⟨t', ht', ?_⟩
              rw [← ih, hset]
              simp only [E25, List.length_map, hlt, hix, hn, pF, List.map_cons, List.map_nil, ix0, ix1, h62, h34, eOpC, b0, b1, b2, b3, b4, EVT, EVD, ↓reduceIte, Nat.reduceEqDiff, reduceCtorEq, Nat.reduceAdd, Nat.reduceLeDiff, ne_eq, Nat.reduceLT, Int.reduceLT, Int.reduceLE, Int.reduceNeg]
              simp only [E25, hwr, hc2, back1_t ht, backV_t ht, List.length_append, List.length_cons, List.length_nil, Nat.zero_add, EVT, EVD, ↓reduceIte, Nat.reduceEqDiff, reduceCtorEq, Nat.reduceAdd, Nat.reduceLeDiff, ne_eq, Nat.reduceLT, Int.reduceLT, Int.reduceLE, Int.reduceNeg]
            · have b4 : (w == [109]) = false := by simpa [wM] using g4
              by_cases g5 : w = wHandle
              · have b5 : (w == [104, 97, 110, 100, 108, 101]) = true := by simpa [wHandle] using g5
                have hset : setOp o [w, v] = { o with handle := numR v } := by rw [setOp, if_neg g0, if_neg g1, if_neg g2, if_neg g3, if_neg g4, if_pos g5]
                obtain ⟨t', ht', ih⟩ := loop25 s c2 hc2 l hl hp (acall tabS) rfl r (pre ++ [[w, v]]) (by simpa using he) (setOp o [w, v]) t ht fn base k
                refine ⟨t', ht', ?_⟩
                rw [← ih, hset]
                simp only [E25, List.length_map, hlt, hix, hn, pF, List.map_cons, List.map_nil, ix0, ix1, h62, h34, eOpC, b0, b1, b2, b3, b4, b5, EVT, EVD, ↓reduceIte, Nat.reduceEqDiff, reduceCtorEq, Nat.reduceAdd, Nat.reduceLeDiff, ne_eq, Nat.reduceLT, Int.reduceLT, Int.reduceLE, Int.reduceNeg]
                simp only [E25, hwr, hc2, back1_t ht, backV_t ht, List.length_append, List.length_cons, List.length_nil, Nat.zero_add, EVT, EVD, ↓reduceIte, Nat.reduceEqDiff, reduceCtorEq, Nat.reduceAdd, Nat.reduceLeDiff, ne_eq, Nat.reduceLT, Int.reduceLT, Int.reduceLE, Int.reduceNeg]
              · have b5 : (w == [104, 97, 110, 100, 108, 101]) = false := by simpa [wHandle] using g5
                by_cases g6 : w = wData
                · have b6 : (w == [100, 97, 116, 97]) = true := by simpa [wData] using g6
                  have hset : setOp o [w, v] = { o with data := (refRaw v).1 } := by rw [setOp, if_neg g0, if_neg g1, if_neg g2, if_neg g3, if_neg g4, if_neg g5, if_pos g6]
                  obtain ⟨t', ht', ih⟩ := loop25 s c2 hc2 l hl hp (acall tabS) rfl r (pre ++ [[w, v]]) (by simpa using he) (setOp o [w, v]) .sh (.inl rfl) fn base k
                  refine ⟨t', ht', ?_⟩
                  rw [← ih, hset]
                  simp only [E25, List.length_map, hlt, hix, hn, pF, List.map_cons, List.map_nil, ix0, ix1, h62, h34, eOpC, b0, b1, b2, b3, b4, b5, b6, EVT, EVD, ↓reduceIte, Nat.reduceEqDiff, reduceCtorEq, Nat.reduceAdd, Nat.reduceLeDiff, ne_eq, Nat.reduceLT, Int.reduceLT, Int.reduceLE, Int.reduceNeg]
                  simp only [E25, hwr, hc2, back1_t ht, backV_t ht, List.length_append, List.length_cons, List.length_nil, Nat.zero_add, EVT, EVD, ↓reduceIte, Nat.reduceEqDiff, reduceCtorEq, Nat.reduceAdd, Nat.reduceLeDiff, ne_eq, Nat.reduceLT, Int.reduceLT, Int.reduceLE, Int.reduceNeg]
                · have b6 : (w == [100, 97, 116, 97]) = false := by simpa [wData] using g6
                  have hset : setOp o [w, v] = o := by rw [setOp, if_neg g0, if_neg g1, if_neg g2, if_neg g3, if_neg g4, if_neg g5, if_neg g6]
                  obtain ⟨t', ht', ih⟩ := loop25 s c2 hc2 l hl hp (acall tabS) rfl r (pre ++ [[w, v]]) (by simpa using he) (setOp o [w, v]) t ht fn base k
                  refine ⟨t', ht', ?_⟩
                  rw [← ih, hset]
                  simp only [E25, List.length_map, hlt, hix, hn, pF, List.map_cons, List.map_nil, ix0, ix1, h62, h34, eOpC, b0, b1, b2, b3, b4, b5, b6, EVT, EVD, ↓reduceIte, Nat.reduceEqDiff, reduceCtorEq, Nat.reduceAdd, Nat.reduceLeDiff, ne_eq, Nat.reduceLT, Int.reduceLT, Int.reduceLE, Int.reduceNeg]
                  simp only [E25, hwr, hc2, back1_t ht, backV_t ht, List.length_append, List.length_cons, List.length_nil, Nat.zero_add, EVT, EVD, ↓reduceIte, Nat.reduceEqDiff, reduceCtorEq, Nat.reduceAdd, Nat.reduceLeDiff, ne_eq, Nat.reduceLT, Int.reduceLT, Int.reduceLE, Int.reduceNeg]
theorem partsGo_ok : ∀ {L : List Bytes} {l : List (List Bytes)}, (∀ x, x ∈ L → x.length ≤ 1000000) → partsGo L = some l → (∀ p, p ∈ l → PairOk p) ∧ l.length = L.length
  | [], l, _, h => by cases h; exact ⟨by simp, rfl⟩
  | x :: r, l, hx, h => by
    rw [partsGo] at h
    split at h
    · rename_i h2
      obtain ⟨l', h1, rfl⟩ := Option.map_eq_some_iff.1 h
      obtain ⟨i1, i2⟩ := partsGo_ok (fun y hy => hx y (List.mem_cons_of_mem _ hy)) h1
      refine ⟨fun p hp => ?_, by simp [i2]⟩
      rcases List.mem_cons.1 hp with rfl | hp
      · have hm := cutL_mem 61 x
        have h0 := hx x (by simp)
        match hc : cutL 61 x, h2 with
        | [w, v], _ =>
          have := hm v (by rw [hc]; simp)
          exact ⟨w, v, rfl, by omega⟩
      · exact i1 p hp
    · cases h
theorem partsR_ok {s : Bytes} (hs : s.length ≤ 900000) : (∀ p, p ∈ (partsR s).2.1 → PairOk p) ∧ (partsR s).2.1.length ≤ 1000000 ∧ (partsR s).1.length ≤ 1000000 := by
  have hlen := cutL_len 32 s
  have hm := cutL_mem 32 s
  have hh : ((cutL 32 s).headD []).length ≤ s.length := hm _ (by rw [cutL_split 32 s]; simp)
  unfold partsR partsEnd
  split
  · exact ⟨by simp, by simp, by simp⟩
  · rename_i l h
    obtain ⟨h1, h2⟩ := partsGo_ok (fun x hx => by have := hm x (List.mem_of_mem_tail hx); omega) h
    simp only [List.length_tail] at h2
    simp only [List.nil_append]
    exact ⟨h1, by omega, by omega⟩
def opR0 (s : Bytes) : Op := (partsR s).2.1.foldl setOp ⟨kindR (partsR s).1, 0, [], [], 0, 0, 0, []⟩
def rdOpR (s : Bytes) : Op × Int := if (partsR s).2.2 = true ∧ opN (opR0 s) = s then (opR0 s, 0) else (opZ, 11)
theorem opR0_ok {s : Bytes} (hs : s.length ≤ 900000) : OpOk (opR0 s) :=
  foldOp_ok ⟨kindR_ok _, okI_zero, by simp, by simp, okI_zero, okI_zero, okI_zero, by simp⟩ (partsR_ok hs).1
theorem c25 (s : Bytes) (hs : s.length ≤ 900000) : acall tabS 25 [.str s] [] = some (.tuple [eOp .sh (rdOpR s).1, eI (rdOpR s).2], []) := by
  refine acall_ex rfl rfl rfl ?_
  have h60 := k60 s hs
  obtain ⟨p1, p2, p3⟩ := partsR_ok hs
  have h61 := k61 (partsR s).1 p3
  have hok := opR0_ok hs
  have h0 := fun c2 hc2 o fn base k => loop25 s c2 hc2 (partsR s).2.1 p2 p1 (acall tabS) rfl (partsR s).2.1 [] rfl o .c0 (.inr rfl) fn base k
  have h16 := k16 (opR0 s) hok
  simp only [eOp, eOpC] at h16
  cases hb : (partsR s).2.2 with
  | false =>
    have hr : rdOpR s = (opZ, 11) := by unfold rdOpR; rw [if_neg (fun e => by rw [hb] at e; cases e.1)]
    rw [hr]
    simp only [fn25, E25, h60, hb, eOp, eOpC, opZ, List.map_nil, EVT, EVD, ↓reduceIte, Nat.reduceEqDiff, reduceCtorEq, Nat.reduceAdd, Nat.reduceLeDiff, ne_eq, Nat.reduceLT, Int.reduceLT, Int.reduceLE, Int.reduceNeg]
  | true =>
    simp only [List.length_nil] at h0
    simp only [fn25, E25, h60, h61, hb, EVT, EVD, ↓reduceIte, Nat.reduceEqDiff, reduceCtorEq, Nat.reduceAdd, Nat.reduceLeDiff, ne_eq, Nat.reduceLT, Int.reduceLT, Int.reduceLE, Int.reduceNeg]
    obtain ⟨t', ht', h1⟩ := h0 [.int .i64 0, .int .i64 0, .str [], .str [], .int .i64 0, .int .i64 0, .int .i64 0, .slice .c0 []] (fun _ _ => rfl) ⟨kindR (partsR s).1, 0, [], [], 0, 0, 0, []⟩ [.cellA 2 8, .tmp 3] 0 [.seq q25_21]
    simp only [eOpC, List.map_nil] at h1
    refine h1.trans ?_
    have e0 : (partsR s).2.1.foldl setOp ⟨kindR (partsR s).1, 0, [], [], 0, 0, 0, []⟩ = opR0 s := rfl
    rw [e0]
    by_cases hn : opN (opR0 s) = s
    · have hb2 : (opN (opR0 s) != s) = false := by simp [hn]
      have hr : rdOpR s = (opR0 s, 0) := by unfold rdOpR; rw [if_pos ⟨hb, hn⟩]
      rw [hr]
      rcases ht' with rfl | rfl <;> simp only [E25, h16, hb2, eOp, eOpC, EVT, EVD, ↓reduceIte, Nat.reduceEqDiff, reduceCtorEq, Nat.reduceAdd, Nat.reduceLeDiff, ne_eq, Nat.reduceLT, Int.reduceLT, Int.reduceLE, Int.reduceNeg]
    · have hb2 : (opN (opR0 s) != s) = true := by simpa using hn
      have hr : rdOpR s = (opZ, 11) := by unfold rdOpR; rw [if_neg (fun e => hn e.2)]
      rw [hr]
      rcases ht' with rfl | rfl <;> simp only [E25, h16, hb2, eOp, eOpC, opZ, List.map_nil, EVT, EVD, ↓reduceIte, Nat.reduceEqDiff, reduceCtorEq, Nat.reduceAdd, Nat.reduceLeDiff, ne_eq, Nat.reduceLT, Int.reduceLT, Int.reduceLE, Int.reduceNeg]
theorem k25 (s : Bytes) (hs : s.length ≤ 900000) (M : AMem) : callOp (acall tabS) 25 [.str s] M = some (.tuple [eOp .sh (rdOpR s).1, eI (rdOpR s).2], M) := callOp0 (c25 s hs) rfl rfl rfl rfl rfl M
end Go.Proofs.YtannopdcbocngaaGreatDoor
namespace Go.Proofs.YtannopdcbocngaaGreatDoor
open Go Go.Abs
attribute [local irreducible] exK opsK opK gK forkK kr acall callOp owhen obind
def rawsN (v : Bytes) : List Bytes := (cutL 44 v).map fun x => (refRaw x).1
def setAns (a : Ans) : List Bytes → Ans
  | [w, v] => if w = wIno then { a with ino := numR v } else if w = wKind then { a with kind := numR v } else if w = wN then { a with n := numR v } else if w = wM then { a with m := numR v } else if w = wNames then { a with names := rawsN v } else if w = wData then { a with data := (refRaw v).1 } else a
  | _ => a
theorem rawsN_len (v : Bytes) : (rawsN v).length ≤ v.length + 1 := by
  have := cutL_len 44 v
  simpa [rawsN] using this
theorem sumL_raws : ∀ l : List Bytes, sumL (l.map fun x => (refRaw x).1) ≤ sumL l
  | [] => Nat.le_refl _
  | x :: r => by
    have h1 := sumL_raws r
    have h2 := refRaw_le x
    simp only [sumL, List.map_cons, List.sum_cons] at h1 ⊢
    omega
theorem rawsN_sum (v : Bytes) : sumL (rawsN v) ≤ v.length := Nat.le_trans (sumL_raws _) (sumL_cut 44 v)
def PairOk9 (p : List Bytes) : Prop := ∃ w v, p = [w, v] ∧ v.length ≤ 900000
theorem setAns_ok {a : Ans} (h : AnsOk a) {p : List Bytes} (hp : PairOk9 p) : AnsOk (setAns a p) := by
  obtain ⟨w, v, rfl, hv⟩ := hp
  have hr := refRaw_le v
  have hn := numR_ok v
  have h1 := rawsN_len v
  have h2 := rawsN_sum v
  have hr' : (refRaw v).1.length ≤ 1000000 := by omega
  have h1' : (rawsN v).length ≤ 1000000 := by omega
  have h2' : sumL (rawsN v) ≤ 1000000 := by omega
  rw [setAns]
  split
  · exact ⟨h.err, hn, h.kind, h.n, h.m, h.names, h.sum, h.data⟩
  · skip
    split
    · exact ⟨h.err, h.ino, hn, h.n, h.m, h.names, h.sum, h.data⟩
    · skip
      split
      · exact ⟨h.err, h.ino, h.kind, hn, h.m, h.names, h.sum, h.data⟩
      · skip
        split
        · exact ⟨h.err, h.ino, h.kind, h.n, hn, h.names, h.sum, h.data⟩
        · skip
          split
          · exact ⟨h.err, h.ino, h.kind, h.n, h.m, h1', h2', h.data⟩
          · skip
            split
            · exact ⟨h.err, h.ino, h.kind, h.n, h.m, h.names, h.sum, hr'⟩
            · skip
              exact h
theorem foldAns_ok : ∀ {l : List (List Bytes)} {a : Ans}, AnsOk a → (∀ p, p ∈ l → PairOk9 p) → AnsOk (l.foldl setAns a)
  | [], a, h, _ => h
  | p :: l, a, h, hl => by
    rw [List.foldl_cons]
    exact foldAns_ok (setAns_ok h (hl p (by simp))) (fun q hq => hl q (by simp [hq]))
theorem loop27a (s : Bytes) (c2 : List AVal) (hc2 : ∀ B M, c2.map (AVal.back1 B M) = c2) (l : List (List Bytes)) (e1 e2 e3 e4 e5 : Int) (t : Tk) (ht : t = .sh ∨ t = .c0) (d : List AVal) (i : Int) (L : List Bytes) (hL : L.length ≤ 1000000) (hx : ∀ x, x ∈ L → x.length ≤ 1000000) (C : CallF) (hC : C = acall tabS) : ∀ (r pre : List Bytes), L = pre ++ r → ∀ (fn : List ARes) (base : Nat) (k : List K),
    exK C fn base (.block 3 :: k) (.loop [0, 2, 5, 7, 10, 12, 13] lb27_0) [(0, .str s), (2, .ptr 0 0), (5, .slice .sh (l.map pF)), (7, .ptr 1 0), (10, eI i), (12, .slice .sh (L.map .str)), (13, eI pre.length)]
      [.cells c2, .cells [eI e1, eI e2, eI e3, eI e4, eI e5, .slice (.own 2) ((pre.map fun x => (refRaw x).1).map .str), .slice t d], .tick 1 pre.length] =
    kr C fn base k ⟨.normal, [(0, .str s), (2, .ptr 0 0), (5, .slice .sh (l.map pF)), (7, .ptr 1 0), (10, eI i), (12, .slice .sh (L.map .str)), (13, eI L.length), (85, .bool false)],
      [.cells c2, .cells [eI e1, eI e2, eI e3, eI e4, eI e5, .slice (.own 2) ((L.map fun x => (refRaw x).1).map .str), .slice t d], .tick 1 L.length]⟩
  | [], pre, he, fn, base, k => by
    subst hC
    have hpre : pre = L := by simpa using he.symm
    subst hpre
    have hlt : decide ((pre.length : Int) < pre.length) = false := by simp
    rw [exK_loop]
    simp only [E27, List.length_map, hlt, EVT, EVD, ↓reduceIte, Nat.reduceEqDiff, reduceCtorEq, Nat.reduceAdd, Nat.reduceLeDiff, ne_eq, Nat.reduceLT, Int.reduceLT, Int.reduceLE, Int.reduceNeg]
  | x :: r, pre, he, fn, base, k => by
    subst hC
    have hl' : pre.length < L.length := by rw [he]; simp
    have hlt : decide ((pre.length : Int) < L.length) = true := by simpa using hl'
    have hix : L[pre.length]? = some x := by rw [he]; simp
    have hn : (0 : Int) ≤ pre.length := by omega
    have hwr : IntKind.i64.wrap ((pre.length : Int) + 1) = ((pre.length + 1 : Nat) : Int) := by rw [wrapS (by omega) (by omega)]; simp
    have h34 := k34 x (hx x (by rw [he]; simp))
    have hr := roomO (a := pre.length + 1) (b := 16) (by omega) (by omega)
    have ih := loop27a s c2 hc2 l e1 e2 e3 e4 e5 t ht d i L hL hx (acall tabS) rfl r (pre ++ [x]) (by simpa using he) fn base k
    simp only [List.length_append, List.length_cons, List.length_nil, Nat.zero_add, List.map_append, List.map_cons, List.map_nil] at ih
    rw [exK_loop]
    simp only [E27, List.length_map, hlt, hix, hn, h34, hr, EVT, EVD, ↓reduceIte, Nat.reduceEqDiff, reduceCtorEq, Nat.reduceAdd, Nat.reduceLeDiff, ne_eq, Nat.reduceLT, Int.reduceLT, Int.reduceLE, Int.reduceNeg]
    simp only [E27, hwr, widS, hc2, back1_t ht, backV_t ht, EVT, EVD, ↓reduceIte, Nat.reduceEqDiff, reduceCtorEq, Nat.reduceAdd, Nat.reduceLeDiff, ne_eq, Nat.reduceLT, Int.reduceLT, Int.reduceLE, Int.reduceNeg]
    exact ih
theorem loop27b (s : Bytes) (c2 : List AVal) (hc2 : ∀ B M, c2.map (AVal.back1 B M) = c2) (l : List (List Bytes)) (hl : l.length ≤ 1000000) (hp : ∀ p, p ∈ l → PairOk9 p) (C : CallF) (hC : C = acall tabS) : ∀ (r pre : List (List Bytes)), l = pre ++ r → ∀ (a : Ans) (t u : Tk), t = .sh ∨ t = .c0 → u = .sh ∨ u = .c0 → ∀ (fn : List ARes) (base : Nat) (k : List K), ∃ t' u', (t' = .sh ∨ t' = .c0) ∧ (u' = .sh ∨ u' = .c0) ∧
    exK C fn base (.block 0 :: k) (.loop [0, 2, 5, 7, 10] lb27_1) [(0, .str s), (2, .ptr 0 0), (5, .slice .sh (l.map pF)), (7, .ptr 1 0), (10, eI pre.length)] [.cells c2, .cells (eAnsC t u a)] =
    kr C fn base k ⟨.normal, [(0, .str s), (2, .ptr 0 0), (5, .slice .sh (l.map pF)), (7, .ptr 1 0), (10, eI l.length), (40, .bool false)], [.cells c2, .cells (eAnsC t' u' (r.foldl setAns a))]⟩
  | [], pre, he, a, t, u, ht, hu, fn, base, k => by
    subst hC
    have hpre : pre = l := by simpa using he.symm
    subst hpre
    have hlt : decide ((pre.length : Int) < pre.length) = false := by simp
    refine ⟨t, u, ht, hu, ?_⟩
    rw [exK_loop]
    simp only [E27, List.length_map, hlt, List.foldl_nil, EVT, EVD, ↓reduceIte, Nat.reduceEqDiff, reduceCtorEq, Nat.reduceAdd, Nat.reduceLeDiff, ne_eq, Nat.reduceLT, Int.reduceLT, Int.reduceLE, Int.reduceNeg]
  | p :: r, pre, he, a, t, u, ht, hu, fn, base, k => by
    subst hC
    have hl' : pre.length < l.length := by rw [he]; simp
    have hlt : decide ((pre.length : Int) < l.length) = true := by simpa using hl'
    have hix : l[pre.length]? = some p := by rw [he]; simp
    have hn : (0 : Int) ≤ pre.length := by omega
    have hwr : IntKind.i64.wrap ((pre.length : Int) + 1) = ((pre.length + 1 : Nat) : Int) := by rw [wrapS (by omega) (by omega)]; simp
    obtain ⟨w, v, rfl, hv⟩ := hp p (by rw [he]; simp)
    have h62 := k62 v (by omega)
    have h34 := k34 v (by omega)
    have h33 := k33 v 44 (by omega)
    simp only [show (((44 : UInt8).toNat : Nat) : Int) = 44 from rfl] at h33
    have hcl := cutL_len 44 v
    have hin := fun e1 e2 e3 e4 e5 d i fn base k => loop27a s c2 hc2 l e1 e2 e3 e4 e5 u hu d i (cutL 44 v) (by omega) (fun x hx => by have := cutL_mem 44 v x hx; omega) (acall tabS) rfl (cutL 44 v) [] rfl fn base k
    simp only [List.length_nil, List.map_nil] at hin
    rw [List.foldl_cons, exK_loop]
    by_cases g0 : w = wIno
    · have b0 : (w == [105, 110, 111]) = true := by simpa [wIno] using g0
      have hset : setAns a [w, v] = { a with ino := numR v } := by rw [setAns, if_pos g0]
      obtain ⟨t', u', ht', hu', ih⟩ := loop27b s c2 hc2 l hl hp (acall tabS) rfl r (pre ++ [[w, v]]) (by simpa using he) (setAns a [w, v]) t u ht hu fn base k
      refine ⟨t', u', ht', hu', ?_⟩
      rw [← ih, hset]
      simp only [E27, List.length_map, hlt, hix, hn, pF, List.map_cons, List.map_nil, ix0, ix1, h62, h34, h33, eAnsC, b0, EVT, EVD, ↓reduceIte, Nat.reduceEqDiff, reduceCtorEq, Nat.reduceAdd, Nat.reduceLeDiff, ne_eq, Nat.reduceLT, Int.reduceLT, Int.reduceLE, Int.reduceNeg]
      simp only [E27, hwr, hc2, back1_t ht, backV_t ht, back1_t hu, backV_t hu, rawsN, List.length_append, List.length_cons, List.length_nil, Nat.zero_add, EVT, EVD, ↓reduceIte, Nat.reduceEqDiff, reduceCtorEq, Nat.reduceAdd, Nat.reduceLeDiff, ne_eq, Nat.reduceLT, Int.reduceLT, Int.reduceLE, Int.reduceNeg]
    · have b0 : (w == [105, 110, 111]) = false := by simpa [wIno] using g0
      by_cases g1 : w = wKind
      · have b1 : (w == [107, 105, 110, 100]) = true := by simpa [wKind] using g1
        have hset : setAns a [w, v] = { a with kind := numR v } := by rw [setAns, if_neg g0, if_pos g1]
        obtain ⟨t', u', ht', hu', ih⟩ := loop27b s c2 hc2 l hl hp (acall tabS) rfl r (pre ++ [[w, v]]) (by simpa using he) (setAns a [w, v]) t u ht hu fn base k
        refine ⟨t', u', ht', hu', ?_⟩
        rw [← ih, hset]
        simp only [E27, List.length_map, hlt, hix, hn, pF, List.map_cons, List.map_nil, ix0, ix1, h62, h34, h33, eAnsC, b0, b1, EVT, EVD, ↓reduceIte, Nat.reduceEqDiff, reduceCtorEq, Nat.reduceAdd, Nat.reduceLeDiff, ne_eq, Nat.reduceLT, Int.reduceLT, Int.reduceLE, Int.reduceNeg]
        simp only [E27, hwr, hc2, back1_t ht, backV_t ht, back1_t hu, backV_t hu, rawsN, List.length_append, List.length_cons, List.length_nil, Nat.zero_add, EVT, EVD, ↓reduceIte, Nat.reduceEqDiff, reduceCtorEq, Nat.reduceAdd, Nat.reduceLeDiff, ne_eq, Nat.reduceLT, Int.reduceLT, Int.reduceLE, Int.reduceNeg]
      · have b1 : (w == [107, 105, 110, 100]) = false := by simpa [wKind] using g1
        by_cases g2 : w = wN
        · have b2 : (w == [110]) = true := by simpa [wN] using g2
          have hset : setAns a [w, v] = { a with n := numR v } := by rw [setAns, if_neg g0, if_neg g1, if_pos g2]
          obtain ⟨t', u', ht', hu', ih⟩ := loop27b s c2 hc2 l hl hp (acall tabS) rfl r (pre ++ [[w, v]]) (by simpa using he) (setAns a [w, v]) t u ht hu fn base k
          refine ⟨t', u', ht', hu', ?_⟩
          rw [← ih, hset]
          simp only [E27, List.length_map, hlt, hix, hn, pF, List.map_cons, List.map_nil, ix0, ix1, h62, h34, h33, eAnsC, b0, b1, b2, EVT, EVD, ↓reduceIte, Nat.reduceEqDiff, reduceCtorEq, Nat.reduceAdd, Nat.reduceLeDiff, ne_eq, Nat.reduceLT, Int.reduceLT, Int.reduceLE, Int.reduceNeg]
          simp only [E27, hwr, hc2, back1_t ht, backV_t ht, back1_t hu, backV_t hu, rawsN, List.length_append, List.length_cons, List.length_nil, Nat.zero_add, EVT, EVD, ↓reduceIte, Nat.reduceEqDiff, reduceCtorEq, Nat.reduceAdd, Nat.reduceLeDiff, ne_eq, Nat.reduceLT, Int.reduceLT, Int.reduceLE, Int.reduceNeg]
        · have b2 : (w == [110]) = false := by simpa [wN] using g2
          by_cases g3 : w = wM
          · have b3 : (w == [109]) = true := by simpa [wM] using g3
            have hset : setAns a [w, v] = { a with m := numR v } := by rw [setAns, if_neg g0, if_neg g1, if_neg g2, if_pos g3]
            obtain ⟨t', u', ht', hu', ih⟩ := loop27b s c2 hc2 l hl hp (acall tabS) rfl r (pre ++ [[w, v]]) (by simpa using he) (setAns a [w, v]) t u ht hu fn base k
            refine ⟨t', u', ht', hu', ?_⟩
            rw [← ih, hset]
            simp only [E27, List.length_map, hlt, hix, hn, pF, List.map_cons, List.map_nil, ix0, ix1, h62, h34, h33, eAnsC, b0, b1, b2, b3, EVT, EVD, ↓reduceIte, Nat.reduceEqDiff, reduceCtorEq, Nat.reduceAdd, Nat.reduceLeDiff, ne_eq, Nat.reduceLT, Int.reduceLT, Int.reduceLE, Int.reduceNeg]
            simp only [E27, hwr, hc2, back1_t ht, backV_t ht, back1_t hu, backV_t hu, rawsN, List.length_append, List.length_cons, List.length_nil, Nat.zero_add, EVT, EVD, ↓reduceIte, Nat.reduceEqDiff, reduceCtorEq, Nat.reduceAdd, Nat.reduceLeDiff, ne_eq, Nat.reduceLT, Int.reduceLT, Int.reduceLE, Int.reduceNeg]
          · have b3 : (w == [109]) = false := by simpa [wM] using g3
            by_cases g4 : w = wNames
            · have b4 : (w == [110, 97, 109, 101, 115]) = true := by simpa [wNames] using g4
              have hset : setAns a [w, v] = { a with names := rawsN v } := by rw [setAns, if_neg g0, if_neg g1, if_neg g2, if_neg g3, if_pos g4]
              obtain ⟨t', u', ht', hu', ih⟩ := loop27b s c2 hc2 l hl hp (acall tabS) rfl r (pre ++ [[w, v]]) (by simpa using he) (setAns a [w, v]) .sh u (.inl rfl) hu fn base k
              refine ⟨t', u', ht', hu', ?_⟩
              rw [← ih, hset]
              simp only [E27, List.length_map, hlt, hix, hn, pF, List.map_cons, List.map_nil, ix0, ix1, h62, h34, h33, eAnsC, b0, b1, b2, b3, b4, EVT, EVD, ↓reduceIte, Nat.reduceEqDiff, reduceCtorEq, Nat.reduceAdd, Nat.reduceLeDiff, ne_eq, Nat.reduceLT, Int.reduceLT, Int.reduceLE, Int.reduceNeg]
              refine (hin _ _ _ _ _ _ _ _ _ _).trans ?_
              simp only [E27, hwr, hc2, back1_t ht, backV_t ht, back1_t hu, backV_t hu, rawsN, List.length_append, List.length_cons, List.length_nil, Nat.zero_add, EVT, EVD, ↓reduceIte, Nat.reduceEqDiff, reduceCtorEq, Nat.reduceAdd, Nat.reduceLeDiff, ne_eq, Nat.reduceLT, Int.reduceLT, Int.reduceLE, Int.reduceNeg]
            · have b4 : (w == [110, 97, 109, 101, 115]) = false := by simpa [wNames] using g4
              by_cases g5 : w = wData
              · have b5 : (w == [100, 97, 116, 97]) = true := by simpa [wData] using g5
                have hset : setAns a [w, v] = { a with data := (refRaw v).1 } := by rw [setAns, if_neg g0, if_neg g1, if_neg g2, if_neg g3, if_neg g4, if_pos g5]
                obtain ⟨t', u', ht', hu', ih⟩ := loop27b s c2 hc2 l hl hp (acall tabS) rfl r (pre ++ [[w, v]]) (by simpa using he) (setAns a [w, v]) t .sh ht (.inl rfl) fn base k
                refine ⟨t', u', ht', hu', ?_⟩
                rw [← ih, hset]
                simp only [E27, List.length_map, hlt, hix, hn, pF, List.map_cons, List.map_nil, ix0, ix1, h62, h34, h33, eAnsC, b0, b1, b2, b3, b4, b5, EVT, EVD, ↓reduceIte, Nat.reduceEqDiff, reduceCtorEq, Nat.reduceAdd, Nat.reduceLeDiff, ne_eq, Nat.reduceLT, Int.reduceLT, Int.reduceLE, Int.reduceNeg]
                simp only [E27, hwr, hc2, back1_t ht, backV_t ht, back1_t hu, backV_t hu, rawsN, List.length_append, List.length_cons, List.length_nil, Nat.zero_add, EVT, EVD, ↓reduceIte, Nat.reduceEqDiff, reduceCtorEq, Nat.reduceAdd, Nat.reduceLeDiff, ne_eq, Nat.reduceLT, Int.reduceLT, Int.reduceLE, Int.reduceNeg]
              · have b5 : (w == [100, 97, 116, 97]) = false := by simpa [wData] using g5
                have hset : setAns a [w, v] = a := by rw [setAns, if_neg g0, if_neg g1, if_neg g2, if_neg g3, if_neg g4, if_neg g5]
                obtain ⟨t', u', ht', hu', ih⟩ := loop27b s c2 hc2 l hl hp (acall tabS) rfl r (pre ++ [[w, v]]) (by simpa using he) (setAns a [w, v]) t u ht hu fn base k
                refine ⟨t', u', ht', hu', ?_⟩
                rw [← ih, hset]
                simp only [E27, List.length_map, hlt, hix, hn, pF, List.map_cons, List.map_nil, ix0, ix1, h62, h34, h33, eAnsC, b0, b1, b2, b3, b4, b5, EVT, EVD, ↓reduceIte, Nat.reduceEqDiff, reduceCtorEq, Nat.reduceAdd, Nat.reduceLeDiff, ne_eq, Nat.reduceLT, Int.reduceLT, Int.reduceLE, Int.reduceNeg]
                simp only [E27, hwr, hc2, back1_t ht, backV_t ht, back1_t hu, backV_t hu, rawsN, List.length_append, List.length_cons, List.length_nil, Nat.zero_add, EVT, EVD, ↓reduceIte, Nat.reduceEqDiff, reduceCtorEq, Nat.reduceAdd, Nat.reduceLeDiff, ne_eq, Nat.reduceLT, Int.reduceLT, Int.reduceLE, Int.reduceNeg]
theorem partsGo_ok9 : ∀ {L : List Bytes} {l : List (List Bytes)}, (∀ x, x ∈ L → x.length ≤ 900000) → partsGo L = some l → ∀ p, p ∈ l → PairOk9 p
  | [], l, _, h => by cases h; simp
  | x :: r, l, hx, h => by
    rw [partsGo] at h
    split at h
    · rename_i h2
      obtain ⟨l', h1, rfl⟩ := Option.map_eq_some_iff.1 h
      have i1 := partsGo_ok9 (fun y hy => hx y (List.mem_cons_of_mem _ hy)) h1
      intro p hp
      rcases List.mem_cons.1 hp with rfl | hp
      · have hm := cutL_mem 61 x
        have h0 := hx x (by simp)
        match hc : cutL 61 x, h2 with
        | [w, v], _ =>
          have := hm v (by rw [hc]; simp)
          exact ⟨w, v, rfl, by omega⟩
      · exact i1 p hp
    · cases h
theorem partsR_ok9 {s : Bytes} (hs : s.length ≤ 900000) : ∀ p, p ∈ (partsR s).2.1 → PairOk9 p := by
  have hm := cutL_mem 32 s
  unfold partsR partsEnd
  split
  · simp
  · rename_i l h
    simp only [List.nil_append]
    exact partsGo_ok9 (fun x hx => by have := hm x (List.mem_of_mem_tail hx); omega) h
def wErr : Bytes := [101, 114, 114, 111, 114]
def errR (w : Bytes) : Int := if (beginsN w wErr).2 = true then numR (beginsN w wErr).1 else 0
theorem errR_ok (w : Bytes) : okI (errR w) := by
  unfold errR
  split
  · exact numR_ok _
  · exact okI_zero
def ansR0 (s : Bytes) : Ans := (partsR s).2.1.foldl setAns ⟨errR (partsR s).1, 0, 0, 0, 0, [], []⟩
def rdAnsR (s : Bytes) : Ans × Int := if (partsR s).2.2 = true ∧ ansN (ansR0 s) = s then (ansR0 s, 0) else (ansZ, 11)
theorem ansR0_ok {s : Bytes} (hs : s.length ≤ 900000) : AnsOk (ansR0 s) :=
  foldAns_ok ⟨errR_ok _, okI_zero, okI_zero, okI_zero, okI_zero, by simp, by simp [sumL], by simp⟩ (partsR_ok9 hs)
theorem c27 (s : Bytes) (hs : s.length ≤ 900000) : acall tabS 27 [.str s] [] = some (.tuple [eAns .sh .sh (rdAnsR s).1, eI (rdAnsR s).2], []) := by
  refine acall_ex rfl rfl rfl ?_
  have h60 := k60 s hs
  obtain ⟨p1, p2, p3⟩ := partsR_ok hs
  have h66 := k66 (partsR s).1 wErr
  have h62 := k62 (beginsN (partsR s).1 wErr).1 (Nat.le_trans (beginsN_le _ _) p3)
  simp only [show wErr = [101, 114, 114, 111, 114] from rfl] at h66 h62
  have hok := ansR0_ok hs
  have h0 := fun c2 hc2 o fn base k => loop27b s c2 hc2 (partsR s).2.1 p2 (partsR_ok9 hs) (acall tabS) rfl (partsR s).2.1 [] rfl o .c0 .c0 (.inr rfl) (.inr rfl) fn base k
  have h18 := k18 (ansR0 s) hok
  simp only [eAns, eAnsC] at h18
  cases hb : (partsR s).2.2 with
  | false =>
    have hr : rdAnsR s = (ansZ, 11) := by unfold rdAnsR; rw [if_neg (fun e => by rw [hb] at e; cases e.1)]
    rw [hr]
    simp only [fn27, E27, h60, hb, eAns, eAnsC, ansZ, List.map_nil, EVT, EVD, ↓reduceIte, Nat.reduceEqDiff, reduceCtorEq, Nat.reduceAdd, Nat.reduceLeDiff, ne_eq, Nat.reduceLT, Int.reduceLT, Int.reduceLE, Int.reduceNeg]
  | true =>
    simp only [List.length_nil] at h0
    obtain ⟨t', u', ht', hu', h1⟩ := h0 [.int .i64 0, .int .i64 0, .int .i64 0, .int .i64 0, .int .i64 0, .slice .c0 [], .slice .c0 []] (fun _ _ => rfl) ⟨errR (partsR s).1, 0, 0, 0, 0, [], []⟩ [.cellA 2 7, .tmp 3] 0 [.seq q27_27]
    simp only [eAnsC, List.map_nil] at h1
    have e0 : (partsR s).2.1.foldl setAns ⟨errR (partsR s).1, 0, 0, 0, 0, [], []⟩ = ansR0 s := rfl
    rw [e0] at h1
    cases hbe : (beginsN (partsR s).1 wErr).2 with
    | false =>
      have hee : errR (partsR s).1 = 0 := by unfold errR; rw [if_neg (by rw [hbe]; decide)]
      rw [hee] at h1
      simp only [show wErr = [101, 114, 114, 111, 114] from rfl] at hbe
      simp only [fn27, E27, h60, h66, hb, hbe, EVT, EVD, ↓reduceIte, Nat.reduceEqDiff, reduceCtorEq, Nat.reduceAdd, Nat.reduceLeDiff, ne_eq, Nat.reduceLT, Int.reduceLT, Int.reduceLE, Int.reduceNeg]
      refine h1.trans ?_
      by_cases hn : ansN (ansR0 s) = s
      · have hb2 : (ansN (ansR0 s) != s) = false := by simp [hn]
        have hr : rdAnsR s = (ansR0 s, 0) := by unfold rdAnsR; rw [if_pos ⟨hb, hn⟩]
        rw [hr]
        rcases ht' with rfl | rfl <;> rcases hu' with rfl | rfl <;> simp only [E27, h18, hb2, eAns, eAnsC, EVT, EVD, ↓reduceIte, Nat.reduceEqDiff, reduceCtorEq, Nat.reduceAdd, Nat.reduceLeDiff, ne_eq, Nat.reduceLT, Int.reduceLT, Int.reduceLE, Int.reduceNeg]
      · have hb2 : (ansN (ansR0 s) != s) = true := by simpa using hn
        have hr : rdAnsR s = (ansZ, 11) := by unfold rdAnsR; rw [if_neg (fun e => hn e.2)]
        rw [hr]
        rcases ht' with rfl | rfl <;> rcases hu' with rfl | rfl <;> simp only [E27, h18, hb2, eAns, eAnsC, ansZ, List.map_nil, EVT, EVD, ↓reduceIte, Nat.reduceEqDiff, reduceCtorEq, Nat.reduceAdd, Nat.reduceLeDiff, ne_eq, Nat.reduceLT, Int.reduceLT, Int.reduceLE, Int.reduceNeg]
    | true =>
      have hee : errR (partsR s).1 = numR (beginsN (partsR s).1 wErr).1 := by unfold errR; rw [if_pos hbe]
      rw [hee] at h1
      simp only [show wErr = [101, 114, 114, 111, 114] from rfl] at hbe h1
      simp only [fn27, E27, h60, h66, h62, hb, hbe, EVT, EVD, ↓reduceIte, Nat.reduceEqDiff, reduceCtorEq, Nat.reduceAdd, Nat.reduceLeDiff, ne_eq, Nat.reduceLT, Int.reduceLT, Int.reduceLE, Int.reduceNeg]
      refine h1.trans ?_
      by_cases hn : ansN (ansR0 s) = s
      · have hb2 : (ansN (ansR0 s) != s) = false := by simp [hn]
        have hr : rdAnsR s = (ansR0 s, 0) := by unfold rdAnsR; rw [if_pos ⟨hb, hn⟩]
        rw [hr]
        rcases ht' with rfl | rfl <;> rcases hu' with rfl | rfl <;> simp only [E27, h18, hb2, eAns, eAnsC, EVT, EVD, ↓reduceIte, Nat.reduceEqDiff, reduceCtorEq, Nat.reduceAdd, Nat.reduceLeDiff, ne_eq, Nat.reduceLT, Int.reduceLT, Int.reduceLE, Int.reduceNeg]
      · have hb2 : (ansN (ansR0 s) != s) = true := by simpa using hn
        have hr : rdAnsR s = (ansZ, 11) := by unfold rdAnsR; rw [if_neg (fun e => hn e.2)]
        rw [hr]
        rcases ht' with rfl | rfl <;> rcases hu' with rfl | rfl <;> simp only [E27, h18, hb2, eAns, eAnsC, ansZ, List.map_nil, EVT, EVD, ↓reduceIte, Nat.reduceEqDiff, reduceCtorEq, Nat.reduceAdd, Nat.reduceLeDiff, ne_eq, Nat.reduceLT, Int.reduceLT, Int.reduceLE, Int.reduceNeg]
theorem k27 (s : Bytes) (hs : s.length ≤ 900000) (M : AMem) : callOp (acall tabS) 27 [.str s] M = some (.tuple [eAns .sh .sh (rdAnsR s).1, eI (rdAnsR s).2], M) := callOp0 (c27 s hs) rfl rfl rfl rfl rfl M
end Go.Proofs.YtannopdcbocngaaGreatDoor
namespace Go.Proofs.YtannopdcbocngaaGreatDoor
open Go Go.Abs
attribute [local irreducible] exK opsK opK gK forkK kr acall callOp owhen obind
theorem indexByte_lt (s : Bytes) (c : UInt8) : Lib.indexByte s c < s.length ∨ Lib.indexByte s c = -1 := by
  have hge := Lib.indexByte_ge s c
  by_cases h : Lib.indexByte s c = -1
  · exact .inr h
  · have h1 := (Lib.indexByte_some (l := s) (c := c) (o := (Lib.indexByte s c).toNat) (by omega)).1
    have := (List.getElem?_eq_some_iff.1 h1).1
    left; omega
def wBegin : Bytes := [98, 101, 103, 105, 110, 32]
def wEnd : Bytes := [101, 110, 100, 32]
def evZ : Event := ⟨0, 0, opZ, ansZ⟩
def atC (s : Bytes) : Nat := (Lib.indexByte s 58).toNat
def evR (s : Bytes) : Event × Bool :=
  if Lib.indexByte s 58 < 0 ∨ s.length < atC s + 2 then (evZ, false)
  else if (beginsN (s.take (atC s)) wBegin).2 = true then (⟨1, numR (beginsN (s.take (atC s)) wBegin).1, (rdOpR (s.drop (atC s + 2))).1, ansZ⟩, (rdOpR (s.drop (atC s + 2))).2 == 0)
  else if (beginsN (s.take (atC s)) wEnd).2 = true then (⟨2, numR (beginsN (s.take (atC s)) wEnd).1, opZ, (rdAnsR (s.drop (atC s + 2))).1⟩, (rdAnsR (s.drop (atC s + 2))).2 == 0)
  else (evZ, false)
theorem rdOpR_ok {s : Bytes} (h : s.length ≤ 900000) : OpOk (rdOpR s).1 := by
  unfold rdOpR
  split
  · exact opR0_ok h
  · exact opZ_ok
theorem rdAnsR_ok {s : Bytes} (h : s.length ≤ 900000) : AnsOk (rdAnsR s).1 := by
  unfold rdAnsR
  split
  · exact ansR0_ok h
  · exact ansZ_ok
theorem evR_ok {s : Bytes} (h : s.length ≤ 900000) : EvOk (evR s).1 := by
  have h1 : (s.drop (atC s + 2)).length ≤ 900000 := by simp; omega
  unfold evR
  split
  · exact ⟨okI_zero, opZ_ok, ansZ_ok⟩
  · split
    · exact ⟨numR_ok _, rdOpR_ok h1, ansZ_ok⟩
    · split
      · exact ⟨numR_ok _, opZ_ok, rdAnsR_ok h1⟩
      · exact ⟨okI_zero, opZ_ok, ansZ_ok⟩
theorem c69 (s : Bytes) (hs : s.length ≤ 900000) : acall tabS 69 [.str s] [] = some (.tuple [eEv (evR s).1, .bool (evR s).2], []) := by
  refine acall_ex rfl rfl rfl ?_
  have h100 := k100 s (by omega)
  have hge := Lib.indexByte_ge s 58
  by_cases hneg : Lib.indexByte s 58 < 0
  · have hb : decide (Lib.indexByte s 58 < 0) = true := by simpa using hneg
    have hr : evR s = (evZ, false) := by unfold evR; rw [if_pos (.inl hneg)]
    rw [hr]
    simp only [fn69, E69, h100, hb, eEv, eEvC, evZ, opZ, ansZ, List.map_nil, EVT, EVD, ↓reduceIte, Nat.reduceEqDiff, reduceCtorEq, Nat.reduceAdd, Nat.reduceLeDiff, ne_eq, Nat.reduceLT, Int.reduceLT, Int.reduceLE, Int.reduceNeg]
  · have ha : Lib.indexByte s 58 = ((atC s : Nat) : Int) := by unfold atC; omega
    have hlt := indexByte_lt s 58
    have hal : atC s ≤ s.length := by unfold atC; omega
    have hw : IntKind.i64.wrap (((atC s : Nat) : Int) + 2) = ((atC s + 2 : Nat) : Int) := by rw [wrapS (by omega) (by omega)]; simp
    have hb : decide (((atC s : Nat) : Int) < 0) = false := by simp
    rw [ha] at h100
    by_cases hlen : s.length < atC s + 2
    · have hb2 : decide (((s.length : Nat) : Int) < ((atC s + 2 : Nat) : Int)) = true := by simp; omega
      have hr : evR s = (evZ, false) := by unfold evR; rw [if_pos (.inr hlen)]
      rw [hr]
      simp only [fn69, E69, h100, hb, hw, hb2, eEv, eEvC, evZ, opZ, ansZ, List.map_nil, EVT, EVD, ↓reduceIte, Nat.reduceEqDiff, reduceCtorEq, Nat.reduceAdd, Nat.reduceLeDiff, ne_eq, Nat.reduceLT, Int.reduceLT, Int.reduceLE, Int.reduceNeg]
    · have hb2 : decide (((s.length : Nat) : Int) < ((atC s + 2 : Nat) : Int)) = false := by simp; omega
      have h2 : (((atC s : Nat) : Int) ≤ ((s.length : Nat) : Int) ∧ ((0 : Nat) : Int) ≤ ((atC s : Nat) : Int)) = True := by simp only [eq_iff_iff, iff_true]; omega
      have h3 : (((s.length : Nat) : Int) ≤ ((s.length : Nat) : Int) ∧ ((atC s + 2 : Nat) : Int) ≤ ((s.length : Nat) : Int)) = True := by simp only [eq_iff_iff, iff_true]; omega
      obtain ⟨h, hh⟩ : ∃ h, s.take (atC s) = h := ⟨_, rfl⟩
      obtain ⟨r, hrr⟩ : ∃ r, s.drop (atC s + 2) = r := ⟨_, rfl⟩
      have hhl : h.length ≤ 900000 := by rw [← hh]; simp; omega
      have hrl : r.length ≤ 900000 := by rw [← hrr]; simp; omega
      have h66 := k66 h wBegin
      have h66' := k66 h wEnd
      have h62 := k62 (beginsN h wBegin).1 (by have := beginsN_le h wBegin; omega)
      have h62' := k62 (beginsN h wEnd).1 (by have := beginsN_le h wEnd; omega)
      have h25 := k25 r hrl
      have h27 := k27 r hrl
      simp only [eOp, eOpC, eAns, eAnsC, wBegin, wEnd] at h66 h66' h62 h62' h25 h27
      have hr0 : evR s = if (beginsN h wBegin).2 = true then (⟨1, numR (beginsN h wBegin).1, (rdOpR r).1, ansZ⟩, (rdOpR r).2 == 0)
          else if (beginsN h wEnd).2 = true then (⟨2, numR (beginsN h wEnd).1, opZ, (rdAnsR r).1⟩, (rdAnsR r).2 == 0) else (evZ, false) := by
        unfold evR
        rw [if_neg (fun e => e.elim hneg hlen), hh, hrr]
      rcases Bool.eq_false_or_eq_true (beginsN h wBegin).2 with hbb | hbb
      · rw [if_pos hbb] at hr0
        rw [hr0]
        simp only [wBegin] at hbb ⊢
        simp only [fn69, E69, h100, hb, hw, hb2, h2, h3, natI, List.take_length, hh, hrr, h66, h62, h25, hbb, eEv, eEvC, ansZ, List.map_nil, EVT, EVD, ↓reduceIte, Nat.reduceEqDiff, reduceCtorEq, Nat.reduceAdd, Nat.reduceLeDiff, ne_eq, Nat.reduceLT, Int.reduceLT, Int.reduceLE, Int.reduceNeg]
      · rw [if_neg (by rw [hbb]; decide)] at hr0
        rcases Bool.eq_false_or_eq_true (beginsN h wEnd).2 with hbe | hbe
        · rw [if_pos hbe] at hr0
          rw [hr0]
          simp only [wBegin, wEnd] at hbb hbe ⊢
          simp only [fn69, E69, h100, hb, hw, hb2, h2, h3, natI, List.take_length, hh, hrr, h66, h66', h62', h27, hbb, hbe, eEv, eEvC, opZ, List.map_nil, EVT, EVD, ↓reduceIte, Nat.reduceEqDiff, reduceCtorEq, Nat.reduceAdd, Nat.reduceLeDiff, ne_eq, Nat.reduceLT, Int.reduceLT, Int.reduceLE, Int.reduceNeg]
        · rw [if_neg (by rw [hbe]; decide)] at hr0
          rw [hr0]
          simp only [wBegin, wEnd] at hbb hbe
          simp only [fn69, E69, h100, hb, hw, hb2, h2, h3, natI, List.take_length, hh, hrr, h66, h66', hbb, hbe, eEv, eEvC, evZ, opZ, ansZ, List.map_nil, EVT, EVD, ↓reduceIte, Nat.reduceEqDiff, reduceCtorEq, Nat.reduceAdd, Nat.reduceLeDiff, ne_eq, Nat.reduceLT, Int.reduceLT, Int.reduceLE, Int.reduceNeg]
theorem k69 (s : Bytes) (hs : s.length ≤ 900000) (M : AMem) : callOp (acall tabS) 69 [.str s] M = some (.tuple [eEv (evR s).1, .bool (evR s).2], M) := callOp0 (c69 s hs) rfl rfl rfl rfl rfl M
def evAll : List Bytes → Option (List Event)
  | [] => some []
  | x :: r => if (evR x).2 = true then (evAll r).map ((evR x).1 :: ·) else none
def hEnd (s : Bytes) (out : List Event) : Option (List Event) → List Event × Int
  | none => ([], 11)
  | some l => if histN (out ++ l) = s then (out ++ l, 0) else ([], 11)
theorem hEnd_step (s : Bytes) (out : List Event) (e : Event) (x : Option (List Event)) : hEnd s (out ++ [e]) x = hEnd s out (x.map (e :: ·)) := by
  cases x with
  | none => rfl
  | some l => simp [hEnd]
theorem loop29 (s : Bytes) (L : List Bytes) (hL : L.length ≤ 100000) (hx : ∀ x, x ∈ L → x.length ≤ 900000) (last : Bytes) (C : CallF) (hC : C = acall tabS) : ∀ (r pre : List Bytes) (out : List Event), L = pre ++ (r ++ [last]) → out.length ≤ pre.length → (∀ e, e ∈ out → EvOk e) →
    exK C [.tmp 2, .tmp 3] 0 [.block 0, .seq q29_7] (.loop [0, 4, 5, 6] lb29_0) [(0, .str s), (4, .slice .sh (L.map .str)), (5, .slice (.own 0) (out.map eEv)), (6, eI pre.length)] [.tick 17 out.length] =
    some (.tuple [.slice .sh ((hEnd s out (evAll r)).1.map eEv), eI (hEnd s out (evAll r)).2], [])
  | [], pre, out, he, ho, hok => by
    subst hC
    have hlen : L.length = pre.length + 1 := by rw [he]; simp
    have hlt : decide (((pre.length + 1 : Nat) : Int) < (L.length : Int)) = false := by rw [hlen]; simp
    have hw : IntKind.i64.wrap ((pre.length : Int) + 1) = ((pre.length + 1 : Nat) : Int) := by rw [wrapS (by omega) (by omega)]; simp
    have h21 := k21 out hok (by omega)
    rw [exK_loop]
    by_cases hn : histN out = s
    · have hb : (histN out != s) = false := by simp [hn]
      have hr : hEnd s out (evAll []) = (out, 0) := by simp [evAll, hEnd, hn]
      rw [hr]
      simp only [E29, List.length_map, hw, hlt, h21, hb, EVT, EVD, ↓reduceIte, Nat.reduceEqDiff, reduceCtorEq, Nat.reduceAdd, Nat.reduceLeDiff, ne_eq, Nat.reduceLT, Int.reduceLT, Int.reduceLE, Int.reduceNeg]
    · have hb : (histN out != s) = true := by simpa using hn
      have hr : hEnd s out (evAll []) = ([], 11) := by simp [evAll, hEnd, hn]
      rw [hr]
      simp only [E29, List.length_map, hw, hlt, h21, hb, List.map_nil, EVT, EVD, ↓reduceIte, Nat.reduceEqDiff, reduceCtorEq, Nat.reduceAdd, Nat.reduceLeDiff, ne_eq, Nat.reduceLT, Int.reduceLT, Int.reduceLE, Int.reduceNeg]
  | x :: r, pre, out, he, ho, hok => by
    subst hC
    have hlen : L.length = pre.length + (r.length + 2) := by rw [he]; simp
    have hlt : decide (((pre.length + 1 : Nat) : Int) < (L.length : Int)) = true := by rw [hlen]; simp; omega
    have hix : L[pre.length]? = some x := by rw [he]; simp
    have hn : (0 : Int) ≤ pre.length := by omega
    have hw : IntKind.i64.wrap ((pre.length : Int) + 1) = ((pre.length + 1 : Nat) : Int) := by rw [wrapS (by omega) (by omega)]; simp
    have hxl := hx x (by rw [he]; simp)
    have h69 := k69 x hxl
    have hr := roomO (a := out.length + 1) (b := 200) (by omega) (by omega)
    simp only [eEv, eEvC] at h69
    rw [exK_loop]
    cases hb : (evR x).2 with
    | false =>
      have hr : hEnd s out (evAll (x :: r)) = ([], 11) := by rw [evAll, if_neg (by rw [hb]; decide)]; rfl
      rw [hr]
      simp only [E29, List.length_map, hw, hlt, hix, hn, h69, hb, List.map_nil, EVT, EVD, ↓reduceIte, Nat.reduceEqDiff, reduceCtorEq, Nat.reduceAdd, Nat.reduceLeDiff, ne_eq, Nat.reduceLT, Int.reduceLT, Int.reduceLE, Int.reduceNeg]
    | true =>
      have ih := loop29 s L hL hx last (acall tabS) rfl r (pre ++ [x]) (out ++ [(evR x).1]) (by simpa using he) (by simp; omega) (fun e he' => (List.mem_append.1 he').elim (hok e) (fun h => by simp at h; subst h; exact evR_ok hxl))
      rw [hEnd_step] at ih
      have hr2 : evAll (x :: r) = (evAll r).map ((evR x).1 :: ·) := by rw [evAll, if_pos hb]
      rw [hr2]
      simp only [List.length_append, List.length_cons, List.length_nil, Nat.zero_add, List.map_append, List.map_cons, List.map_nil, eEvC] at ih
      simp only [E29, List.length_map, hw, hlt, hix, hn, h69, hb, hr, EVT, EVD, ↓reduceIte, Nat.reduceEqDiff, reduceCtorEq, Nat.reduceAdd, Nat.reduceLeDiff, ne_eq, Nat.reduceLT, Int.reduceLT, Int.reduceLE, Int.reduceNeg]
      simp only [E29, hw, wid_evs, EVT, EVD, ↓reduceIte, Nat.reduceEqDiff, reduceCtorEq, Nat.reduceAdd, Nat.reduceLeDiff, ne_eq, Nat.reduceLT, Int.reduceLT, Int.reduceLE, Int.reduceNeg]
      exact ih
def rdHistR (s : Bytes) : List Event × Int := hEnd s [] (evAll (cutL 10 s).dropLast)
theorem c29 (s : Bytes) (hs : s.length ≤ 900000) (hN : (cutL 10 s).length ≤ 100000) : acall tabS 29 [.str s] [] = some (.tuple [.slice .sh ((rdHistR s).1.map eEv), eI (rdHistR s).2], []) := by
  refine acall_ex rfl rfl rfl ?_
  have h33 := k33 s 10 (by omega)
  simp only [show (((10 : UInt8).toNat : Nat) : Int) = 10 from rfl] at h33
  have h0 := loop29 s (cutL 10 s) hN (fun x hx => Nat.le_trans (cutL_mem 10 s x hx) hs) ((cutL 10 s).getLast (cutL_ne 10 s)) (acall tabS) rfl (cutL 10 s).dropLast [] [] (List.dropLast_concat_getLast (cutL_ne 10 s)).symm (by simp) (by simp)
  simp only [List.length_nil, List.map_nil] at h0
  simp only [fn29, E29, h33, EVT, EVD, ↓reduceIte, Nat.reduceEqDiff, reduceCtorEq, Nat.reduceAdd, Nat.reduceLeDiff, ne_eq, Nat.reduceLT, Int.reduceLT, Int.reduceLE, Int.reduceNeg]
  exact h0
theorem k29 (s : Bytes) (hs : s.length ≤ 900000) (hN : (cutL 10 s).length ≤ 100000) (M : AMem) : callOp (acall tabS) 29 [.str s] M = some (.tuple [.slice .sh ((rdHistR s).1.map eEv), eI (rdHistR s).2], M) := callOp0 (c29 s hs hN) rfl rfl rfl rfl rfl M
end Go.Proofs.YtannopdcbocngaaGreatDoor
namespace Go.Proofs.YtannopdcbocngaaGreatDoor
open Go Go.Abs
def prR (p : Bytes × Bytes) : List Bytes := [p.1, p.2]
theorem cut61 {w v : Bytes} (h : (61 : UInt8) ∉ w) (h' : (61 : UInt8) ∉ v) : cutL 61 (w ++ 61 :: v) = [w, v] := by
  rw [cutL_app v h, cutL_noc h']
theorem partsGo_rows : ∀ {R : List (Bytes × Bytes)}, (∀ p, p ∈ R → (61 : UInt8) ∉ p.1 ∧ (61 : UInt8) ∉ p.2) → partsGo (R.map bodyR) = some (R.map prR)
  | [], _ => rfl
  | p :: R, h => by
    have h1 := h p (by simp)
    rw [List.map_cons, partsGo]
    unfold bodyR
    rw [cut61 h1.1 h1.2, if_pos (show [p.1, p.2].length = 2 from rfl)]
    have ih := partsGo_rows (R := R) (fun q hq => h q (by simp [hq]))
    unfold bodyR at ih
    rw [ih]
    rfl
theorem partsR_line {first : Bytes} {R : List (Bytes × Bytes)} (hf : (32 : UInt8) ∉ first) (h32 : ∀ p, p ∈ R → (32 : UInt8) ∉ bodyR p) (h61 : ∀ p, p ∈ R → (61 : UInt8) ∉ p.1 ∧ (61 : UInt8) ∉ p.2) :
    partsR (first ++ R.flatMap fun p => 32 :: bodyR p) = (first, R.map prR, true) := by
  have e : (R.flatMap fun p => 32 :: bodyR p) = (R.map bodyR).flatMap (32 :: ·) := by rw [List.flatMap_map]
  have h : cutL 32 (first ++ (R.map bodyR).flatMap (32 :: ·)) = first :: R.map bodyR := cutL_rows _ _ hf (fun b hb => by
    obtain ⟨p, hp, rfl⟩ := List.mem_map.1 hb
    exact h32 p hp)
  unfold partsR
  rw [e, h]
  simp only [List.headD_cons, List.tail_cons]
  rw [partsGo_rows h61]
  rfl
theorem esc61 (s : Bytes) : (61 : UInt8) ∉ escN s := escN_not (by rw [plain_not.2.1]; simp) (by decide)
theorem rows61 {l : List Fld} (hw : ∀ f, f ∈ l → (61 : UInt8) ∉ f.word ∧ (61 : UInt8) ∉ f.s) : ∀ p, p ∈ rowsF l → (61 : UInt8) ∉ p.1 ∧ (61 : UInt8) ∉ p.2 := by
  intro p hp
  obtain ⟨f, hf, rfl⟩ := List.mem_map.1 hp
  obtain ⟨h1, h2⟩ := hw f (List.mem_filter.1 hf).1
  refine ⟨h1, ?_⟩
  show (61 : UInt8) ∉ valF f
  unfold valF
  split
  · exact itoa_not (by decide)
  · exact h2
theorem flds2 {w s : Bytes} {n : Int} (h : (61 : UInt8) ∉ w) (hs : (61 : UInt8) ∉ s) : (61 : UInt8) ∉ (⟨w, n, s⟩ : Fld).word ∧ (61 : UInt8) ∉ (⟨w, n, s⟩ : Fld).s := ⟨h, hs⟩
theorem opFlds_61 (o : Op) : ∀ f, f ∈ opFlds o → (61 : UInt8) ∉ f.word ∧ (61 : UInt8) ∉ f.s := by
  intro f hf
  simp only [opFlds, List.mem_cons, List.not_mem_nil, or_false] at hf
  rcases hf with rfl | rfl | rfl | rfl | rfl | rfl | rfl
  · exact flds2 (by decide) (by simp)
  · exact flds2 (by decide) (esc61 _)
  · exact flds2 (by decide) (esc61 _)
  · exact flds2 (by decide) (by simp)
  · exact flds2 (by decide) (by simp)
  · exact flds2 (by decide) (by simp)
  · exact flds2 (by decide) (esc61 _)
theorem opFlds_32 (o : Op) : ∀ f, f ∈ opFlds o → (32 : UInt8) ∉ f.word ∧ (61 : UInt8) ∉ f.word ∧ (32 : UInt8) ∉ f.s := by
  intro f hf
  simp only [opFlds, List.mem_cons, List.not_mem_nil, or_false] at hf
  rcases hf with rfl | rfl | rfl | rfl | rfl | rfl | rfl
  · exact flds3 (by decide) (by simp)
  · exact flds3 (by decide) (esc32 _)
  · exact flds3 (by decide) (esc32 _)
  · exact flds3 (by decide) (by simp)
  · exact flds3 (by decide) (by simp)
  · exact flds3 (by decide) (by simp)
  · exact flds3 (by decide) (esc32 _)
theorem partsR_op (o : Op) : partsR (opN o) = (firstN o.kind, (rowsF (opFlds o)).map prR, true) := by
  rw [opN_rows]
  exact partsR_line (firstN_32 _) (fun p hp => (rows_ok (opFlds_32 o) p hp).1) (rows61 (opFlds_61 o))
theorem step_n {β : Type} (F : β → List Bytes → β) (b0 : β) (w : Bytes) (c : Int) (hc : okI c) (st : Int → β) (hF : ∀ v, F b0 [w, v] = st (numR v)) (h0 : st 0 = b0) (l : List Fld) :
    ((rowsF (⟨w, c, []⟩ :: l)).map prR).foldl F b0 = ((rowsF l).map prR).foldl F (st c) := by
  unfold rowsF
  by_cases hz : c = 0
  · rw [List.filter_cons_of_neg (by simp [nz, hz]), hz, h0]
  · rw [List.filter_cons_of_pos (by simp [nz, hz]), List.map_cons, List.map_cons, List.foldl_cons]
    have hv : valF ⟨w, c, []⟩ = Lib.itoa c := by simp [valF, hz]
    simp only [prR]
    rw [hv, hF, numR_itoa hc]
theorem step_s {β : Type} (F : β → List Bytes → β) (b0 : β) (w : Bytes) (x : Bytes) (st : Bytes → β) (hF : ∀ v, F b0 [w, v] = st (refRaw v).1) (h0 : st [] = b0) (l : List Fld) :
    ((rowsF (⟨w, 0, escN x⟩ :: l)).map prR).foldl F b0 = ((rowsF l).map prR).foldl F (st x) := by
  unfold rowsF
  by_cases hz : x = []
  · have he : escN x = [] := escN_nil.2 hz
    rw [List.filter_cons_of_neg (by simp [nz, he]), hz, h0]
  · have he : escN x ≠ [] := fun e => hz (escN_nil.1 e)
    rw [List.filter_cons_of_pos (by simp [nz, he]), List.map_cons, List.map_cons, List.foldl_cons]
    have hv : valF ⟨w, 0, escN x⟩ = escN x := by simp [valF]
    simp only [prR]
    rw [hv, hF, refRaw_esc]
theorem opR0_back {o : Op} (h : OpOk o) : opR0 (opN o) = o := by
  unfold opR0
  rw [partsR_op]
  simp only
  rw [kindR_first h.kind]
  unfold opFlds
  rw [step_n setOp _ wClient o.client h.client (fun c => ⟨o.kind, c, [], [], 0, 0, 0, []⟩) (fun v => rfl) rfl]
  rw [step_s setOp _ wPath o.path (fun c => ⟨o.kind, o.client, c, [], 0, 0, 0, []⟩) (fun v => rfl) rfl]
  rw [step_s setOp _ wTo o.dest (fun c => ⟨o.kind, o.client, o.path, c, 0, 0, 0, []⟩) (fun v => rfl) rfl]
  rw [step_n setOp _ wN o.n h.n (fun c => ⟨o.kind, o.client, o.path, o.dest, c, 0, 0, []⟩) (fun v => rfl) rfl]
  rw [step_n setOp _ wM o.m h.m (fun c => ⟨o.kind, o.client, o.path, o.dest, o.n, c, 0, []⟩) (fun v => rfl) rfl]
  rw [step_n setOp _ wHandle o.handle h.handle (fun c => ⟨o.kind, o.client, o.path, o.dest, o.n, o.m, c, []⟩) (fun v => rfl) rfl]
  rw [step_s setOp ⟨o.kind, o.client, o.path, o.dest, o.n, o.m, o.handle, []⟩ wData o.data (fun c => ⟨o.kind, o.client, o.path, o.dest, o.n, o.m, o.handle, c⟩) (fun v => rfl) rfl]
  rfl
theorem rdOpR_back {o : Op} (h : OpOk o) : rdOpR (opN o) = (o, 0) := by
  unfold rdOpR
  rw [opR0_back h, if_pos ⟨by rw [partsR_op], rfl⟩]
theorem rdOpR_eq {s : Bytes} (hs : s.length ≤ 900000) : rdOpR s = rdOp s := by
  by_cases h : ∃ o, OpOk o ∧ opN o = s
  · obtain ⟨o, ho, rfl⟩ := h
    rw [rdOpR_back ho, rdOp_back ho]
  · have h1 : rdOpR s = (opZ, 11) := by unfold rdOpR; rw [if_neg (fun e => h ⟨_, opR0_ok hs, e.2⟩)]
    have h2 : rdOp s = (opZ, 11) := by unfold rdOp; rw [if_neg (fun e => h ⟨_, opOf_ok hs, e⟩)]
    rw [h1, h2]
theorem rowsA_61 (a : Ans) : ∀ p, p ∈ rowsA a → (61 : UInt8) ∉ p.1 ∧ (61 : UInt8) ∉ p.2 := by
  intro p hp
  unfold rowsA at hp
  rcases List.mem_append.1 hp with hp | hp
  · refine rows61 (fun f hf => ?_) p hp
    simp only [ansFlds, List.mem_cons, List.not_mem_nil, or_false] at hf
    rcases hf with rfl | rfl | rfl | rfl
    · exact flds2 (by decide) (by simp)
    · exact flds2 (by decide) (by simp)
    · exact flds2 (by decide) (by simp)
    · exact flds2 (by decide) (by simp)
  · rcases List.mem_append.1 hp with hp | hp
    · unfold rowsNm at hp
      split at hp
      · simp only [List.mem_singleton] at hp
        subst hp
        refine ⟨(show (61 : UInt8) ∉ wNames by decide), fun hc => ?_⟩
        rcases join_mem hc with h | ⟨x, hx, hc⟩
        · revert h; decide
        · obtain ⟨y, _, rfl⟩ := List.mem_map.1 hx
          exact esc61 y hc
      · cases hp
    · refine rows61 (fun f hf => ?_) p hp
      simp only [List.mem_singleton] at hf
      subst hf
      exact flds2 (by decide) (esc61 _)
theorem partsR_ans (a : Ans) : partsR (ansN a) = (errN a.err, (rowsA a).map prR, true) := by
  rw [ansN_rows]
  exact partsR_line (errN_32 _) (fun p hp => (rowsA_ok a p hp).1) (rowsA_61 a)
theorem rawsN_join {l : List Bytes} (h : l ≠ []) : rawsN (Lib.join (l.map escN) [44]) = l := by
  have hx : l.map escN ≠ [] := by simpa using h
  unfold rawsN
  rw [cut_join hx (fun x hx => by obtain ⟨y, _, rfl⟩ := List.mem_map.1 hx; exact esc44 y), List.map_map]
  rw [List.map_congr_left (fun x _ => show ((fun x => (refRaw x).1) ∘ escN) x = id x by simp [refRaw_esc])]
  simp
theorem errR_first {k : Int} (h : okI k) : errR (errN k) = k := by
  by_cases hk : k = 0
  · rw [hk]
    rfl
  · have he : errN k = 101 :: 114 :: 114 :: 111 :: 114 :: Lib.itoa k := by unfold errN; rw [if_pos (by simpa using hk)]
    have hb : beginsN (101 :: 114 :: 114 :: 111 :: 114 :: Lib.itoa k) wErr = (Lib.itoa k, true) := by
      unfold beginsN wErr
      rw [if_pos ⟨by simp, by simp⟩]
      simp
    unfold errR
    rw [he, hb, if_pos rfl, numR_itoa h]
theorem ansR0_back {a : Ans} (h : AnsOk a) : ansR0 (ansN a) = a := by
  unfold ansR0
  rw [partsR_ans]
  simp only
  rw [errR_first h.err]
  unfold rowsA ansFlds
  rw [List.map_append, List.map_append, List.foldl_append, List.foldl_append]
  rw [step_n setAns _ wIno a.ino h.ino (fun c => ⟨a.err, c, 0, 0, 0, [], []⟩) (fun v => rfl) rfl]
  rw [step_n setAns _ wKind a.kind h.kind (fun c => ⟨a.err, a.ino, c, 0, 0, [], []⟩) (fun v => rfl) rfl]
  rw [step_n setAns _ wN a.n h.n (fun c => ⟨a.err, a.ino, a.kind, c, 0, [], []⟩) (fun v => rfl) rfl]
  rw [step_n setAns _ wM a.m h.m (fun c => ⟨a.err, a.ino, a.kind, a.n, c, [], []⟩) (fun v => rfl) rfl]
  have hn : ((rowsNm a.names).map prR).foldl setAns (((rowsF []).map prR).foldl setAns ⟨a.err, a.ino, a.kind, a.n, a.m, [], []⟩) = ⟨a.err, a.ino, a.kind, a.n, a.m, a.names, []⟩ := by
    show ((rowsNm a.names).map prR).foldl setAns ⟨a.err, a.ino, a.kind, a.n, a.m, [], []⟩ = _
    unfold rowsNm
    by_cases hl : a.names = []
    · rw [if_neg (by simpa using hl), hl]
      rfl
    · rw [if_pos hl]
      show (⟨a.err, a.ino, a.kind, a.n, a.m, rawsN (Lib.join (a.names.map escN) [44]), []⟩ : Ans) = _
      rw [rawsN_join hl]
  rw [hn]
  rw [step_s setAns ⟨a.err, a.ino, a.kind, a.n, a.m, a.names, []⟩ wData a.data (fun c => ⟨a.err, a.ino, a.kind, a.n, a.m, a.names, c⟩) (fun v => rfl) rfl]
  rfl
theorem rdAnsR_back {a : Ans} (h : AnsOk a) : rdAnsR (ansN a) = (a, 0) := by
  unfold rdAnsR
  rw [ansR0_back h, if_pos ⟨by rw [partsR_ans], rfl⟩]
theorem rdAnsR_eq {s : Bytes} (hs : s.length ≤ 900000) : rdAnsR s = rdAns s := by
  by_cases h : ∃ o, AnsOk o ∧ ansN o = s
  · obtain ⟨o, ho, rfl⟩ := h
    rw [rdAnsR_back ho, rdAns_back ho]
  · have h1 : rdAnsR s = (ansZ, 11) := by unfold rdAnsR; rw [if_neg (fun e => h ⟨_, ansR0_ok hs, e.2⟩)]
    have h2 : rdAns s = (ansZ, 11) := by unfold rdAns; rw [if_neg (fun e => h ⟨_, ansOf_ok hs, e⟩)]
    rw [h1, h2]
theorem indexByte_app {c : UInt8} : ∀ {h : Bytes} (r : Bytes), c ∉ h → Lib.indexByte (h ++ c :: r) c = h.length
  | [], r, _ => by unfold Lib.indexByte; simp
  | x :: h, r, hc => by
    have ih := indexByte_app (c := c) (h := h) r (fun e => hc (List.mem_cons_of_mem _ e))
    have hx : (x == c) = false := by
      simp only [beq_eq_false_iff_ne, ne_eq]
      exact fun e => hc (by rw [e]; simp)
    rw [List.cons_append, Lib.indexByte, hx, if_neg (by decide), ih]
    have : ((h.length : Int) == -1) = false := by simp
    rw [this]
    simp
theorem evR_app {h r : Bytes} (hc : (58 : UInt8) ∉ h) : evR (h ++ 58 :: 32 :: r) =
    if (beginsN h wBegin).2 = true then (⟨1, numR (beginsN h wBegin).1, (rdOpR r).1, ansZ⟩, (rdOpR r).2 == 0)
    else if (beginsN h wEnd).2 = true then (⟨2, numR (beginsN h wEnd).1, opZ, (rdAnsR r).1⟩, (rdAnsR r).2 == 0) else (evZ, false) := by
  have hi := indexByte_app (32 :: r) hc
  have ha : atC (h ++ 58 :: 32 :: r) = h.length := by unfold atC; rw [hi]; simp
  unfold evR
  rw [ha, hi, if_neg (by simp), List.take_left, show h ++ 58 :: 32 :: r = (h ++ [58, 32]) ++ r by simp, show h.length + 2 = (h ++ [58, 32]).length by simp, List.drop_left]
theorem evR_line {e : Event} (h : EvOk e) (hk : e.kind = 1 ∨ e.kind = 2) : evR (evLine e) = (cleanN e, true) := by
  by_cases h1 : e.kind = 1
  · have hl : evLine e = (wBegin ++ Lib.itoa e.client) ++ 58 :: 32 :: opN e.op := by unfold evLine wBegin; rw [if_pos h1]; simp
    have hb : beginsN (wBegin ++ Lib.itoa e.client) wBegin = (Lib.itoa e.client, true) := by
      unfold beginsN
      rw [if_pos ⟨by simp, by simp⟩, List.drop_left]
    rw [hl, evR_app (by
      simp only [List.mem_append, not_or]
      exact ⟨by decide, itoa58 _⟩), hb]
    simp only [if_true]
    rw [rdOpR_back h.op, numR_itoa h.client]
    unfold cleanN
    rw [if_pos h1]
    rfl
  · have h2 : e.kind = 2 := hk.resolve_left h1
    have hl : evLine e = (wEnd ++ Lib.itoa e.client) ++ 58 :: 32 :: ansN e.ans := by unfold evLine wEnd; rw [if_neg h1]; simp
    have hb : beginsN (wEnd ++ Lib.itoa e.client) wEnd = (Lib.itoa e.client, true) := by
      unfold beginsN
      rw [if_pos ⟨by simp, by simp⟩, List.drop_left]
    have hb' : (beginsN (wEnd ++ Lib.itoa e.client) wBegin).2 = false := by
      unfold beginsN
      rw [if_neg]
      intro e'
      have h3 := congrArg (·.head?) e'.2
      simp [wEnd, wBegin] at h3
    rw [hl, evR_app (by
      simp only [List.mem_append, not_or]
      exact ⟨by decide, itoa58 _⟩), hb', hb]
    simp only [Bool.false_eq_true, if_false, if_true]
    rw [rdAnsR_back h.ans, numR_itoa h.client]
    unfold cleanN
    rw [if_neg h1]
    rfl
theorem dropLast_cons2 {α : Type} (x : α) {l : List α} (h : l ≠ []) : (x :: l).dropLast = x :: l.dropLast := by
  cases l with
  | nil => exact absurd rfl h
  | cons y r => rfl
theorem evAll_hist : ∀ {l : List Event}, (∀ e, e ∈ l → EvOk e) → evAll (cutL 10 (histN l)).dropLast = some (keepN l)
  | [], _ => rfl
  | e :: r, h => by
    have ih := evAll_hist (l := r) (fun x hx => h x (List.mem_cons_of_mem _ hx))
    have e1 : histN (e :: r) = evN e ++ histN r := by simp [histN]
    have e2 : keepN (e :: r) = (if e.kind = 1 ∨ e.kind = 2 then [cleanN e] else []) ++ keepN r := by simp [keepN]
    rw [e1, e2]
    by_cases hk : e.kind = 1 ∨ e.kind = 2
    · rw [evN_line hk, List.append_assoc, show [10] ++ histN r = 10 :: histN r from rfl, cutL_app _ (evLine_10 e), dropLast_cons2 _ (cutL_ne _ _), evAll, evR_line (h e (by simp)) hk, if_pos rfl, ih, if_pos hk]
      rfl
    · rw [evN_none hk, if_neg hk]
      simpa using ih
theorem evAll_ok : ∀ {a : List Bytes} {l : List Event}, evAll a = some l → (∀ x, x ∈ a → x.length ≤ 900000) → ∀ e, e ∈ l → EvOk e
  | [], l, h, _ => by cases h; simp
  | x :: r, l, h, hx => by
    rw [evAll] at h
    split at h
    · obtain ⟨l', h1, rfl⟩ := Option.map_eq_some_iff.1 h
      have ih := evAll_ok h1 (fun y hy => hx y (List.mem_cons_of_mem _ hy))
      intro e he
      rcases List.mem_cons.1 he with rfl | he
      · exact evR_ok (hx x (by simp))
      · exact ih e he
    · cases h
theorem rdHistR_eq {s : Bytes} (hs : s.length ≤ 900000) : rdHistR s = rdHist s := by
  by_cases h : ∃ l, (∀ e, e ∈ l → EvOk e) ∧ histN l = s
  · obtain ⟨l, hl, rfl⟩ := h
    rw [rdHist_back hl]
    unfold rdHistR
    rw [evAll_hist hl]
    simp only [hEnd, List.nil_append]
    rw [if_pos (histN_keep l)]
  · have h2 : rdHist s = ([], 11) := by
      unfold rdHist
      split
      · rfl
      · rename_i l hl
        rw [if_neg (fun e => h ⟨l, evGo_ok hl (fun x hx => Nat.le_trans (cutL_mem 10 s x hx) hs), e⟩)]
    have h1 : rdHistR s = ([], 11) := by
      unfold rdHistR
      cases hl : evAll (cutL 10 s).dropLast with
      | none => rfl
      | some l =>
        simp only [hEnd, List.nil_append]
        rw [if_neg (fun e => h ⟨l, evAll_ok hl (fun x hx => Nat.le_trans (cutL_mem 10 s x (List.dropLast_subset _ hx)) hs), e⟩)]
    rw [h1, h2]
end Go.Proofs.YtannopdcbocngaaGreatDoor
namespace Go.Proofs.YtannopdcbocngaaGreatDoor
open Go Go.Abs
attribute [local irreducible] exK opsK opK gK forkK kr acall callOp owhen obind
theorem c4 (s : Bytes) : acall tabS 4 [.str s] [] = some (.bool true, []) := by
  refine acall_ex rfl rfl rfl ?_
  have hmin : (if 2000 < ((s.length : Nat) : Int) then 2000 else ((s.length : Nat) : Int)) = ((min s.length 2000 : Nat) : Int) := by split <;> omega
  have hc : (((min s.length 2000 : Nat) : Int) ≤ ((s.length : Nat) : Int) ∧ ((0 : Nat) : Int) ≤ ((min s.length 2000 : Nat) : Int)) = True := by
    simp only [eq_iff_iff, iff_true]; omega
  obtain ⟨t, ht⟩ : ∃ t, s.take (min s.length 2000) = t := ⟨_, rfl⟩
  have htl : t.length ≤ 2000 := by rw [← ht]; simp; omega
  have hcl := cutL_len 10 t
  have h24 := kS24 t (by omega)
  have h26 := kS26 t (by omega)
  have h28 := kS28 t (by omega) (by omega)
  have h25 := k25 t (by omega)
  have h27 := k27 t (by omega)
  have h29 := k29 t (by omega) (by omega)
  rw [rdOpR_eq (by omega)] at h25
  rw [rdAnsR_eq (by omega)] at h27
  rw [rdHistR_eq (by omega)] at h29
  have o2 := rdAns_ok (s := t) (by omega)
  have h30 := kS30 (rdOp t).1 (rdOp t).1
  have h31 := kS31 (rdAns t).1 (rdAns t).1 (by have := o2.names; omega)
  have hok := rdHist_ok (t := t) (by omega)
  have h32 := k32 (rdHist t).1 (rdHist t).1 hok hok (by have := rdHist_len t; omega)
  rw [(sameOpB_iff _ _).2 rfl] at h30
  rw [(sameAnsB_iff _ _).2 rfl] at h31
  rw [sameEvs_self] at h32
  simp only [eOp, eOpC, eAns, eAnsC] at h24 h25 h26 h27 h30 h31
  have q1 : ((rdOp t).2 == (rdOp t).2) = true := by simp
  have q2 : ((rdAns t).2 == (rdAns t).2) = true := by simp
  have q3 : ((rdHist t).2 == (rdHist t).2) = true := by simp
  simp only [fn4, E4, kS10, hmin, hc, natI, ht, h24, h25, h26, h27, h28, h29, EVT, EVD, ↓reduceIte, Nat.reduceEqDiff, reduceCtorEq, Nat.reduceAdd, Nat.reduceLeDiff, ne_eq, Nat.reduceLT, Int.reduceLT, Int.reduceLE, Int.reduceNeg]
  simp (config := { maxSteps := 1000000 }) only [E4, h30, h31, h32, q1, q2, q3, EVT, EVD, ↓reduceIte, Nat.reduceEqDiff, reduceCtorEq, Nat.reduceAdd, Nat.reduceLeDiff, ne_eq, Nat.reduceLT, Int.reduceLT, Int.reduceLE, Int.reduceNeg]
end Go.Proofs.YtannopdcbocngaaGreatDoor
namespace Go.Proofs.YtannopdcbocngaaGreatDoor
open Go Go.Abs Go.ChangeShapes Go.WideShapes Go.ChangeAt Go.RowKit Go.Lib
theorem reportReads_witness (os : Os) {H : Type} (enc : TypeId × Value → H) :
    (OpenSpec.ofChange Rows.reportReadsSpec).preRow enc Tryz.prog Tryz.f4 Rows.reportReadsRow.domain false Rows.reportReadsRow.laid ((laidWorld os).forCall (fun _ _ => 0) ⟨#[], #[.string ⟨#[]⟩], []⟩).memory #[.string ⟨#[]⟩] := by
  have hw : (DataW.whole enc Tryz.prog ((laidWorld os).forCall (fun _ _ => 0) ⟨#[], #[.string ⟨#[]⟩], []⟩).memory Tryz.f4.params.toList (OpenSpec.ofChange Rows.reportReadsSpec).vars false (#[.string ⟨#[]⟩] : Array Value).toList 8).map (fun x => (x.1, x.2.1)) =
      some ([.lit (.string [])], []) := by kernel_rfl
  obtain ⟨⟨x1, x2, x3⟩, hx, hx1⟩ := Option.map_eq_some_iff.1 hw
  simp only [Prod.mk.injEq] at hx1
  obtain ⟨rfl, rfl⟩ := hx1
  exact OpenSpec.preRow_of_cond 8 hx (by kernel_rfl) (fun k hk => by cases hk) (by kernel_rfl) (laid_met os _)
theorem reportReads_law : ∀ (x0 : Bytes), acall tabS 4 [.str x0] [] = some (.bool true, []) := fun x0 => c4 x0
set_option maxRecDepth 100000 in
set_option maxHeartbeats 2000000 in
theorem reportReads_lifted (os : Os) (started : os.Started) (H : Type) (enc : TypeId × Value → H) (F : Stop.Interp) :
    ReturnsInHanded {} Tryz.checked os 4 .any ((OpenSpec.ofChange Rows.reportReadsSpec).preRow enc Tryz.prog Tryz.f4 Rows.reportReadsRow.domain false Rows.reportReadsRow.laid)
      (((OpenSpec.ofChange Rows.reportReadsSpec).at F).post enc Tryz.prog Tryz.f4 false Rows.reportReadsRow.fresh Rows.reportReadsRow.handsOn Rows.reportReadsRow.again) := by
  refine returnsInHanded_of_row (C := Tryz.checked) (s := OpenSpec.ofChange Rows.reportReadsSpec) ownK started (by kernel_rfl) Tryz.func4
    (witness_row_atRef (enc := enc) (C := Tryz.checked) false (laidWorld os) #[.string ⟨#[]⟩] rfl (by kernel_rfl) (by kernel_rfl) (by kernel_rfl) (reportReads_witness os enc)) ?_
  intro W base args ds gs before hval0 hW _ _ _ hL hsh _
  have hval : ∀ (j : Nat) t v, Tryz.f4.params[j]? = some t → args[j]? = some v → Value.okWide Tryz.prog W .any base t v := hval0
  have hW' := hW
  have hlt0 := hW.lt
  obtain ⟨p, q, hA0, hV0, rfl, _, _⟩ := hW
  have hA : DataW.TrodAll enc Tryz.prog W 0 (fun _ => true) true Tryz.f4.params.toList args.toList ds p := hA0
  have hpar : Tryz.f4.params = #[9] := rfl
  have u4 : Tryz.prog.underlying 4 = some .bool := by kernel_rfl
  have hA1 := hA
  rw [hpar] at hA hval
  obtain ⟨v0, vs1, d0, ds1, p0, q0, hvs0, rfl, rfl, h0, hA⟩ := trodAll_cons hA
  obtain ⟨rfl, rfl, rfl⟩ := trodAll_nil hA
  obtain rfl := two_of hvs0
  obtain ⟨rfl, rfl⟩ := trodVars_none hV0
  obtain ⟨m0, r0⟩ := str_val h0 (hval 0 9 _ rfl rfl)
  have hlt : ∀ x ∈ (p0 ++ ([]) : List MemPlace), x.block < W.heap.size := fun x hx => hlt0 x (by simpa using hx)
  refine (true_calls soundS (reportReads_law m0 ) W (globL hL hsh) _ rfl ?_).mono ?_
  · intro i c v hc hv
    match i with
    | 0 => cases hc; cases hv; exact r0
    | i + 1 => cases hc
  · rintro e W' ⟨rfl, hb⟩
    exact ⟨_, rfl, ⟨_, _, _, [], _, [], hW', trodAll_mk1 (shut_bool u4 true), trodAll_stays hb hA1 (by rw [hpar]; intro t ht; simp at ht; rcases ht with rfl <;> exact ⟨by kernel_rfl, of_decide_eq_true (by kernel_rfl)⟩) hlt, rfl, hb.frame _, fun h => by cases h⟩⟩
theorem reportReads_row : Rows.ReportReadsSaid :=
  OpenClaim.holds_of_cond 4 Tryz.f4 rfl rfl rfl rfl rfl rfl rfl ⟨rfl, rfl, rfl, rfl, rfl⟩ rfl rfl rfl rfl rfl (by kernel_rfl) Tryz.func4 (by kernel_rfl)
    (of_decide_eq_true (by kernel_rfl)) (by unfold Func.isWrapper; rw [if_neg (of_decide_eq_false (by kernel_rfl))]; exact ⟨rfl, rfl⟩)
    (fun os started H enc _ F0 => by rw [OpenClaim.pre_eq_preRow]; exact reportReads_lifted os started H enc F0)
theorem reportReads_card : Rows.ReportReadsCardSaid :=
  Claim7.holds_tied_plain_at .later [] [.data, .data, .data, .data, .sentinel, .sentinel, .data, .pinned] true (true, "6ab42aecae4c7621001a14ab3450ecf26b822058164905cd807fd0cc9b42dd19") true
    reportReads_row (fun _ h => by cases h) (by kernel_rfl) (fun _ h => by cases h) reportReads_row_tie rfl ⟨rfl, rfl⟩ (by kernel_rfl) rfl
    (fun f fn hf hfn => by
      obtain rfl : f = 4 := Option.some.inj ((show Tryz.prog.funcNamed Tryz.f4.name = some 4 by kernel_rfl).symm.trans hf) |>.symm
      obtain rfl : fn = Tryz.f4 := (Option.some.inj (Tryz.func4.symm.trans hfn)).symm
      exact ⟨by kernel_rfl, fun j t ht => by
        have hw : ∀ t, t ∈ Tryz.f4.params.toList → Tryz.prog.wantsStandIn t = false := by
          rw [show Tryz.f4.params.toList = [9] from rfl]
          intro t ht
          simp at ht
          rcases ht with rfl <;> kernel_rfl
        exact hw t (by simpa using Array.mem_of_getElem? ht)⟩)
    (by kernel_rfl)
end Go.Proofs.YtannopdcbocngaaGreatDoor
