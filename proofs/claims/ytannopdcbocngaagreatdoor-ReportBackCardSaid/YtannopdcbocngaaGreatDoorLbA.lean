/-
  ReportBackCardSaid: proved of the given program, for every input that the row allows: see the last text of this claim. Conditions: none beside the row's own.
-/
import Derived.Test.YtannopdcbocngaaGreatDoorTie
import Derived.Test.YtannopdcbocngaaGreatDoorBaE
set_option linter.unusedSimpArgs false
set_option linter.unusedVariables false
set_option linter.unusedSectionVars false
namespace Go.Proofs.YtannopdcbocngaaGreatDoor
open Go Go.Abs Go.ChangeShapes Go.WideShapes Go.RowKit Go.Deep
structure OpI (o : Op) : Prop where
  kind : okI o.kind
  client : okI o.client
  n : okI o.n
  m : okI o.m
  handle : okI o.handle
structure AnsI (a : Ans) : Prop where
  err : okI a.err
  ino : okI a.ino
  kind : okI a.kind
  n : okI a.n
  m : okI a.m
structure EvI (e : Event) : Prop where
  kind : okI e.kind
  client : okI e.client
  op : OpI e.op
  ans : AnsI e.ans
theorem u_int : Tryz.prog.underlying 3 = some (.int .i64) := by kernel_rfl
theorem u_errno : Tryz.prog.underlying 25 = some (.int .i64) := by kernel_rfl
theorem u_str : Tryz.prog.underlying 9 = some .string := by kernel_rfl
theorem u_u8 : Tryz.prog.underlying 5 = some (.int .u8) := by kernel_rfl
theorem u_bytes : Tryz.prog.underlying 22 = some (.slice 5) := by kernel_rfl
theorem u_strs : Tryz.prog.underlying 26 = some (.slice 9) := by kernel_rfl
theorem u_evs : Tryz.prog.underlying 29 = some (.slice 57) := by kernel_rfl
theorem c_one : Tryz.prog.cellsOf 3 = 1 ∧ Tryz.prog.cellsOf 25 = 1 ∧ Tryz.prog.cellsOf 9 = 1 ∧ Tryz.prog.cellsOf 5 = 1 ∧ Tryz.prog.cellsOf 22 = 1 ∧ Tryz.prog.cellsOf 26 = 1 ∧ Tryz.prog.cellsOf 24 = 8 ∧ Tryz.prog.cellsOf 28 = 7 ∧ Tryz.prog.cellsOf 57 = 17 := ⟨by kernel_rfl, by kernel_rfl, by kernel_rfl, by kernel_rfl, by kernel_rfl, by kernel_rfl, by kernel_rfl, by kernel_rfl, by kernel_rfl⟩
section
variable {H : Type} {enc : TypeId × Value → H}
set_option maxRecDepth 100000 in
theorem op_rep {w : World} {fuel : Nat} {cs : List Value} {x : DataW H × List MemPlace} (h : DataW.trod enc Tryz.prog w 0 (fun _ => true) true fuel 24 cs = some x) : ∃ o : Op, OpI o ∧ CellsRep w (eOpC .sh o) cs := by
  obtain ⟨xs, n, _, _, hl, hxl, hf⟩ := DataW.trod_struct Tryz.underlying24 h
  have h0 : cs.length = 8 := by rw [hl]; kernel_rfl
  match cs, h0 with
  | [v0, v1, v2, v3, v4, v5, v6, v7], _ =>
    match xs, hxl with
    | [y0, y1, y2, y3, y4, y5, y6, y7], _ =>
      have e0 : DataW.trod enc Tryz.prog w 0 (fun _ => true) true n 3 ((List.drop 0 [v0, v1, v2, v3, v4, v5, v6, v7]).take (Tryz.prog.cellsOf 3)) = some y0 := hf 0 _ rfl
      rw [c_one.1] at e0
      have e1 : DataW.trod enc Tryz.prog w 0 (fun _ => true) true n 3 ((List.drop 1 [v0, v1, v2, v3, v4, v5, v6, v7]).take (Tryz.prog.cellsOf 3)) = some y1 := hf 1 _ rfl
      rw [c_one.1] at e1
      have e2 : DataW.trod enc Tryz.prog w 0 (fun _ => true) true n 9 ((List.drop 2 [v0, v1, v2, v3, v4, v5, v6, v7]).take (Tryz.prog.cellsOf 9)) = some y2 := hf 2 _ rfl
      rw [c_one.2.2.1] at e2
      have e3 : DataW.trod enc Tryz.prog w 0 (fun _ => true) true n 9 ((List.drop 3 [v0, v1, v2, v3, v4, v5, v6, v7]).take (Tryz.prog.cellsOf 9)) = some y3 := hf 3 _ rfl
      rw [c_one.2.2.1] at e3
      have e4 : DataW.trod enc Tryz.prog w 0 (fun _ => true) true n 3 ((List.drop 4 [v0, v1, v2, v3, v4, v5, v6, v7]).take (Tryz.prog.cellsOf 3)) = some y4 := hf 4 _ rfl
      rw [c_one.1] at e4
      have e5 : DataW.trod enc Tryz.prog w 0 (fun _ => true) true n 3 ((List.drop 5 [v0, v1, v2, v3, v4, v5, v6, v7]).take (Tryz.prog.cellsOf 3)) = some y5 := hf 5 _ rfl
      rw [c_one.1] at e5
      have e6 : DataW.trod enc Tryz.prog w 0 (fun _ => true) true n 3 ((List.drop 6 [v0, v1, v2, v3, v4, v5, v6, v7]).take (Tryz.prog.cellsOf 3)) = some y6 := hf 6 _ rfl
      rw [c_one.1] at e6
      have e7 : DataW.trod enc Tryz.prog w 0 (fun _ => true) true n 22 ((List.drop 7 [v0, v1, v2, v3, v4, v5, v6, v7]).take (Tryz.prog.cellsOf 22)) = some y7 := hf 7 _ rfl
      rw [c_one.2.2.2.2.1] at e7
      obtain ⟨a0, i0, r0⟩ := int_rep (v := v0) u_int e0
      obtain ⟨a1, i1, r1⟩ := int_rep (v := v1) u_int e1
      obtain ⟨a2, r2⟩ := str_rep (v := v2) u_str e2
      obtain ⟨a3, r3⟩ := str_rep (v := v3) u_str e3
      obtain ⟨a4, i4, r4⟩ := int_rep (v := v4) u_int e4
      obtain ⟨a5, i5, r5⟩ := int_rep (v := v5) u_int e5
      obtain ⟨a6, i6, r6⟩ := int_rep (v := v6) u_int e6
      obtain ⟨a7, r7⟩ := bytes_rep (v := v7) u_bytes u_u8 c_one.2.2.2.1 e7
      exact ⟨⟨a0, a1, a2, a3, a4, a5, a6, a7⟩, ⟨i0, i1, i4, i5, i6⟩, (CellsRep.app (.one r0) (CellsRep.app (.one r1) (CellsRep.app (.one r2) (CellsRep.app (.one r3) (CellsRep.app (.one r4) (CellsRep.app (.one r5) (CellsRep.app (.one r6) (.one r7))))))))⟩
set_option maxRecDepth 100000 in
theorem ans_rep {w : World} {fuel : Nat} {cs : List Value} {x : DataW H × List MemPlace} (h : DataW.trod enc Tryz.prog w 0 (fun _ => true) true fuel 28 cs = some x) : ∃ o : Ans, AnsI o ∧ CellsRep w (eAnsC .sh .sh o) cs := by
  obtain ⟨xs, n, _, _, hl, hxl, hf⟩ := DataW.trod_struct Tryz.underlying28 h
  have h0 : cs.length = 7 := by rw [hl]; kernel_rfl
  match cs, h0 with
  | [v0, v1, v2, v3, v4, v5, v6], _ =>
    match xs, hxl with
    | [y0, y1, y2, y3, y4, y5, y6], _ =>
      have e0 : DataW.trod enc Tryz.prog w 0 (fun _ => true) true n 25 ((List.drop 0 [v0, v1, v2, v3, v4, v5, v6]).take (Tryz.prog.cellsOf 25)) = some y0 := hf 0 _ rfl
      rw [c_one.2.1] at e0
      have e1 : DataW.trod enc Tryz.prog w 0 (fun _ => true) true n 3 ((List.drop 1 [v0, v1, v2, v3, v4, v5, v6]).take (Tryz.prog.cellsOf 3)) = some y1 := hf 1 _ rfl
      rw [c_one.1] at e1
      have e2 : DataW.trod enc Tryz.prog w 0 (fun _ => true) true n 3 ((List.drop 2 [v0, v1, v2, v3, v4, v5, v6]).take (Tryz.prog.cellsOf 3)) = some y2 := hf 2 _ rfl
      rw [c_one.1] at e2
      have e3 : DataW.trod enc Tryz.prog w 0 (fun _ => true) true n 3 ((List.drop 3 [v0, v1, v2, v3, v4, v5, v6]).take (Tryz.prog.cellsOf 3)) = some y3 := hf 3 _ rfl
      rw [c_one.1] at e3
      have e4 : DataW.trod enc Tryz.prog w 0 (fun _ => true) true n 3 ((List.drop 4 [v0, v1, v2, v3, v4, v5, v6]).take (Tryz.prog.cellsOf 3)) = some y4 := hf 4 _ rfl
      rw [c_one.1] at e4
      have e5 : DataW.trod enc Tryz.prog w 0 (fun _ => true) true n 26 ((List.drop 5 [v0, v1, v2, v3, v4, v5, v6]).take (Tryz.prog.cellsOf 26)) = some y5 := hf 5 _ rfl
      rw [c_one.2.2.2.2.2.1] at e5
      have e6 : DataW.trod enc Tryz.prog w 0 (fun _ => true) true n 22 ((List.drop 6 [v0, v1, v2, v3, v4, v5, v6]).take (Tryz.prog.cellsOf 22)) = some y6 := hf 6 _ rfl
      rw [c_one.2.2.2.2.1] at e6
      obtain ⟨a0, i0, r0⟩ := int_rep (v := v0) u_errno e0
      obtain ⟨a1, i1, r1⟩ := int_rep (v := v1) u_int e1
      obtain ⟨a2, i2, r2⟩ := int_rep (v := v2) u_int e2
      obtain ⟨a3, i3, r3⟩ := int_rep (v := v3) u_int e3
      obtain ⟨a4, i4, r4⟩ := int_rep (v := v4) u_int e4
      obtain ⟨a5, r5⟩ := strs_rep (v := v5) u_strs u_str c_one.2.2.1 e5
      obtain ⟨a6, r6⟩ := bytes_rep (v := v6) u_bytes u_u8 c_one.2.2.2.1 e6
      exact ⟨⟨a0, a1, a2, a3, a4, a5, a6⟩, ⟨i0, i1, i2, i3, i4⟩, (CellsRep.app (.one r0) (CellsRep.app (.one r1) (CellsRep.app (.one r2) (CellsRep.app (.one r3) (CellsRep.app (.one r4) (CellsRep.app (.one r5) (.one r6)))))))⟩
set_option maxRecDepth 100000 in
theorem ev_rep {w : World} {fuel : Nat} {cs : List Value} {x : DataW H × List MemPlace} (h : DataW.trod enc Tryz.prog w 0 (fun _ => true) true fuel 57 cs = some x) : ∃ o : Event, EvI o ∧ CellsRep w (eEvC o) cs := by
  obtain ⟨xs, n, _, _, hl, hxl, hf⟩ := DataW.trod_struct Tryz.underlying57 h
  have h0 : cs.length = 17 := by rw [hl]; kernel_rfl
  match cs, h0 with
  | [v0, v1, v2, v3, v4, v5, v6, v7, v8, v9, v10, v11, v12, v13, v14, v15, v16], _ =>
    match xs, hxl with
    | [y0, y1, y2, y3], _ =>
      have e0 : DataW.trod enc Tryz.prog w 0 (fun _ => true) true n 3 ((List.drop 0 [v0, v1, v2, v3, v4, v5, v6, v7, v8, v9, v10, v11, v12, v13, v14, v15, v16]).take (Tryz.prog.cellsOf 3)) = some y0 := hf 0 _ rfl
      rw [c_one.1] at e0
      have e1 : DataW.trod enc Tryz.prog w 0 (fun _ => true) true n 3 ((List.drop 1 [v0, v1, v2, v3, v4, v5, v6, v7, v8, v9, v10, v11, v12, v13, v14, v15, v16]).take (Tryz.prog.cellsOf 3)) = some y1 := hf 1 _ rfl
      rw [c_one.1] at e1
      have e2 : DataW.trod enc Tryz.prog w 0 (fun _ => true) true n 24 ((List.drop 2 [v0, v1, v2, v3, v4, v5, v6, v7, v8, v9, v10, v11, v12, v13, v14, v15, v16]).take (Tryz.prog.cellsOf 24)) = some y2 := hf 2 _ rfl
      rw [c_one.2.2.2.2.2.2.1] at e2
      have e3 : DataW.trod enc Tryz.prog w 0 (fun _ => true) true n 28 ((List.drop 10 [v0, v1, v2, v3, v4, v5, v6, v7, v8, v9, v10, v11, v12, v13, v14, v15, v16]).take (Tryz.prog.cellsOf 28)) = some y3 := hf 3 _ rfl
      rw [c_one.2.2.2.2.2.2.2.1] at e3
      obtain ⟨a0, i0, r0⟩ := int_rep (v := v0) u_int e0
      obtain ⟨a1, i1, r1⟩ := int_rep (v := v1) u_int e1
      obtain ⟨a2, i2, r2⟩ := op_rep e2
      obtain ⟨a3, i3, r3⟩ := ans_rep e3
      exact ⟨⟨a0, a1, a2, a3⟩, ⟨i0, i1, i2, i3⟩, (CellsRep.app (.one r0) (CellsRep.app (.one r1) (CellsRep.app r2 r3)))⟩
set_option maxRecDepth 100000 in
theorem op_val {w : World} {r : Reach} {b : Nat} {v : Value} {d : DataW H} {ps : List MemPlace} (h : DataW.Trod enc Tryz.prog w 0 (fun _ => true) true 24 v d ps) (hv : Value.okWide Tryz.prog w r b 24 v) : ∃ o : Op, OpI o ∧ Rep jX0 [] w (eOp .sh o) v := by
  obtain ⟨cs, rfl, o, ho, hr⟩ := whole_rep Tryz.underlying24 h hv (fun n cs y hy => op_rep hy)
  exact ⟨o, ho, agg_rep hr⟩
set_option maxRecDepth 100000 in
theorem ans_val {w : World} {r : Reach} {b : Nat} {v : Value} {d : DataW H} {ps : List MemPlace} (h : DataW.Trod enc Tryz.prog w 0 (fun _ => true) true 28 v d ps) (hv : Value.okWide Tryz.prog w r b 28 v) : ∃ o : Ans, AnsI o ∧ Rep jX0 [] w (eAns .sh .sh o) v := by
  obtain ⟨cs, rfl, o, ho, hr⟩ := whole_rep Tryz.underlying28 h hv (fun n cs y hy => ans_rep hy)
  exact ⟨o, ho, agg_rep hr⟩
set_option maxRecDepth 100000 in
theorem evs_val {w : World} {r : Reach} {b : Nat} {v : Value} {d : DataW H} {ps : List MemPlace} (h : DataW.Trod enc Tryz.prog w 0 (fun _ => true) true 29 v d ps) (hv : Value.okWide Tryz.prog w r b 29 v) : ∃ l : List Event, (∀ e, e ∈ l → EvI e) ∧ Rep jX0 [] w (.slice .sh (l.map eEv)) v := by
  obtain ⟨a, len, cap, rfl⟩ := okWide_slice u_evs hv
  obtain ⟨fuel, hf⟩ := h
  obtain ⟨l, h1, h2⟩ := rows_rep (eC := eEvC) (mk := eEv) (P := EvI) u_evs c_one.2.2.2.2.2.2.2.2 (by omega) (fun _ => rfl) (fun _ => rfl) (fun n cs y _ hy => ev_rep hy) hf
  exact ⟨l, h1, .plain h2⟩
set_option maxRecDepth 100000 in
theorem str_val {w : World} {r : Reach} {b : Nat} {v : Value} {d : DataW H} {ps : List MemPlace} (h : DataW.Trod enc Tryz.prog w 0 (fun _ => true) true 9 v d ps) (hv : Value.okWide Tryz.prog w r b 9 v) : ∃ s : Bytes, Rep jX0 [] w (.str s) v := by
  obtain ⟨s, rfl, _⟩ := Go.ChangeMaps.open_string u_str hv h
  have : Go.Abs.bs s.data.toList = s := by apply ByteArray.ext; simp [Go.Abs.bs]
  have h := RepP.str (w := w) (saf := SafW w) s.data.toList
  rw [this] at h
  exact ⟨_, .plain h⟩
end
theorem OpI.cut {o : Op} (h : OpI o) : OpOk (cutOpN o) ∧ (cutOpN o).path.length ≤ 300 ∧ (cutOpN o).dest.length ≤ 300 ∧ (cutOpN o).data.length ≤ 300 :=
  ⟨⟨h.kind, h.client, by simp [cutOpN]; omega, by simp [cutOpN]; omega, h.n, h.m, h.handle, by simp [cutOpN]; omega⟩, by simp [cutOpN]; omega, by simp [cutOpN]; omega, by simp [cutOpN]; omega⟩
theorem sumL_100 : ∀ l : List Bytes, sumL (l.map (List.take 100)) ≤ 100 * l.length
  | [] => by simp [sumL]
  | x :: r => by
    have := sumL_100 r
    simp only [sumL, List.map_cons, List.sum_cons, List.length_cons, List.length_take] at this ⊢
    omega
theorem AnsI.cut {a : Ans} (h : AnsI a) : AnsOk (cutAnsN a) ∧ (cutAnsN a).names.length ≤ 40 ∧ sumL (cutAnsN a).names ≤ 4000 ∧ (cutAnsN a).data.length ≤ 300 := by
  have h1 : (cutAnsN a).names.length ≤ 40 := by simp [cutAnsN]; omega
  have h2 : sumL (cutAnsN a).names ≤ 4000 := by
    have := sumL_100 (a.names.take 40)
    have h3 : (a.names.take 40).length ≤ 40 := by simp; omega
    simp only [cutAnsN]; omega
  have h3 : (cutAnsN a).data.length ≤ 300 := by simp [cutAnsN]; omega
  exact ⟨⟨h.err, h.ino, h.kind, h.n, h.m, by omega, by omega, by omega⟩, h1, h2, h3⟩
theorem opN_small {o : Op} (h : OpOk o) (g1 : o.path.length ≤ 300) (g2 : o.dest.length ≤ 300) (g3 : o.data.length ≤ 300) : (opN o).length ≤ 4000 := by
  have h0 := firstN_le h.kind
  have h1 := fldN_le' (f := ⟨wClient, o.client, []⟩) h.client
  have h2 := fldN_le' (f := ⟨wPath, 0, escN o.path⟩) okI_zero
  have h3 := fldN_le' (f := ⟨wTo, 0, escN o.dest⟩) okI_zero
  have h4 := fldN_le' (f := ⟨wN, o.n, []⟩) h.n
  have h5 := fldN_le' (f := ⟨wM, o.m, []⟩) h.m
  have h6 := fldN_le' (f := ⟨wHandle, o.handle, []⟩) h.handle
  have h7 := fldN_le' (f := ⟨wData, 0, escN o.data⟩) okI_zero
  have e1 := escN_le o.path; have e2 := escN_le o.dest; have e3 := escN_le o.data
  simp only [wClient, wPath, wTo, wN, wM, wHandle, wData, List.length_cons, List.length_nil] at h1 h2 h3 h4 h5 h6 h7
  simp only [opN, lineN, opFlds, fldsN, List.flatMap_cons, List.flatMap_nil, List.length_append, List.length_nil, wClient, wPath, wTo, wN, wM, wHandle, wData]
  omega
theorem namesN_le2 (l : List Bytes) : (namesN l).length ≤ 3 * sumL l + l.length + 10 := by
  have h1 := join_le (l.map escN)
  have h2 := sumL_esc l
  unfold namesN
  split
  · simp only [wNames, List.length_cons, List.length_append, List.length_nil, List.length_map] at h1 ⊢
    omega
  · simp
theorem ansN_small {a : Ans} (h : AnsOk a) (g1 : a.names.length ≤ 40) (g2 : sumL a.names ≤ 4000) (g3 : a.data.length ≤ 300) : (ansN a).length ≤ 20000 := by
  have h0 := ansHead_le h
  have h1 := namesN_le2 a.names
  have h2 := fldN_le' (f := ⟨wData, 0, escN a.data⟩) okI_zero
  have e1 := escN_le a.data
  simp only [wData, List.length_cons, List.length_nil] at h2
  unfold ansN
  rw [lineN]
  simp only [fldsN, List.flatMap_cons, List.flatMap_nil, List.length_append, List.length_nil, wData]
  omega
theorem kS12 (o : Op) (M : AMem) : callOp (acall tabS) 12 [eOp .sh o] M = some (eOp .sh (cutOpN o), M) := callOp0 (tab_leS (c12 o)) rfl rfl rfl rfl rfl M
theorem kS13 (a : Ans) (M : AMem) : callOp (acall tabS) 13 [eAns .sh .sh a] M = some (eAns .sh .sh (cutAnsN a), M) := callOp0 (tab_leS (c13 a)) rfl rfl rfl rfl rfl M
end Go.Proofs.YtannopdcbocngaaGreatDoor
namespace Go.Proofs.YtannopdcbocngaaGreatDoor
open Go Go.Abs
attribute [local irreducible] exK opsK opK gK forkK kr acall callOp owhen obind
theorem c5 (o : Op) (a : Ans) (ho : OpI o) (ha : AnsI a) : acall tabS 5 [eOp .sh o, eAns .sh .sh a] [] = some (.bool true, []) := by
  refine acall_ex rfl rfl rfl ?_
  have h12 := kS12 o
  have h13 := kS13 a
  have op := ho.cut
  have aq := ha.cut
  obtain ⟨p, hp⟩ : ∃ p, cutOpN o = p := ⟨_, rfl⟩
  obtain ⟨q, hq⟩ : ∃ q, cutAnsN a = q := ⟨_, rfl⟩
  rw [hp] at h12 op
  rw [hq] at h13 aq
  obtain ⟨op0, op1, op2, op3⟩ := op
  obtain ⟨aq0, aq1, aq2, aq3⟩ := aq
  have l1 := opN_small op0 op1 op2 op3
  have l2 := ansN_small aq0 aq1 aq2 aq3
  have h15 := kS15 p op0
  have h17 := kS17 q aq0
  have h24 := kS24 (opN p) (by omega)
  have h26 := kS26 (ansN q) (by omega)
  rw [rdOp_back op0] at h24
  rw [rdAns_back aq0] at h26
  have h30 := kS30 p p
  have h31 := kS31 q q (by omega)
  rw [(sameOpB_iff p p).2 rfl] at h30
  rw [(sameAnsB_iff q q).2 rfl] at h31
  simp only [eOp, eOpC, eAns, eAnsC] at h12 h13 h15 h17 h24 h26 h30 h31
  simp only [fn5, E5, eOp, eOpC, eAns, eAnsC, kS10, h12, h13, h15, h17, h24, h26, h30, h31, show ((0 : Int) == 0) = true from rfl, EVT, EVD, ↓reduceIte, Nat.reduceEqDiff, reduceCtorEq, Nat.reduceAdd, Nat.reduceLeDiff, ne_eq, Nat.reduceLT, Int.reduceLT, Int.reduceLE, Int.reduceNeg]
end Go.Proofs.YtannopdcbocngaaGreatDoor
namespace Go.Proofs.YtannopdcbocngaaGreatDoor
open Go Go.Abs Go.ChangeShapes Go.WideShapes Go.ChangeAt Go.RowKit Go.Lib
theorem reportBack_witness (os : Os) {H : Type} (enc : TypeId × Value → H) :
    (OpenSpec.ofChange Rows.reportBackSpec).preRow enc Tryz.prog Tryz.f5 Rows.reportBackRow.domain false Rows.reportBackRow.laid ((laidWorld os).forCall (fun _ _ => 0) ⟨#[], #[.agg #[.int .i64 0, .int .i64 0, .string ⟨#[]⟩, .string ⟨#[]⟩, .int .i64 0, .int .i64 0, .int .i64 0, .slice none 0 0], .agg #[.int .i64 0, .int .i64 0, .int .i64 0, .int .i64 0, .int .i64 0, .slice none 0 0, .slice none 0 0]], []⟩).memory #[.agg #[.int .i64 0, .int .i64 0, .string ⟨#[]⟩, .string ⟨#[]⟩, .int .i64 0, .int .i64 0, .int .i64 0, .slice none 0 0], .agg #[.int .i64 0, .int .i64 0, .int .i64 0, .int .i64 0, .int .i64 0, .slice none 0 0, .slice none 0 0]] := by
  have hw : (DataW.whole enc Tryz.prog ((laidWorld os).forCall (fun _ _ => 0) ⟨#[], #[.agg #[.int .i64 0, .int .i64 0, .string ⟨#[]⟩, .string ⟨#[]⟩, .int .i64 0, .int .i64 0, .int .i64 0, .slice none 0 0], .agg #[.int .i64 0, .int .i64 0, .int .i64 0, .int .i64 0, .int .i64 0, .slice none 0 0, .slice none 0 0]], []⟩).memory Tryz.f5.params.toList (OpenSpec.ofChange Rows.reportBackSpec).vars false (#[.agg #[.int .i64 0, .int .i64 0, .string ⟨#[]⟩, .string ⟨#[]⟩, .int .i64 0, .int .i64 0, .int .i64 0, .slice none 0 0], .agg #[.int .i64 0, .int .i64 0, .int .i64 0, .int .i64 0, .int .i64 0, .slice none 0 0, .slice none 0 0]] : Array Value).toList 8).map (fun x => (x.1, x.2.1)) =
      some ([.agg [.lit (.int .i64 0), .lit (.int .i64 0), .lit (.string []), .lit (.string []), .lit (.int .i64 0), .lit (.int .i64 0), .lit (.int .i64 0), .nil], .agg [.lit (.int .i64 0), .lit (.int .i64 0), .lit (.int .i64 0), .lit (.int .i64 0), .lit (.int .i64 0), .nil, .nil]], []) := by kernel_rfl
  obtain ⟨⟨x1, x2, x3⟩, hx, hx1⟩ := Option.map_eq_some_iff.1 hw
  simp only [Prod.mk.injEq] at hx1
  obtain ⟨rfl, rfl⟩ := hx1
  exact OpenSpec.preRow_of_cond 8 hx (by kernel_rfl) (fun k hk => by cases hk) (by kernel_rfl) (laid_met os _)
theorem reportBack_law : ∀ (x0 : Op) (x1 : Ans), OpI x0 → AnsI x1 → acall tabS 5 [eOp .sh x0, eAns .sh .sh x1] [] = some (.bool true, []) := fun x0 x1 => c5 x0 x1
set_option maxRecDepth 100000 in
set_option maxHeartbeats 2000000 in
theorem reportBack_lifted (os : Os) (started : os.Started) (H : Type) (enc : TypeId × Value → H) (F : Stop.Interp) :
    ReturnsInHanded {} Tryz.checked os 5 .any ((OpenSpec.ofChange Rows.reportBackSpec).preRow enc Tryz.prog Tryz.f5 Rows.reportBackRow.domain false Rows.reportBackRow.laid)
      (((OpenSpec.ofChange Rows.reportBackSpec).at F).post enc Tryz.prog Tryz.f5 false Rows.reportBackRow.fresh Rows.reportBackRow.handsOn Rows.reportBackRow.again) := by
  refine returnsInHanded_of_row (C := Tryz.checked) (s := OpenSpec.ofChange Rows.reportBackSpec) ownK started (by kernel_rfl) Tryz.func5
    (witness_row_atRef (enc := enc) (C := Tryz.checked) false (laidWorld os) #[.agg #[.int .i64 0, .int .i64 0, .string ⟨#[]⟩, .string ⟨#[]⟩, .int .i64 0, .int .i64 0, .int .i64 0, .slice none 0 0], .agg #[.int .i64 0, .int .i64 0, .int .i64 0, .int .i64 0, .int .i64 0, .slice none 0 0, .slice none 0 0]] rfl (by kernel_rfl) (by kernel_rfl) (by kernel_rfl) (reportBack_witness os enc)) ?_
  intro W base args ds gs before hval0 hW _ _ _ hL hsh _
  have hval : ∀ (j : Nat) t v, Tryz.f5.params[j]? = some t → args[j]? = some v → Value.okWide Tryz.prog W .any base t v := hval0
  have hW' := hW
  have hlt0 := hW.lt
  obtain ⟨p, q, hA0, hV0, rfl, _, _⟩ := hW
  have hA : DataW.TrodAll enc Tryz.prog W 0 (fun _ => true) true Tryz.f5.params.toList args.toList ds p := hA0
  have hpar : Tryz.f5.params = #[24, 28] := rfl
  have u4 : Tryz.prog.underlying 4 = some .bool := by kernel_rfl
  have hA1 := hA
  rw [hpar] at hA hval
  obtain ⟨v0, vs1, d0, ds1, p0, q0, hvs0, rfl, rfl, h0, hA⟩ := trodAll_cons hA
  obtain ⟨v1, vs2, d1, ds2, p1, q1, rfl, rfl, rfl, h1, hA⟩ := trodAll_cons hA
  obtain ⟨rfl, rfl, rfl⟩ := trodAll_nil hA
  obtain rfl := two_of hvs0
  obtain ⟨rfl, rfl⟩ := trodVars_none hV0
  obtain ⟨m0, l0, r0⟩ := op_val h0 (hval 0 24 _ rfl rfl)
  obtain ⟨m1, l1, r1⟩ := ans_val h1 (hval 1 28 _ rfl rfl)
  have hlt : ∀ x ∈ (p0 ++ (p1 ++ ([])) : List MemPlace), x.block < W.heap.size := fun x hx => hlt0 x (by simpa using hx)
  refine (true_calls soundS (reportBack_law m0 m1 l0 l1) W (globL hL hsh) _ rfl ?_).mono ?_
  · intro i c v hc hv
    match i with
    | 0 => cases hc; cases hv; exact r0
    | 1 => cases hc; cases hv; exact r1
    | i + 2 => cases hc
  · rintro e W' ⟨rfl, hb⟩
    exact ⟨_, rfl, ⟨_, _, _, [], _, [], hW', trodAll_mk1 (shut_bool u4 true), trodAll_stays hb hA1 (by rw [hpar]; intro t ht; simp at ht; rcases ht with rfl | rfl <;> exact ⟨by kernel_rfl, of_decide_eq_true (by kernel_rfl)⟩) hlt, rfl, hb.frame _, fun h => by cases h⟩⟩
theorem reportBack_row : Rows.ReportBackSaid :=
  OpenClaim.holds_of_cond 5 Tryz.f5 rfl rfl rfl rfl rfl rfl rfl ⟨rfl, rfl, rfl, rfl, rfl⟩ rfl rfl rfl rfl rfl (by kernel_rfl) Tryz.func5 (by kernel_rfl)
    (of_decide_eq_true (by kernel_rfl)) (by unfold Func.isWrapper; rw [if_neg (of_decide_eq_false (by kernel_rfl))]; exact ⟨rfl, rfl⟩)
    (fun os started H enc _ F0 => by rw [OpenClaim.pre_eq_preRow]; exact reportBack_lifted os started H enc F0)
theorem reportBack_card : Rows.ReportBackCardSaid :=
  Claim7.holds_tied_plain_at .later [] [.data, .data, .data, .data, .sentinel, .sentinel, .data, .pinned] true (true, "6ab42aecae4c7621001a14ab3450ecf26b822058164905cd807fd0cc9b42dd19") true
    reportBack_row (fun _ h => by cases h) (by kernel_rfl) (fun _ h => by cases h) reportBack_row_tie rfl ⟨rfl, rfl⟩ (by kernel_rfl) rfl
    (fun f fn hf hfn => by
      obtain rfl : f = 5 := Option.some.inj ((show Tryz.prog.funcNamed Tryz.f5.name = some 5 by kernel_rfl).symm.trans hf) |>.symm
      obtain rfl : fn = Tryz.f5 := (Option.some.inj (Tryz.func5.symm.trans hfn)).symm
      exact ⟨by kernel_rfl, fun j t ht => by
        have hw : ∀ t, t ∈ Tryz.f5.params.toList → Tryz.prog.wantsStandIn t = false := by
          rw [show Tryz.f5.params.toList = [24, 28] from rfl]
          intro t ht
          simp at ht
          rcases ht with rfl | rfl <;> kernel_rfl
        exact hw t (by simpa using Array.mem_of_getElem? ht)⟩)
    (by kernel_rfl)
end Go.Proofs.YtannopdcbocngaaGreatDoor
