/-
  ReportOwnCardSaid: proved of the given program, for every input that the row allows: see the last text of this claim. Conditions: none beside the row's own.
-/
import Derived.Test.YtannopdcbocngaaGreatDoorTie
import Derived.Test.YtannopdcbocngaaGreatDoorBaE
set_option linter.unusedSimpArgs false
set_option linter.unusedVariables false
set_option linter.unusedSectionVars false
namespace Go.Proofs.YtannopdcbocngaaGreatDoor
open Go Go.Abs Go.ChangeShapes Go.WideShapes Go.ChangeAt Go.RowKit Go.Lib
open Go.ChangeMaps (open_string shut_string)
theorem own_witness (os : Os) {H : Type} (enc : TypeId × Value → H) :
    (OpenSpec.ofChange Rows.reportOwnSpec).preRow enc Tryz.prog Tryz.f6 Rows.reportOwnRow.domain false Rows.reportOwnRow.laid ((laidWorld os).forCall (fun _ _ => 0) ⟨#[], #[.string ⟨#[]⟩], []⟩).memory #[.string ⟨#[]⟩] := by
  have hw : (DataW.whole enc Tryz.prog ((laidWorld os).forCall (fun _ _ => 0) ⟨#[], #[.string ⟨#[]⟩], []⟩).memory Tryz.f6.params.toList (OpenSpec.ofChange Rows.reportOwnSpec).vars false #[Value.string ⟨#[]⟩].toList 8).map (fun x => (x.1, x.2.1)) =
      some ([.lit (.string [])], []) := by kernel_rfl
  obtain ⟨⟨x1, x2, x3⟩, hx, hx1⟩ := Option.map_eq_some_iff.1 hw
  simp only [Prod.mk.injEq] at hx1
  obtain ⟨rfl, rfl⟩ := hx1
  exact OpenSpec.preRow_of_cond 8 hx (by kernel_rfl) (fun k hk => by cases hk) (by kernel_rfl) (laid_met os _)
set_option maxRecDepth 100000 in
set_option maxHeartbeats 2000000 in
theorem reportOwn_lifted (os : Os) (started : os.Started) (H : Type) (enc : TypeId × Value → H) (F : Stop.Interp) :
    ReturnsInHanded {} Tryz.checked os 6 .any ((OpenSpec.ofChange Rows.reportOwnSpec).preRow enc Tryz.prog Tryz.f6 Rows.reportOwnRow.domain false Rows.reportOwnRow.laid)
      (((OpenSpec.ofChange Rows.reportOwnSpec).at F).post enc Tryz.prog Tryz.f6 false Rows.reportOwnRow.fresh Rows.reportOwnRow.handsOn Rows.reportOwnRow.again) := by
  refine returnsInHanded_of_row (C := Tryz.checked) (s := OpenSpec.ofChange Rows.reportOwnSpec) ownK started (by kernel_rfl) Tryz.func6
    (witness_row_atRef (enc := enc) (C := Tryz.checked) false (laidWorld os) #[.string ⟨#[]⟩] rfl (by kernel_rfl) (by kernel_rfl) (by kernel_rfl) (own_witness os enc)) ?_
  intro W base args ds gs before hval0 hW _ _ _ hL hsh _
  have hval : ∀ (j : Nat) t v, Tryz.f6.params[j]? = some t → args[j]? = some v → Value.okWide Tryz.prog W .any base t v := hval0
  have hW' := hW
  obtain ⟨p, q, hA0, hV0, rfl, _, _⟩ := hW
  have hA : DataW.TrodAll enc Tryz.prog W 0 (fun _ => true) true Tryz.f6.params.toList args.toList ds p := hA0
  have params6 : Tryz.f6.params = #[9] := rfl
  have u9 : Tryz.prog.underlying 9 = some .string := by kernel_rfl
  have u4 : Tryz.prog.underlying 4 = some .bool := by kernel_rfl
  rw [params6] at hA hval
  obtain ⟨v0, d0, rfl, rfl, h0⟩ := trodAll_one hA
  obtain ⟨rfl, rfl⟩ := trodVars_none hV0
  obtain ⟨s, rfl, rfl, rfl, ws⟩ := open_string u9 (hval 0 9 v0 rfl rfl) h0
  clear hA0 hV0 hval0
  refine ((soundS 6 _ [] _ (c6 s.data.toList)).2 jX0 W _ (rel0 W) (globL hL hsh) rfl ?_).mono ?_
  · intro i c v hc hv
    match i with
    | 0 =>
      cases hc; cases hv
      have : Go.Abs.bs s.data.toList = s := by apply ByteArray.ext; simp [Go.Abs.bs]
      have h := RepP.str (w := W) (saf := Saf jX0 [] W) s.data.toList
      rw [this] at h
      exact .plain h
    | i + 1 => cases hc
  · rintro e W' ⟨v, j', rfl, _, hx, hr⟩
    obtain rfl := hr.bool_inv
    have bel : Below W.heap.size W W' := ⟨hx.os, hx.tape, hx.output, hx.size, fun k hk => (hx.old k hk fun i hi => by simp at hi).1⟩
    have e1 : ((OpenSpec.ofChange Rows.reportOwnSpec).at F).fn H ([.lit (.string s.data.toList)] ++ []) = { results := [.lit (.bool true)], args := [.lit (.string s.data.toList)] } := rfl
    refine ⟨_, rfl, _, _, _, [], [], [], hW', ?_, ?_, ?_, bel.frame _, fun h => by cases h⟩
    · rw [e1]; exact trodAll_mk1 (shut_bool u4 _)
    · rw [e1]; exact trodAll_mk1 (shut_string u9 ws)
    · rw [e1]; rfl
theorem reportOwn_row : Rows.ReportOwnSaid :=
  OpenClaim.holds_of_cond 6 Tryz.f6 rfl rfl rfl rfl rfl rfl rfl ⟨rfl, rfl, rfl, rfl, rfl⟩ rfl rfl rfl rfl rfl (by kernel_rfl) Tryz.func6 (by kernel_rfl)
    (of_decide_eq_true (by kernel_rfl)) (by unfold Func.isWrapper; rw [if_neg (of_decide_eq_false (by kernel_rfl))]; exact ⟨rfl, rfl⟩)
    (fun os started H enc _ F0 => by rw [OpenClaim.pre_eq_preRow]; exact reportOwn_lifted os started H enc F0)
end Go.Proofs.YtannopdcbocngaaGreatDoor
namespace Go.Proofs.YtannopdcbocngaaGreatDoor
open Go Go.Abs
theorem reportOwn_card : Rows.ReportOwnCardSaid :=
  Claim7.holds_tied_plain_at .later [] [.data, .data, .data, .data, .sentinel, .sentinel, .data, .pinned] true (true, "6ab42aecae4c7621001a14ab3450ecf26b822058164905cd807fd0cc9b42dd19") true
    reportOwn_row (fun _ h => by cases h) (by kernel_rfl) (fun _ h => by cases h) reportOwn_row_tie rfl ⟨rfl, rfl⟩ (by kernel_rfl) rfl
    (fun f fn hf hfn => by
      obtain rfl : f = 6 := Option.some.inj ((show Tryz.prog.funcNamed Tryz.f6.name = some 6 by kernel_rfl).symm.trans hf) |>.symm
      obtain rfl : fn = Tryz.f6 := (Option.some.inj (Tryz.func6.symm.trans hfn)).symm
      exact ⟨by kernel_rfl, fun j t ht => by
        rw [show Tryz.f6.params = #[9] from rfl] at ht
        have h3 : t = 9 := by
          rcases j with _ | j
          · simpa using ht.symm
          · simp at ht
        subst h3
        exact (show Tryz.prog.wantsStandIn 9 = false by kernel_rfl)⟩)
    (by kernel_rfl)
end Go.Proofs.YtannopdcbocngaaGreatDoor
