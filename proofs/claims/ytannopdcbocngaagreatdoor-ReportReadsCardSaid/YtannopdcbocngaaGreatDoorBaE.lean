import Derived.Test.YtannopdcbocngaaGreatDoorProg
import Derived.RangeFuncBox
import Derived.RangeFuncFrom
import Derived.RangeFuncLeaves
import Derived.Shelf.Abstract
import Derived.WalkKit
import Derived.OwnWalkIn
import Derived.TacticsInMore
import Derived.LoopNIn
import Derived.LoopIn
import Derived.Maps.AppendAt
import Derived.KernelRfl
import Derived.RangeFuncNested
import Derived.Test.YtannopdcbocngaaGreatDoorRows
import Derived.Lib.LaidU8
import Derived.Shelf.Vars
import Derived.LaidLaws
import Derived.Test.YtannopdcbocngaaGreatDoorCards
import Derived.Lib.LaidIn
import Derived.Deep.DeepHandedRow
import Derived.Deep.DeepWitnessRowRef
import Derived.ProofKit
import Derived.SizedLaws
import Derived.Carry
import Derived.OpenShut
import Derived.Deep.Slices
import Derived.Deep.Fields
import Derived.ChangeOld
import Derived.Test.YtannopdcbocngaaGreatDoorBaD
set_option linter.unusedSimpArgs false
set_option linter.unusedVariables false
set_option linter.unusedSectionVars false
namespace Go.Proofs.YtannopdcbocngaaGreatDoor
open Go Go.Abs
attribute [local irreducible] exK opsK opK gK forkK kr acall callOp owhen obind
theorem loop26 (s a : Bytes) (l : List Fld) (M0 : List AVal) (hM0 : ∀ B M, M0.map (AVal.back1 B M) = M0) (v0 v1 v2 v3 v4 v6 : AVal) (hv : ∀ B M, [v0, v1, v2, v3, v4, v6].map (AVal.back1 B M) = [v0, v1, v2, v3, v4, v6]) (f : List AVal) (hf : ∀ B M, f.map (AVal.back1 B M) = f)
    (ws : List Bytes) (hl : ws.length ≤ 1000000) (hs : ∀ x, x ∈ ws → x.length ≤ 1000000) (C : CallF) (hC : C = acall tab) : ∀ (r pre : List Bytes), ws = pre ++ r → ∀ (fn : List ARes) (base : Nat) (k : List K),
    exK C fn base (.block 0 :: k) (.loop [0, 2, 8, 45, 46, 47] lb26_0) [(0, .str s), (2, .ptr 0 0), (8, .ptr 2 0), (45, .slice .sh (ws.map .str)), (46, eI ws.length), (47, eI pre.length)]
      [.cells M0, .cells [.str a, .slice .sh (l.map eFld)], .cells [v0, v1, v2, v3, v4, .slice (.own 3) ((pre.map rawN).map .str), v6], .tick 1 pre.length, .cells f] =
    kr C fn base k ⟨.normal, [(0, .str s), (2, .ptr 0 0), (8, .ptr 2 0), (45, .slice .sh (ws.map .str)), (46, eI ws.length), (47, eI ws.length), (48, .bool false)],
      [.cells M0, .cells [.str a, .slice .sh (l.map eFld)], .cells [v0, v1, v2, v3, v4, .slice (.own 3) ((ws.map rawN).map .str), v6], .tick 1 ws.length, .cells f]⟩
  | [], pre, he, fn, base, k => by
    subst hC
    have : pre = ws := by simpa using he.symm
    subst this
    rw [exK_loop]
    have hlt : decide ((pre.length : Int) < pre.length) = false := by simp
    simp only [E26, hlt, EVT, EVD, ↓reduceIte, Nat.reduceEqDiff, reduceCtorEq, Nat.reduceAdd, Nat.reduceLeDiff, ne_eq, Nat.reduceLT, Int.reduceLT, Int.reduceLE, Int.reduceNeg]
  | x :: r, pre, he, fn, base, k => by
    subst hC
    have hl' : pre.length < ws.length := by rw [he]; simp
    have hlt : decide ((pre.length : Int) < ws.length) = true := by simpa using hl'
    have hix : ws[pre.length]? = some x := by rw [he]; simp
    have hn : (0 : Int) ≤ pre.length := by omega
    have hw : IntKind.i64.wrap ((pre.length : Int) + 1) = ((pre ++ [x]).length : Int) := by rw [List.length_append, wrapS (by omega) (by omega)]; simp
    have h65 := fun M => k65 x (hs x (by rw [he]; simp)) M
    have hr := roomO (a := pre.length + 1) (b := 16) (by omega) (by omega)
    have ih := loop26 s a l M0 hM0 v0 v1 v2 v3 v4 v6 hv f hf ws hl hs (acall tab) rfl r (pre ++ [x]) (by simpa using he) fn base k
    simp only [List.length_append, List.length_cons, List.length_nil, Nat.zero_add, List.map_append, List.map_cons, List.map_nil] at ih hw
    simp only [List.map_cons, List.map_nil, List.cons.injEq, and_true] at hv
    rw [exK_loop]
    simp only [E26, hlt, hix, h65, hr, widS, hw, hM0, hf, hv, EVT, EVD, ↓reduceIte, Nat.reduceEqDiff, reduceCtorEq, Nat.reduceAdd, Nat.reduceLeDiff, ne_eq, Nat.reduceLT, Int.reduceLT, Int.reduceLE, Int.reduceNeg]
    exact ih
theorem sumL_cut (c : UInt8) : ∀ s : Bytes, sumL (cutL c s) ≤ s.length
  | [] => by simp [cutL, sumL]
  | x :: r => by
    have ih := sumL_cut c r
    unfold cutL
    split
    · simp only [sumL, List.map_cons, List.sum_cons, List.length_nil, List.length_cons] at ih ⊢; omega
    · rw [cutL_split c r] at ih
      simp only [sumL, List.map_cons, List.sum_cons, List.length_cons, List.headD_cons, List.tail_cons] at ih ⊢; omega
theorem sumL_raw : ∀ l : List Bytes, sumL (l.map rawN) ≤ sumL l
  | [] => by simp [sumL]
  | x :: r => by
    have ih := sumL_raw r
    have := rawN_le _ x (Nat.le_refl _)
    simp only [sumL, List.map_cons, List.sum_cons] at ih ⊢
    omega
def namesG (s : Bytes) : List Bytes := if (getN wNames (cutR s)).2 = true then (cutL 44 (getN wNames (cutR s)).1.s).map rawN else []
def ansOf (s : Bytes) : Ans := ⟨atoiN (trimN (cutF s) [101, 114, 114, 111, 114]), numG s wIno, numG s wKind, numG s wN, numG s wM, namesG s, txtG s wData⟩
theorem ansOf_ok {s : Bytes} (h : s.length ≤ 900000) : AnsOk (ansOf s) where
  err := atoiN_ok _
  ino := cut_field_ok _ _
  kind := cut_field_ok _ _
  n := cut_field_ok _ _
  m := cut_field_ok _ _
  names := by
    have h1 := cut_field_le s wNames
    have h2 := cutL_len 44 (getN wNames (cutR s)).1.s
    simp only [ansOf, namesG]
    split
    · simp; omega
    · simp
  sum := by
    have h1 := cut_field_le s wNames
    have h2 := sumL_cut 44 (getN wNames (cutR s)).1.s
    have h3 := sumL_raw (cutL 44 (getN wNames (cutR s)).1.s)
    simp only [ansOf, namesG]
    split
    · omega
    · simp [sumL]
  data := by have := txtG_le s wData; simp only [ansOf]; omega
def ansZ : Ans := ⟨0, 0, 0, 0, 0, [], []⟩
def rdAns (s : Bytes) : Ans × Int := if ansN (ansOf s) = s then (ansOf s, 0) else (ansZ, 11)
theorem c26 (s : Bytes) (hs : s.length ≤ 900000) : acall tab 26 [.str s] [] = some (.tuple [eAns .sh .sh (rdAns s).1, eI (rdAns s).2], []) := by
  refine acall_ex rfl rfl rfl ?_
  have h55 := fun M => k55 s hs M
  have hcf : (cutF s).length ≤ s.length := cutL_mem 32 s _ (by rw [cutL_split 32 s]; simp [cutF])
  have h59 := fun M => k59 (cutF s) [101, 114, 114, 111, 114] M
  have h58 := fun M => k58 (trimN (cutF s) [101, 114, 114, 111, 114]) (by have := trimN_le (cutF s) [101, 114, 114, 111, 114]; omega) M
  have hl := cutR_len s
  have h56 := fun w M => k56 (cutF s) w (cutR s) (by omega) M
  have h57 := fun w M => k57 (cutF s) w (cutR s) (by omega) (by have := cut_field_le s w; omega) M
  have h63 := fun M => k63 (cutF s) wNames .sh (.inl rfl) (cutR s) (by omega) M
  have hfl := cut_field_le s wNames
  have h64 := fun M => k64 (getN wNames (cutR s)).1.s [44] (by omega) (by simp) M
  rw [splitS_one] at h64
  have h17 := fun M => k17 (ansOf s) (ansOf_ok hs) .sh .sh (.inl rfl) (.inl rfl) M
  have hlp := fun M0 hM0 v0 v1 v2 v3 v4 v6 hv f hf => loop26 s (cutF s) (cutR s) M0 hM0 v0 v1 v2 v3 v4 v6 hv f hf (cutL 44 (getN wNames (cutR s)).1.s) (by have := cutL_len 44 (getN wNames (cutR s)).1.s; omega) (fun x hx => by have := cutL_mem 44 _ x hx; omega) (acall tab) rfl _ [] rfl
  have ho : eAnsC .sh .sh (ansOf s) = eAnsC .sh .sh (ansOf s) := rfl
  generalize hq : ansN (ansOf s) = q at h17
  conv at ho => rhs; simp only [eAnsC, ansOf, numG, txtG, wIno, wKind, wN, wM, wData]
  rw [eAns, ho] at h17
  have hr : some (AVal.tuple [eAns .sh .sh (rdAns s).1, eI (rdAns s).2], ([] : AMem)) = if (q != s) = false then some (.tuple [.agg (eAnsC .sh .sh (ansOf s)), eI 0], []) else some (.tuple [.agg (eAnsC .sh .sh ansZ), eI 11], []) := by
    unfold rdAns
    rw [hq]
    by_cases h : q = s <;> simp [h]
  rw [hr, ho]
  clear hr ho
  simp only [eRead, eFld, eFldC, wNames] at h55 h56 h57 h63
  simp only [fn26, E26, h55, h58, h59, h56, h57, h63, EVT, EVD, ↓reduceIte, Nat.reduceEqDiff, reduceCtorEq, Nat.reduceAdd, Nat.reduceLeDiff, ne_eq, Nat.reduceLT, Int.reduceLT, Int.reduceLE, Int.reduceNeg]
  have hn : ∀ b, (getN [110, 97, 109, 101, 115] (cutR s)).2 = b → namesG s = if b = true then (cutL 44 (getN [110, 97, 109, 101, 115] (cutR s)).1.s).map rawN else [] := fun b h => by subst h; rfl
  simp only [wNames] at h64 hlp
  refine fork_split (fun hb => ?_) (fun hb => ?_)
  · rw [hn _ hb, if_pos (show true = true from rfl)] at h17 ⊢
    simp only [E26, hb, h64, List.length_map, EVT, EVD, ↓reduceIte, Nat.reduceEqDiff, reduceCtorEq, Nat.reduceAdd, Nat.reduceLeDiff, ne_eq, Nat.reduceLT, Int.reduceLT, Int.reduceLE, Int.reduceNeg]
    refine (hlp _ (by intro B M; rfl) _ _ _ _ _ _ (by intro B M; rfl) _ (by intro B M; rfl) _ _ _).trans ?_
    simp only [E26, h17, EVT, EVD, ↓reduceIte, Nat.reduceEqDiff, reduceCtorEq, Nat.reduceAdd, Nat.reduceLeDiff, ne_eq, Nat.reduceLT, Int.reduceLT, Int.reduceLE, Int.reduceNeg]
    refine fork_split (fun hc => ?_) (fun hc => ?_)
    · rw [if_neg (by rw [hc]; decide)]
      simp only [E26, hc, EVT, EVD, ↓reduceIte, Nat.reduceEqDiff, reduceCtorEq, Nat.reduceAdd, Nat.reduceLeDiff, ne_eq, Nat.reduceLT, Int.reduceLT, Int.reduceLE, Int.reduceNeg]
      rfl
    · rw [if_pos hc]
      simp only [E26, hc, EVT, EVD, ↓reduceIte, Nat.reduceEqDiff, reduceCtorEq, Nat.reduceAdd, Nat.reduceLeDiff, ne_eq, Nat.reduceLT, Int.reduceLT, Int.reduceLE, Int.reduceNeg]
  · rw [hn _ hb, if_neg (show ¬ (false = true) by decide)] at h17 ⊢
    simp only [List.map_nil] at h17 ⊢
    simp only [E26, hb, h17, EVT, EVD, ↓reduceIte, Nat.reduceEqDiff, reduceCtorEq, Nat.reduceAdd, Nat.reduceLeDiff, ne_eq, Nat.reduceLT, Int.reduceLT, Int.reduceLE, Int.reduceNeg]
    refine fork_split (fun hc => ?_) (fun hc => ?_)
    · rw [if_neg (by rw [hc]; decide)]
      simp only [E26, hc, EVT, EVD, ↓reduceIte, Nat.reduceEqDiff, reduceCtorEq, Nat.reduceAdd, Nat.reduceLeDiff, ne_eq, Nat.reduceLT, Int.reduceLT, Int.reduceLE, Int.reduceNeg]
      rfl
    · rw [if_pos hc]
      simp only [E26, hc, EVT, EVD, ↓reduceIte, Nat.reduceEqDiff, reduceCtorEq, Nat.reduceAdd, Nat.reduceLeDiff, ne_eq, Nat.reduceLT, Int.reduceLT, Int.reduceLE, Int.reduceNeg]
theorem k26 (s : Bytes) (hs : s.length ≤ 900000) (M : AMem) : callOp (acall tab) 26 [.str s] M = some (.tuple [eAns .sh .sh (rdAns s).1, eI (rdAns s).2], M) := callOp0 (c26 s hs) rfl rfl rfl rfl rfl M
end Go.Proofs.YtannopdcbocngaaGreatDoor
namespace Go.Proofs.YtannopdcbocngaaGreatDoor
open Go Go.Abs
attribute [local irreducible] exK opsK opK gK forkK kr acall callOp owhen obind
structure Event where
  kind : Int
  client : Int
  op : Op
  ans : Ans
  deriving DecidableEq, Inhabited
def eEvC (e : Event) : List AVal := [.int .i64 e.kind, .int .i64 e.client,
  .int .i64 e.op.kind, .int .i64 e.op.client, .str e.op.path, .str e.op.dest, .int .i64 e.op.n, .int .i64 e.op.m, .int .i64 e.op.handle, .slice .sh (e.op.data.map u8V),
  .int .i64 e.ans.err, .int .i64 e.ans.ino, .int .i64 e.ans.kind, .int .i64 e.ans.n, .int .i64 e.ans.m, .slice .sh (e.ans.names.map .str), .slice .sh (e.ans.data.map u8V)]
abbrev eEv (e : Event) : AVal := .agg (eEvC e)
structure EvOk (e : Event) : Prop where
  client : okI e.client
  op : OpOk e.op
  ans : AnsOk e.ans
theorem opN_le {o : Op} (h : OpOk o) : (opN o).length ≤ 10000000 := by
  have h0 := firstN_le h.kind
  have h1 := fldN_le' (f := ⟨wClient, o.client, []⟩) h.client
  have h2 := fldN_le' (f := ⟨wPath, 0, escN o.path⟩) okI_zero
  have h3 := fldN_le' (f := ⟨wTo, 0, escN o.dest⟩) okI_zero
  have h4 := fldN_le' (f := ⟨wN, o.n, []⟩) h.n
  have h5 := fldN_le' (f := ⟨wM, o.m, []⟩) h.m
  have h6 := fldN_le' (f := ⟨wHandle, o.handle, []⟩) h.handle
  have h7 := fldN_le' (f := ⟨wData, 0, escN o.data⟩) okI_zero
  have e1 := escN_le o.path; have e2 := escN_le o.dest; have e3 := escN_le o.data
  have g1 := h.path; have g2 := h.dest; have g3 := h.data
  simp only [wClient, wPath, wTo, wN, wM, wHandle, wData, List.length_cons, List.length_nil] at h1 h2 h3 h4 h5 h6 h7
  simp only [opN, lineN, opFlds, fldsN, List.flatMap_cons, List.flatMap_nil, List.length_append, List.length_nil, wClient, wPath, wTo, wN, wM, wHandle, wData]
  omega
theorem ansN_le {a : Ans} (h : AnsOk a) : (ansN a).length ≤ 10000000 := by
  have h0 := ansHead_le h
  have h1 := namesN_le h
  have h2 := fldN_le' (f := ⟨wData, 0, escN a.data⟩) okI_zero
  have e1 := escN_le a.data; have g1 := h.data
  simp only [wData, List.length_cons, List.length_nil] at h2
  unfold ansN
  rw [lineN]
  simp only [fldsN, List.flatMap_cons, List.flatMap_nil, List.length_append, List.length_nil, wData]
  omega
def evN (e : Event) : Bytes := if e.kind = 1 then 98 :: 101 :: 103 :: 105 :: 110 :: 32 :: (Lib.itoa e.client ++ [58, 32] ++ opN e.op ++ [10]) else if e.kind = 2 then 101 :: 110 :: 100 :: 32 :: (Lib.itoa e.client ++ [58, 32] ++ ansN e.ans ++ [10]) else []
def histN (l : List Event) : Bytes := l.flatMap evN
theorem evN_le {e : Event} (h : EvOk e) : (evN e).length ≤ 10000100 := by
  have := opN_le h.op; have := ansN_le h.ans; have := itoa_le h.client
  unfold evN
  split
  · simp; omega
  · split
    · simp; omega
    · simp
theorem loop19 (l : List Event) (hok : ∀ e, e ∈ l → EvOk e) (hl : l.length ≤ 100000) (C : CallF) (hC : C = acall tab) : ∀ (r pre : List Event), l = pre ++ r → ∀ (t : Bytes), t.length ≤ 10000100 * pre.length → ∀ (fn : List ARes) (base : Nat) (k : List K),
    exK C fn base (.block 0 :: k) (.loop [3, 6, 7, 8] lb19_0) [(3, .ptr 1 0), (6, .slice .sh (l.map eEv)), (7, eI l.length), (8, eI pre.length)] [.tick 1 t.length, bld 1 0 t] =
    kr C fn base k ⟨.normal, [(3, .ptr 1 0), (6, .slice .sh (l.map eEv)), (7, eI l.length), (8, eI l.length), (9, .bool false)], [.tick 1 (t ++ histN r).length, bld 1 0 (t ++ histN r)]⟩
  | [], pre, he, t, ht, fn, base, k => by
    subst hC
    have : pre = l := by simpa using he.symm
    subst this
    rw [exK_loop]
    have hlt : decide ((pre.length : Int) < pre.length) = false := by simp
    have h0 : t ++ histN [] = t := by simp [histN]
    rw [h0]
    simp only [E19, hlt, EVT, EVD, ↓reduceIte, Nat.reduceEqDiff, reduceCtorEq, Nat.reduceAdd, Nat.reduceLeDiff, ne_eq, Nat.reduceLT, Int.reduceLT, Int.reduceLE, Int.reduceNeg]
  | e :: r, pre, he, t, ht, fn, base, k => by
    subst hC
    have hl' : pre.length < l.length := by rw [he]; simp
    have hlt : decide ((pre.length : Int) < l.length) = true := by simpa using hl'
    have hix : l[pre.length]? = some e := by rw [he]; simp
    have hn : (0 : Int) ≤ pre.length := by omega
    have hw : IntKind.i64.wrap ((pre.length : Int) + 1) = ((pre ++ [e]).length : Int) := by rw [List.length_append, wrapS (by omega) (by omega)]; simp
    have hfo := hok e (by rw [he]; simp)
    have h4 := evN_le hfo
    have ho := opN_le hfo.op; have ha := ansN_le hfo.ans; have hi := itoa_le hfo.client
    have ih := loop19 l hok hl (acall tab) rfl r (pre ++ [e]) (by simpa using he) (t ++ evN e) (by simp; omega) fn base k
    have hfr : t ++ evN e ++ histN r = t ++ histN (e :: r) := by simp [histN]
    rw [hfr] at ih
    generalize t ++ histN (e :: r) = u at ih ⊢
    have h42 := fun M => k42 e.client hfo.client M
    have h15 := fun M => k15 e.op hfo.op .sh (.inl rfl) M
    have h17 := fun M => k17 e.ans hfo.ans .sh .sh (.inl rfl) (.inl rfl) M
    simp only [eOpC, eAnsC, eOp, eAns] at h15 h17
    simp only [List.length_append, List.length_cons, List.length_nil, Nat.zero_add] at ih hw
    have hk := fun (c : List AVal) (v : Bytes) (hv : t.length + v.length ≤ 1099511627776) => k50 (p := 1) (k := 0) (M := [.tick 1 t.length, bld 1 0 t, .cells c]) v rfl rfl (by decide) hv
    simp only [List.length_append] at hk
    rw [exK_loop]
    simp only [E19, hlt, hix, eEvC, EVT, EVD, ↓reduceIte, Nat.reduceEqDiff, reduceCtorEq, Nat.reduceAdd, Nat.reduceLeDiff, ne_eq, Nat.reduceLT, Int.reduceLT, Int.reduceLE, Int.reduceNeg]
    refine fork_split (fun hb => ?_) (fun hb => ?_)
    · have he2 : evN e = 98 :: 101 :: 103 :: 105 :: 110 :: 32 :: (Lib.itoa e.client ++ [58, 32] ++ opN e.op ++ [10]) := by rw [evN, if_pos (by simpa using hb)]
      simp (disch := omega) only [E19, hb, h42, h15, EVT, EVD, ↓reduceIte, Nat.reduceEqDiff, reduceCtorEq, Nat.reduceAdd, Nat.reduceLeDiff, ne_eq, Nat.reduceLT, Int.reduceLT, Int.reduceLE, Int.reduceNeg]
      rw [← he2, hk _ (evN e) (by omega)]
      simp only [E19, hw, EVT, EVD, ↓reduceIte, Nat.reduceEqDiff, reduceCtorEq, Nat.reduceAdd, Nat.reduceLeDiff, ne_eq, Nat.reduceLT, Int.reduceLT, Int.reduceLE, Int.reduceNeg]
      exact ih
    · simp only [E19, hb, EVT, EVD, ↓reduceIte, Nat.reduceEqDiff, reduceCtorEq, Nat.reduceAdd, Nat.reduceLeDiff, ne_eq, Nat.reduceLT, Int.reduceLT, Int.reduceLE, Int.reduceNeg]
      refine fork_split (fun hc => ?_) (fun hc => ?_)
      · have he2 : evN e = 101 :: 110 :: 100 :: 32 :: (Lib.itoa e.client ++ [58, 32] ++ ansN e.ans ++ [10]) := by rw [evN, if_neg (by simpa using hb), if_pos (by simpa using hc)]
        simp (disch := omega) only [E19, hb, hc, h42, h17, EVT, EVD, ↓reduceIte, Nat.reduceEqDiff, reduceCtorEq, Nat.reduceAdd, Nat.reduceLeDiff, ne_eq, Nat.reduceLT, Int.reduceLT, Int.reduceLE, Int.reduceNeg]
        rw [← he2, hk _ (evN e) (by omega)]
        simp only [E19, hw, EVT, EVD, ↓reduceIte, Nat.reduceEqDiff, reduceCtorEq, Nat.reduceAdd, Nat.reduceLeDiff, ne_eq, Nat.reduceLT, Int.reduceLT, Int.reduceLE, Int.reduceNeg]
        exact ih
      · have he2 : evN e = [] := by rw [evN, if_neg (by simpa using hb), if_neg (by simpa using hc)]
        rw [he2, List.append_nil] at ih
        simp only [List.length_nil, Nat.add_zero] at ih
        simp only [E19, hb, hc, hw, EVT, EVD, ↓reduceIte, Nat.reduceEqDiff, reduceCtorEq, Nat.reduceAdd, Nat.reduceLeDiff, ne_eq, Nat.reduceLT, Int.reduceLT, Int.reduceLE, Int.reduceNeg]
        exact ih
theorem histN_le : ∀ {l : List Event}, (∀ e, e ∈ l → EvOk e) → (histN l).length ≤ 10000100 * l.length
  | [], _ => by simp [histN]
  | e :: r, h => by
    have h1 := evN_le (h e (by simp))
    have h2 := histN_le fun g hg => h g (List.mem_cons_of_mem _ hg)
    simp only [histN, List.flatMap_cons, List.length_append, List.length_cons] at h2 ⊢
    omega
theorem c19 (l : List Event) (hok : ∀ e, e ∈ l → EvOk e) (hl : l.length ≤ 100000) : acall tab 19 [.slice .sh (l.map eEv)] [] = some (.str (histN l), []) := by
  refine acall_ex rfl rfl rfl ?_
  have h0 := loop19 l hok hl (acall tab) rfl l [] rfl [] (by simp)
  have hle := histN_le hok
  have hk2 := k51 (p := 1) (k := 0) (M := [.tick 1 (histN l).length, bld 1 0 (histN l)]) rfl rfl (by decide) (by omega)
  simp only [List.length_nil, List.nil_append] at h0
  simp only [fn19, E19, EVT, EVD, ↓reduceIte, Nat.reduceEqDiff, reduceCtorEq, Nat.reduceAdd, Nat.reduceLeDiff, ne_eq, Nat.reduceLT, Int.reduceLT, Int.reduceLE, Int.reduceNeg]
  refine (h0 _ _ _).trans ?_
  simp only [E19, hk2, EVT, EVD, ↓reduceIte, Nat.reduceEqDiff, reduceCtorEq, Nat.reduceAdd, Nat.reduceLeDiff, ne_eq, Nat.reduceLT, Int.reduceLT, Int.reduceLE, Int.reduceNeg]
theorem k19 (l : List Event) (hok : ∀ e, e ∈ l → EvOk e) (hl : l.length ≤ 100000) (M : AMem) : callOp (acall tab) 19 [.slice .sh (l.map eEv)] M = some (.str (histN l), M) := callOp0 (c19 l hok hl) rfl rfl rfl rfl rfl M
end Go.Proofs.YtannopdcbocngaaGreatDoor
namespace Go.Proofs.YtannopdcbocngaaGreatDoor
open Go Go.Abs
attribute [local irreducible] exK opsK opK gK forkK kr acall callOp owhen obind
def evWord (s : Bytes) : Bytes := (Lib.cut (Lib.cut s [58, 32]).1 [32]).1
def evClient (s : Bytes) : Int := atoiN (Lib.cut (Lib.cut s [58, 32]).1 [32]).2.1
def evRest (s : Bytes) : Bytes := (Lib.cut s [58, 32]).2.1
def evHas (s : Bytes) : Bool := (Lib.cut s [58, 32]).2.2
def evOf (s : Bytes) : Event × Bool :=
  if evWord s = [98, 101, 103, 105, 110] then (⟨1, evClient s, (rdOp (evRest s)).1, ansZ⟩, evHas s && (rdOp (evRest s)).2 == 0)
  else if evWord s = [101, 110, 100] then (⟨2, evClient s, opZ, (rdAns (evRest s)).1⟩, evHas s && (rdAns (evRest s)).2 == 0)
  else (⟨0, evClient s, opZ, ansZ⟩, false)
theorem c68 (s : Bytes) (hs : s.length ≤ 900000) : acall tab 68 [.str s] [] = some (.tuple [eEv (evOf s).1, .bool (evOf s).2], []) := by
  refine acall_ex rfl rfl rfl ?_
  have h1 := cut_le s [58, 32]
  have h2 := cut_le (Lib.cut s [58, 32]).1 [32]
  have k1 := fun M => k93 s [58, 32] (by omega) M
  have k2 := fun M => k93 (Lib.cut s [58, 32]).1 [32] (by omega) M
  have k3 := fun M => k58 (Lib.cut (Lib.cut s [58, 32]).1 [32]).2.1 (by omega) M
  have k4 := fun M => k24 (evRest s) (by unfold evRest; omega) M
  have k5 := fun M => k26 (evRest s) (by unfold evRest; omega) M
  simp only [eOp, eOpC, eAns, eAnsC, evRest] at k4 k5
  simp only [fn68, E68, k1, k2, k3, EVT, EVD, ↓reduceIte, Nat.reduceEqDiff, reduceCtorEq, Nat.reduceAdd, Nat.reduceLeDiff, ne_eq, Nat.reduceLT, Int.reduceLT, Int.reduceLE, Int.reduceNeg]
  refine fork_split (fun hb => ?_) (fun hb => ?_)
  · have he : evOf s = (⟨1, evClient s, (rdOp (evRest s)).1, ansZ⟩, evHas s && (rdOp (evRest s)).2 == 0) := by rw [evOf, if_pos (by simpa [evWord] using hb)]
    rw [he]
    simp only [E68, hb, k4, EVT, EVD, ↓reduceIte, Nat.reduceEqDiff, reduceCtorEq, Nat.reduceAdd, Nat.reduceLeDiff, ne_eq, Nat.reduceLT, Int.reduceLT, Int.reduceLE, Int.reduceNeg]
    refine guard_split (fun hc => ?_) (fun hc => ?_)
    · simp only [E68, hc, EVT, EVD, ↓reduceIte, Nat.reduceEqDiff, reduceCtorEq, Nat.reduceAdd, Nat.reduceLeDiff, ne_eq, Nat.reduceLT, Int.reduceLT, Int.reduceLE, Int.reduceNeg]
      simp [eEvC, evClient, evRest, evHas, hc, ansZ]
    · simp only [E68, hc, EVT, EVD, ↓reduceIte, Nat.reduceEqDiff, reduceCtorEq, Nat.reduceAdd, Nat.reduceLeDiff, ne_eq, Nat.reduceLT, Int.reduceLT, Int.reduceLE, Int.reduceNeg]
      simp at hc
      simp [eEvC, evClient, evRest, evHas, hc, ansZ]
  · simp only [E68, hb, EVT, EVD, ↓reduceIte, Nat.reduceEqDiff, reduceCtorEq, Nat.reduceAdd, Nat.reduceLeDiff, ne_eq, Nat.reduceLT, Int.reduceLT, Int.reduceLE, Int.reduceNeg]
    refine fork_split (fun hd => ?_) (fun hd => ?_)
    · have he : evOf s = (⟨2, evClient s, opZ, (rdAns (evRest s)).1⟩, evHas s && (rdAns (evRest s)).2 == 0) := by rw [evOf, if_neg (by simpa [evWord] using hb), if_pos (by simpa [evWord] using hd)]
      rw [he]
      simp only [E68, hb, hd, k5, EVT, EVD, ↓reduceIte, Nat.reduceEqDiff, reduceCtorEq, Nat.reduceAdd, Nat.reduceLeDiff, ne_eq, Nat.reduceLT, Int.reduceLT, Int.reduceLE, Int.reduceNeg]
      refine guard_split (fun hc => ?_) (fun hc => ?_)
      · simp only [E68, hc, EVT, EVD, ↓reduceIte, Nat.reduceEqDiff, reduceCtorEq, Nat.reduceAdd, Nat.reduceLeDiff, ne_eq, Nat.reduceLT, Int.reduceLT, Int.reduceLE, Int.reduceNeg]
        simp [eEvC, evClient, evRest, evHas, hc, opZ]
      · simp only [E68, hc, EVT, EVD, ↓reduceIte, Nat.reduceEqDiff, reduceCtorEq, Nat.reduceAdd, Nat.reduceLeDiff, ne_eq, Nat.reduceLT, Int.reduceLT, Int.reduceLE, Int.reduceNeg]
        simp at hc
        simp [eEvC, evClient, evRest, evHas, hc, opZ]
    · have he : evOf s = (⟨0, evClient s, opZ, ansZ⟩, false) := by rw [evOf, if_neg (by simpa [evWord] using hb), if_neg (by simpa [evWord] using hd)]
      rw [he]
      simp only [E68, hb, hd, EVT, EVD, ↓reduceIte, Nat.reduceEqDiff, reduceCtorEq, Nat.reduceAdd, Nat.reduceLeDiff, ne_eq, Nat.reduceLT, Int.reduceLT, Int.reduceLE, Int.reduceNeg]
      simp [eEvC, evClient, opZ, ansZ]
theorem k68 (s : Bytes) (hs : s.length ≤ 900000) (M : AMem) : callOp (acall tab) 68 [.str s] M = some (.tuple [eEv (evOf s).1, .bool (evOf s).2], M) := callOp0 (c68 s hs) rfl rfl rfl rfl rfl M
theorem rdOp_ok {s : Bytes} (h : s.length ≤ 900000) : OpOk (rdOp s).1 := by
  unfold rdOp
  split
  · exact opOf_ok h
  · constructor <;> simp [opZ, okI]
theorem rdAns_ok {s : Bytes} (h : s.length ≤ 900000) : AnsOk (rdAns s).1 := by
  unfold rdAns
  split
  · exact ansOf_ok h
  · constructor <;> simp [ansZ, okI, sumL]
theorem opZ_ok : OpOk opZ := by constructor <;> simp [opZ, okI]
theorem ansZ_ok : AnsOk ansZ := by constructor <;> simp [ansZ, okI, sumL]
theorem evOf_ok {s : Bytes} (h : s.length ≤ 900000) : EvOk (evOf s).1 := by
  have h1 := (cut_le s [58, 32]).2
  have h2 : (evRest s).length ≤ 900000 := by unfold evRest; omega
  unfold evOf
  split
  · exact ⟨atoiN_ok _, rdOp_ok h2, ansZ_ok⟩
  · split
    · exact ⟨atoiN_ok _, opZ_ok, rdAns_ok h2⟩
    · exact ⟨atoiN_ok _, opZ_ok, ansZ_ok⟩
end Go.Proofs.YtannopdcbocngaaGreatDoor
namespace Go.Proofs.YtannopdcbocngaaGreatDoor
open Go Go.Abs
attribute [local irreducible] exK opsK opK gK forkK kr acall callOp owhen obind
theorem c70 (a b : Bytes) : acall tab 70 [.slice .sh (a.map u8V), .slice .sh (b.map u8V)] [] = some (.bool (a == b), []) := by
  refine acall_ex rfl rfl rfl ?_
  simp only [fn70, E70, bytes_u8, EVT, EVD, ↓reduceIte, Nat.reduceEqDiff, reduceCtorEq, Nat.reduceAdd, Nat.reduceLeDiff, ne_eq, Nat.reduceLT, Int.reduceLT, Int.reduceLE, Int.reduceNeg]
theorem k70 (a b : Bytes) (M : AMem) : callOp (acall tab) 70 [.slice .sh (a.map u8V), .slice .sh (b.map u8V)] M = some (.bool (a == b), M) := callOp0 (c70 a b) rfl rfl rfl rfl rfl M
def sameOpB (a b : Op) : Bool := decide (a.kind = b.kind ∧ a.client = b.client ∧ a.path = b.path ∧ a.dest = b.dest ∧ a.n = b.n ∧ a.m = b.m ∧ a.handle = b.handle ∧ a.data = b.data)
theorem sameOpB_iff (a b : Op) : sameOpB a b = true ↔ a = b := by
  cases a; cases b
  simp [sameOpB]
theorem c30 (a b : Op) : acall tab 30 [eOp .sh a, eOp .sh b] [] = some (.bool (sameOpB a b), []) := by
  refine acall_ex rfl rfl rfl ?_
  have hk := k70 a.data b.data
  simp only [fn30, E30, eOpC, eOp, EVT, EVD, ↓reduceIte, Nat.reduceEqDiff, reduceCtorEq, Nat.reduceAdd, Nat.reduceLeDiff, ne_eq, Nat.reduceLT, Int.reduceLT, Int.reduceLE, Int.reduceNeg]
  repeat' (refine guard_split (fun hb => ?_) (fun hb => ?_) <;> simp only [hb, hk, EVT, EVD, ↓reduceIte, Nat.reduceEqDiff, reduceCtorEq, Nat.reduceAdd, Nat.reduceLeDiff, ne_eq, Nat.reduceLT, Int.reduceLT, Int.reduceLE, Int.reduceNeg])
  all_goals (unfold sameOpB; simp_all)
  all_goals (try (rw [Bool.eq_iff_iff]; simp))
theorem k30 (a b : Op) (M : AMem) : callOp (acall tab) 30 [eOp .sh a, eOp .sh b] M = some (.bool (sameOpB a b), M) := callOp0 (c30 a b) rfl rfl rfl rfl rfl M
theorem loop31 (a b : Ans) (hl : a.names.length ≤ 10000000) (C : CallF) (hC : C = acall tab) : ∀ (r r' pre : List Bytes), a.names = pre ++ r → b.names = pre ++ r' → r.length = r'.length →
    exK C [.tmp 4] 0 [.block 0, .seq q31_4] (.loop [2, 3, 5] lb31_0) [(2, .ptr 0 0), (3, .ptr 1 0), (5, eI pre.length)] [.cells (eAnsC .sh .sh a), .cells (eAnsC .sh .sh b)] =
    some (.bool (decide (r = r')), [])
  | [], r', pre, he, he', hr => by
    subst hC
    have : r' = [] := by simpa using hr.symm
    subst this
    have hp : pre.length = a.names.length := by rw [he]; simp
    rw [exK_loop]
    have hlt : decide ((pre.length : Int) < a.names.length) = false := by simp [hp]
    simp only [E31, eAnsC, hlt, EVT, EVD, ↓reduceIte, Nat.reduceEqDiff, reduceCtorEq, Nat.reduceAdd, Nat.reduceLeDiff, ne_eq, Nat.reduceLT, Int.reduceLT, Int.reduceLE, Int.reduceNeg]
    try rfl
  | x :: r, y :: r', pre, he, he', hr => by
    subst hC
    have hl' : pre.length < a.names.length := by rw [he]; simp
    have hlt : decide ((pre.length : Int) < a.names.length) = true := by simpa using hl'
    have hix : a.names[pre.length]? = some x := by rw [he]; simp
    have hiy : b.names[pre.length]? = some y := by rw [he']; simp
    have hn : (0 : Int) ≤ pre.length := by omega
    have hw : IntKind.i64.wrap ((pre.length : Int) + 1) = ((pre ++ [x]).length : Int) := by rw [List.length_append, wrapS (by omega) (by omega)]; simp
    rw [exK_loop]
    simp only [List.length_append, List.length_cons, List.length_nil, Nat.zero_add] at hw
    simp only [E31, eAnsC, hlt, hix, hiy, EVT, EVD, ↓reduceIte, Nat.reduceEqDiff, reduceCtorEq, Nat.reduceAdd, Nat.reduceLeDiff, ne_eq, Nat.reduceLT, Int.reduceLT, Int.reduceLE, Int.reduceNeg]
    refine fork_split (fun hb => ?_) (fun hb => ?_)
    · have hne : ¬ x = y := by simpa using hb
      have hd : decide (x :: r = y :: r') = false := by simp [hne]
      rw [hd]
      simp only [E31, hb, EVT, EVD, ↓reduceIte, Nat.reduceEqDiff, reduceCtorEq, Nat.reduceAdd, Nat.reduceLeDiff, ne_eq, Nat.reduceLT, Int.reduceLT, Int.reduceLE, Int.reduceNeg]
    · have hxy : x = y := by simpa using hb
      subst hxy
      have ih := loop31 a b hl (acall tab) rfl r r' (pre ++ [x]) (by simpa using he) (by simpa using he') (by simpa using hr)
      simp only [List.length_append, List.length_cons, List.length_nil, Nat.zero_add, eAnsC] at ih
      have hd : decide (x :: r = x :: r') = decide (r = r') := by simp
      rw [hd]
      simp only [E31, hb, hw, EVT, EVD, ↓reduceIte, Nat.reduceEqDiff, reduceCtorEq, Nat.reduceAdd, Nat.reduceLeDiff, ne_eq, Nat.reduceLT, Int.reduceLT, Int.reduceLE, Int.reduceNeg]
      exact ih
  | x :: r, [], pre, he, he', hr => by simp at hr
def sameAnsB (a b : Ans) : Bool := decide (a.err = b.err ∧ a.ino = b.ino ∧ a.kind = b.kind ∧ a.n = b.n ∧ a.m = b.m ∧ a.names.length = b.names.length ∧ a.data = b.data ∧ a.names = b.names)
theorem sameAnsB_iff (a b : Ans) : sameAnsB a b = true ↔ a = b := by
  cases a; cases b
  simp only [sameAnsB, decide_eq_true_eq, Ans.mk.injEq]
  constructor
  · rintro ⟨rfl, rfl, rfl, rfl, rfl, _, rfl, rfl⟩; simp
  · rintro ⟨rfl, rfl, rfl, rfl, rfl, rfl, rfl⟩; simp
theorem c31 (a b : Ans) (hl : a.names.length ≤ 10000000) : acall tab 31 [eAns .sh .sh a, eAns .sh .sh b] [] = some (.bool (sameAnsB a b), []) := by
  refine acall_ex rfl rfl rfl ?_
  have hk := k70 a.data b.data
  have h0 := fun h => loop31 a b hl (acall tab) rfl a.names b.names [] rfl rfl h
  simp only [eAnsC] at h0
  simp only [fn31, E31, eAnsC, eAns, EVT, EVD, ↓reduceIte, Nat.reduceEqDiff, reduceCtorEq, Nat.reduceAdd, Nat.reduceLeDiff, ne_eq, Nat.reduceLT, Int.reduceLT, Int.reduceLE, Int.reduceNeg]
  repeat' (refine guard_split (fun hb => ?_) (fun hb => ?_) <;> simp only [hb, hk, EVT, EVD, ↓reduceIte, Nat.reduceEqDiff, reduceCtorEq, Nat.reduceAdd, Nat.reduceLeDiff, ne_eq, Nat.reduceLT, Int.reduceLT, Int.reduceLE, Int.reduceNeg])
  · rename_i h1 h2 h3 h4 h5
    have hlen : a.names.length = b.names.length := by simp at hb; omega
    refine fork_split (fun hc => ?_) (fun hc => ?_)
    · simp only [E31, hc, EVT, EVD, ↓reduceIte, Nat.reduceEqDiff, reduceCtorEq, Nat.reduceAdd, Nat.reduceLeDiff, ne_eq, Nat.reduceLT, Int.reduceLT, Int.reduceLE, Int.reduceNeg]
      simp_all [sameAnsB]
    · simp only [E31, hc, EVT, EVD, ↓reduceIte, Nat.reduceEqDiff, reduceCtorEq, Nat.reduceAdd, Nat.reduceLeDiff, ne_eq, Nat.reduceLT, Int.reduceLT, Int.reduceLE, Int.reduceNeg]
      refine (h0 hlen).trans ?_
      have : sameAnsB a b = decide (a.names = b.names) := by
        simp at h1 h2 h3 h4 h5 hc
        simp only [sameAnsB, h1, h2, h3, h4, h5, hc, hlen, true_and]
      rw [this]
  all_goals
    simp only [E31, EVT, EVD, ↓reduceIte, Nat.reduceEqDiff, reduceCtorEq, Nat.reduceAdd, Nat.reduceLeDiff, ne_eq, Nat.reduceLT, Int.reduceLT, Int.reduceLE, Int.reduceNeg]
    simp_all [sameAnsB]
  all_goals (try (intro h; omega))
theorem k31 (a b : Ans) (hl : a.names.length ≤ 10000000) (M : AMem) : callOp (acall tab) 31 [eAns .sh .sh a, eAns .sh .sh b] M = some (.bool (sameAnsB a b), M) := callOp0 (c31 a b hl) rfl rfl rfl rfl rfl M
end Go.Proofs.YtannopdcbocngaaGreatDoor
namespace Go.Proofs.YtannopdcbocngaaGreatDoor
open Go Go.Abs
theorem u8_of_nat {n : Nat} (h : n < 256) : (UInt8.ofNat n).toNat = n := by rw [UInt8.toNat_ofNat']; omega
theorem dec_digit (u : Nat) : ∀ c, c ∈ Lib.decDigits u → 48 ≤ c.toNat ∧ c.toNat ≤ 57 := by
  induction u using Nat.strongRecOn with
  | _ u ih =>
    intro c hc
    rw [Lib.decDigits] at hc
    split at hc
    · rename_i h
      simp only [List.mem_singleton] at hc; subst hc
      rw [u8_of_nat (by omega)]; omega
    · rename_i h
      rcases List.mem_append.1 hc with hc | hc
      · exact ih (u / 10) (by omega) c hc
      · simp only [List.mem_singleton] at hc; subst hc
        rw [u8_of_nat (by omega)]; omega
theorem dec_ne (u : Nat) : Lib.decDigits u ≠ [] := by
  rw [Lib.decDigits]
  split <;> simp
theorem parse_app (l : List UInt8) (c : UInt8) : ∀ acc, Lib.parseUint10 acc (l ++ [c]) = match Lib.parseUint10 acc l with | .ok a => Lib.parseUint10 a [c] | e => e := by
  induction l with
  | nil => intro acc; rfl
  | cons x r ih =>
    intro acc
    simp only [List.cons_append, Lib.parseUint10]
    split
    · split
      · rfl
      · split
        · rfl
        · rw [ih]
          rfl
    · rfl
theorem parse_dec (u : Nat) (h : u < 18446744073709551616) : Lib.parseUint10 0 (Lib.decDigits u) = .ok u := by
  induction u using Nat.strongRecOn with
  | _ u ih =>
    rw [Lib.decDigits]
    split
    · rename_i h1
      simp only [Lib.parseUint10, u8_of_nat (show 48 + u < 256 by omega)]
      rw [if_pos (by omega), if_neg (by omega), if_neg (by omega)]
      congr 1; omega
    · rename_i h1
      rw [parse_app, ih (u / 10) (by omega) (by omega)]
      simp only [Lib.parseUint10, u8_of_nat (show 48 + u % 10 < 256 by omega)]
      rw [if_pos (by omega), if_neg (by omega), if_neg (by omega)]
      congr 1; omega
theorem atoi_ok {s : Bytes} {v : Int} (h : Lib.atoiAll s = .ok v) : atoiN s = v := by unfold atoiN; rw [h]
theorem atoi_itoa {n : Int} (h : okI n) : atoiN (Lib.itoa n) = n := by
  unfold okI at h
  unfold Lib.itoa
  by_cases hn : n < 0
  · rw [if_pos hn]
    have hm : Lib.parseMag (Lib.decDigits n.natAbs) = .ok n.natAbs := by
      unfold Lib.parseMag
      rw [if_neg (dec_ne _), parse_dec _ (by omega)]
    refine atoi_ok ?_
    rw [Lib.atoiAll_minus, hm]
    simp only [Lib.signed]
    rw [if_neg (by omega)]
    congr 1; omega
  · rw [if_neg hn]
    have hm : Lib.parseMag (Lib.decDigits n.toNat) = .ok n.toNat := by
      unfold Lib.parseMag
      rw [if_neg (dec_ne _), parse_dec _ (by omega)]
    have hd := dec_digit n.toNat
    refine atoi_ok ?_
    cases hl : Lib.decDigits n.toNat with
    | nil => exact absurd hl (dec_ne _)
    | cons c r =>
      have hc := hd c (by rw [hl]; simp)
      rw [Lib.atoiAll_plain c r (by omega) (by omega), ← hl, hm]
      simp only [Lib.signless]
      rw [if_neg (by omega)]
      congr 1; omega
theorem itoa_byte {n : Int} : ∀ c, c ∈ Lib.itoa n → c = 45 ∨ (48 ≤ c.toNat ∧ c.toNat ≤ 57) := by
  intro c hc
  unfold Lib.itoa at hc
  split at hc
  · rcases List.mem_cons.1 hc with rfl | hc
    · exact .inl rfl
    · exact .inr (dec_digit _ c hc)
  · exact .inr (dec_digit _ c hc)
theorem itoa_ne (n : Int) : Lib.itoa n ≠ [] := by
  unfold Lib.itoa
  split
  · simp
  · exact dec_ne _
theorem itoa_not {n : Int} {c : UInt8} (h : ¬ (c = 45 ∨ (48 ≤ c.toNat ∧ c.toNat ≤ 57))) : c ∉ Lib.itoa n := fun hc => h (itoa_byte c hc)
theorem all_bytes {P : UInt8 → Prop} (h : ∀ n : Nat, n < 256 → P (UInt8.ofNat n)) (c : UInt8) : P c := by
  have := h c.toNat c.toNat_lt
  simpa using this
theorem plain_facts : ∀ c : UInt8, (plainE c = true → c ≠ 37 ∧ c ≠ 32 ∧ c ≠ 61 ∧ c ≠ 44 ∧ c ≠ 10 ∧ c ≠ 58) ∧ rawC (hexD (c.toNat / 16)) (hexD (c.toNat % 16)) = c ∧ plainE (hexD (c.toNat / 16)) = true ∧ plainE (hexD (c.toNat % 16)) = true :=
  all_bytes (by decide +kernel)
theorem escB_byte (c : UInt8) : ∀ x, x ∈ escB c → plainE x = true ∨ x = 37 := by
  intro x hx
  unfold escB at hx
  split at hx
  · rename_i h
    simp only [List.mem_singleton] at hx; subst hx; exact .inl h
  · have h := plain_facts c
    simp only [List.mem_cons, List.not_mem_nil, or_false] at hx
    rcases hx with rfl | rfl | rfl
    · exact .inr rfl
    · exact .inl h.2.2.1
    · exact .inl h.2.2.2
theorem escN_byte {s : Bytes} : ∀ x, x ∈ escN s → plainE x = true ∨ x = 37 := by
  intro x hx
  obtain ⟨c, _, hc⟩ := List.mem_flatMap.1 hx
  exact escB_byte c x hc
theorem escN_not {s : Bytes} {c : UInt8} (h : ¬ plainE c = true) (h' : c ≠ 37) : c ∉ escN s := fun hc => (escN_byte c hc).elim h h'
theorem plain_not : plainE 32 = false ∧ plainE 61 = false ∧ plainE 44 = false ∧ plainE 10 = false ∧ plainE 58 = false ∧ plainE 37 = false := by decide +kernel
theorem escN_nil {s : Bytes} : escN s = [] ↔ s = [] := by
  cases s with
  | nil => simp [escN]
  | cons c r =>
    simp only [escN, List.flatMap_cons, reduceCtorEq, iff_false]
    intro h
    have := (List.append_eq_nil_iff.1 h).1
    unfold escB at this
    split at this <;> simp at this
theorem rawN_cons {c : UInt8} (h : c ≠ 37) (l : Bytes) : rawN (c :: l) = c :: rawN l := by
  match l with
  | [] => rfl
  | [a] => rfl
  | a :: b :: r => rw [rawN, if_neg h]
theorem raw_esc : ∀ s : Bytes, rawN (escN s) = s
  | [] => rfl
  | c :: r => by
    have ih := raw_esc r
    have h := plain_facts c
    rw [show escN (c :: r) = escB c ++ escN r by simp [escN]]
    unfold escB
    split
    · rename_i hp
      rw [show [c] ++ escN r = c :: escN r from rfl, rawN_cons (h.1 hp).1, ih]
    · rw [show [37, hexD (c.toNat / 16), hexD (c.toNat % 16)] ++ escN r = 37 :: hexD (c.toNat / 16) :: hexD (c.toNat % 16) :: escN r from rfl, rawN, if_pos rfl, h.2.1, ih]
theorem cutL_noc {c : UInt8} : ∀ {s : Bytes}, c ∉ s → cutL c s = [s]
  | [], _ => rfl
  | x :: r, h => by
    rw [cutL, if_neg (fun e => h (by rw [e]; simp)), cutL_noc (fun hc => h (List.mem_cons_of_mem _ hc))]
    rfl
theorem cutL_app {c : UInt8} : ∀ {a : Bytes} (b : Bytes), c ∉ a → cutL c (a ++ c :: b) = a :: cutL c b
  | [], b, _ => by simp [cutL]
  | x :: r, b, h => by
    rw [List.cons_append, cutL, if_neg (fun e => h (by rw [e]; simp)), cutL_app b (fun hc => h (List.mem_cons_of_mem _ hc))]
    rfl
theorem cutL_rows {c : UInt8} : ∀ (bs : List Bytes) (first : Bytes), c ∉ first → (∀ b, b ∈ bs → c ∉ b) → cutL c (first ++ bs.flatMap (c :: ·)) = first :: bs
  | [], first, h, _ => by simpa using cutL_noc h
  | b :: r, first, h, hb => by
    rw [List.flatMap_cons, List.cons_append, cutL_app _ h, cutL_rows r b (hb b (by simp)) (fun x hx => hb x (by simp [hx]))]
theorem cut_eq {w v : Bytes} (h : (61 : UInt8) ∉ w) : Lib.cut (w ++ 61 :: v) [61] = (w, v, true) := by
  rw [cut_cutL, if_pos (by simp), cutL_app v h]
  simp
def toR (p : Bytes × Bytes) : Fld := ⟨p.1, atoiN p.2, p.2⟩
def bodyR (p : Bytes × Bytes) : Bytes := p.1 ++ 61 :: p.2
theorem fldR_body {p : Bytes × Bytes} (h : (61 : UInt8) ∉ p.1) : fldR (bodyR p) = toR p := by
  unfold fldR bodyR
  rw [cut_eq h]
  rfl
def nz (f : Fld) : Bool := f.n != 0 || f.s != []
def valF (f : Fld) : Bytes := if f.n != 0 then Lib.itoa f.n else f.s
def rowsF (l : List Fld) : List (Bytes × Bytes) := (l.filter nz).map fun f => (f.word, valF f)
theorem fldsN_rows : ∀ l : List Fld, fldsN l = (rowsF l).flatMap fun p => 32 :: bodyR p
  | [] => rfl
  | f :: l => by
    have ih := fldsN_rows l
    rw [show fldsN (f :: l) = fldN f ++ fldsN l by simp [fldsN], ih]
    unfold fldN rowsF
    by_cases h1 : (f.n != 0) = true
    · rw [if_pos h1, List.filter_cons_of_pos (by simp only [nz, h1, Bool.true_or])]
      simp only [List.map_cons, List.flatMap_cons, bodyR, valF, h1, if_true]
      simp
    · rw [if_neg h1]
      by_cases h2 : (f.s != []) = true
      · rw [if_pos h2, List.filter_cons_of_pos (by simp only [nz, h2, Bool.or_true])]
        simp only [List.map_cons, List.flatMap_cons, bodyR, valF]
        rw [if_neg h1]
        simp
      · rw [if_neg h2, List.filter_cons_of_neg (by simp only [nz, Bool.or_eq_true, h1, h2, or_self, not_false_eq_true, Bool.false_eq_true])]
        rfl
theorem cut_line {first : Bytes} {R : List (Bytes × Bytes)} (hf : (32 : UInt8) ∉ first) (hR : ∀ p, p ∈ R → (32 : UInt8) ∉ bodyR p ∧ (61 : UInt8) ∉ p.1) :
    cutF (first ++ R.flatMap fun p => 32 :: bodyR p) = first ∧ cutR (first ++ R.flatMap fun p => 32 :: bodyR p) = R.map toR := by
  have e : (R.flatMap fun p => 32 :: bodyR p) = (R.map bodyR).flatMap (32 :: ·) := by rw [List.flatMap_map]
  have h : cutL 32 (first ++ (R.map bodyR).flatMap (32 :: ·)) = first :: R.map bodyR := cutL_rows _ _ hf (fun b hb => by
    obtain ⟨p, hp, rfl⟩ := List.mem_map.1 hb
    exact (hR p hp).1)
  unfold cutF cutR
  rw [e, h]
  refine ⟨rfl, ?_⟩
  simp only [List.tail_cons, List.map_map]
  exact List.map_congr_left fun p hp => fldR_body (hR p hp).2
theorem getN_app {w : Bytes} {a b : List Fld} : getN w (a ++ b) = if (getN w a).2 = true then getN w a else getN w b := by
  unfold getN
  rw [List.find?_append]
  cases h : List.find? (fun f => f.word == w) a with
  | none => simp
  | some f => simp
theorem getN_none {w : Bytes} {l : List Fld} (h : ∀ f, f ∈ l → f.word ≠ w) : getN w l = (zFld, false) := by
  unfold getN
  rw [List.find?_eq_none.2 (fun f hf => by simpa using h f hf)]
theorem getN_rows {w : Bytes} : ∀ {l : List Fld} {f : Fld}, (l.map Fld.word).Nodup → f ∈ l → f.word = w → getN w ((rowsF l).map toR) = if nz f = true then (toR (w, valF f), true) else (zFld, false)
  | [], f, _, h, _ => by cases h
  | g :: l, f, hn, h, hw => by
    have hn' := List.nodup_cons.1 (by simpa using hn : (g.word :: l.map Fld.word).Nodup)
    rcases List.mem_cons.1 h with rfl | h
    · by_cases hz : nz f = true
      · rw [if_pos hz]
        unfold rowsF
        rw [List.filter_cons_of_pos hz, List.map_cons, List.map_cons, getN_cons]
        simp only [toR, hw, if_true]
      · rw [if_neg hz]
        unfold rowsF
        rw [List.filter_cons_of_neg hz]
        refine getN_none fun x hx => ?_
        obtain ⟨p, hp, rfl⟩ := List.mem_map.1 hx
        obtain ⟨y, hy, rfl⟩ := List.mem_map.1 hp
        intro he
        exact hn'.1 (List.mem_map.2 ⟨y, (List.mem_filter.1 hy).1, by rw [hw]; exact he⟩)
    · have hne : g.word ≠ w := fun e => hn'.1 (List.mem_map.2 ⟨f, h, by rw [hw, e]⟩)
      have ih := getN_rows hn'.2 h hw
      unfold rowsF at ih ⊢
      by_cases hz : nz g = true
      · rw [List.filter_cons_of_pos hz, List.map_cons, List.map_cons, getN_cons, if_neg (by simpa [toR] using hne)]
        exact ih
      · rw [List.filter_cons_of_neg hz]
        exact ih
end Go.Proofs.YtannopdcbocngaaGreatDoor
namespace Go.Proofs.YtannopdcbocngaaGreatDoor
open Go Go.Abs
theorem num_of {l : List Fld} {f : Fld} (hn : (l.map Fld.word).Nodup) (hf : f ∈ l) (h : okI f.n) (hs : f.s = []) : (getN f.word ((rowsF l).map toR)).1.n = f.n := by
  rw [getN_rows hn hf rfl]
  by_cases hz : f.n = 0
  · have h1 : nz f = false := by simp [nz, hz, hs]
    rw [h1]
    simp [zFld, hz]
  · have h1 : nz f = true := by simp [nz, hz]
    rw [h1]
    simp [toR, valF, hz, atoi_itoa h]
theorem txt_of {l : List Fld} {f : Fld} {x : Bytes} (hn : (l.map Fld.word).Nodup) (hf : f ∈ l) (h0 : f.n = 0) (hs : f.s = escN x) : rawN (getN f.word ((rowsF l).map toR)).1.s = x := by
  rw [getN_rows hn hf rfl]
  by_cases hz : f.s = []
  · have h1 : nz f = false := by simp [nz, hz, h0]
    have h2 : x = [] := escN_nil.1 (hs ▸ hz)
    rw [h1, h2]
    rfl
  · have h1 : nz f = true := by simp [nz, hz]
    rw [h1]
    simp [toR, valF, h0, hs, raw_esc]
theorem rows_ok {l : List Fld} (hw : ∀ f, f ∈ l → (32 : UInt8) ∉ f.word ∧ (61 : UInt8) ∉ f.word ∧ (32 : UInt8) ∉ f.s) : ∀ p, p ∈ rowsF l → (32 : UInt8) ∉ bodyR p ∧ (61 : UInt8) ∉ p.1 := by
  intro p hp
  obtain ⟨f, hf, rfl⟩ := List.mem_map.1 hp
  obtain ⟨h1, h2, h3⟩ := hw f ((List.mem_filter.1 hf).1)
  refine ⟨?_, h2⟩
  have h4 : (32 : UInt8) ∉ valF f := by
    unfold valF
    split
    · exact itoa_not (by decide)
    · exact h3
  unfold bodyR
  simp only [List.mem_append, List.mem_cons, not_or]
  exact ⟨h1, by decide, h4⟩
theorem esc32 (s : Bytes) : (32 : UInt8) ∉ escN s := escN_not (by rw [plain_not.1]; simp) (by decide)
theorem esc44 (s : Bytes) : (44 : UInt8) ∉ escN s := escN_not (by rw [plain_not.2.2.1]; simp) (by decide)
theorem kind_word : ∀ k : Nat, 0 < k → k < 18 → ∀ z, kindF (wordsL.getD k []) wordsL 0 z = k
  | 0, h, _, _ => absurd h (by omega)
  | 1, _, _, _ | 2, _, _, _ | 3, _, _, _ | 4, _, _, _ | 5, _, _, _ | 6, _, _, _ | 7, _, _, _ | 8, _, _, _ | 9, _, _, _ | 10, _, _, _ | 11, _, _, _ | 12, _, _, _ | 13, _, _, _ | 14, _, _, _ | 15, _, _, _ | 16, _, _, _ | 17, _, _, _ => rfl
  | k + 18, _, h, _ => absurd h (by omega)
theorem kindF_none (a : Bytes) : ∀ (l : List Bytes) (i : Nat) (z : Int), a ∉ l → kindF a l i z = z
  | [], _, _, _ => rfl
  | w :: r, i, z, h => by
    rw [kindF, if_neg (fun e => h (by rw [e.1]; simp))]
    exact kindF_none a r _ z (fun hc => h (List.mem_cons_of_mem _ hc))
theorem words_op : ∀ w, w ∈ wordsL → w.length < 3 ∨ w.take 2 ≠ [111, 112] ∨ w.getD 2 0 = 101 := by decide
theorem words_byte : ∀ w, w ∈ wordsL → ∀ c, c ∈ w → plainE c = true := by decide +kernel
theorem firstN_none {k : Int} : (111 :: 112 :: Lib.itoa k) ∉ wordsL := by
  intro h
  have h1 := words_op _ h
  have h2 := itoa_byte (n := k)
  cases hl : Lib.itoa k with
  | nil => exact absurd hl (itoa_ne k)
  | cons c r =>
    rw [hl] at h1 h2
    have h3 := h2 c (by simp)
    simp at h1
    have h4 : c = 101 := h1.resolve_left (by omega)
    subst h4
    revert h3; decide
theorem words_get {k : Nat} (h : k < 18) : wordsL.getD k [] ∈ wordsL := by
  have h1 : k < wordsL.length := h
  rw [List.getD_eq_getElem?_getD, List.getElem?_eq_getElem h1]
  exact List.getElem_mem h1
theorem firstN_byte (k : Int) : ∀ c, c ∈ firstN k → plainE c = true ∨ c = 45 ∨ (48 ≤ c.toNat ∧ c.toNat ≤ 57) := by
  intro c hc
  unfold firstN at hc
  split at hc
  · rename_i h
    exact .inl (words_byte _ (words_get (by omega)) c hc)
  · rcases List.mem_cons.1 hc with rfl | hc
    · exact .inl (by decide +kernel)
    · rcases List.mem_cons.1 hc with rfl | hc
      · exact .inl (by decide +kernel)
      · exact .inr (itoa_byte c hc)
theorem firstN_32 (k : Int) : (32 : UInt8) ∉ firstN k := fun h => by
  rcases firstN_byte k _ h with h | h
  · rw [plain_not.1] at h; cases h
  · revert h; decide
theorem kind_first {k : Int} (h : okI k) : kindF (firstN k) wordsL 0 (atoiN (trimN (firstN k) [111, 112])) = k := by
  unfold firstN
  split
  · rename_i hk
    rw [kind_word k.toNat (by omega) (by omega)]
    omega
  · rw [kindF_none _ _ _ _ firstN_none]
    have : trimN (111 :: 112 :: Lib.itoa k) [111, 112] = Lib.itoa k := by simp [trimN]
    rw [this, atoi_itoa h]
theorem op_words (o : Op) : ((opFlds o).map Fld.word).Nodup := by
  show [wClient, wPath, wTo, wN, wM, wHandle, wData].Nodup
  decide
theorem flds3 {w s : Bytes} {n : Int} (h : (32 : UInt8) ∉ w ∧ (61 : UInt8) ∉ w) (hs : (32 : UInt8) ∉ s) : (32 : UInt8) ∉ (⟨w, n, s⟩ : Fld).word ∧ (61 : UInt8) ∉ (⟨w, n, s⟩ : Fld).word ∧ (32 : UInt8) ∉ (⟨w, n, s⟩ : Fld).s := ⟨h.1, h.2, hs⟩
theorem cut_op (o : Op) : cutF (opN o) = firstN o.kind ∧ cutR (opN o) = (rowsF (opFlds o)).map toR := by
  have h := cut_line (first := firstN o.kind) (R := rowsF (opFlds o)) (firstN_32 _) (rows_ok (fun f hf => by
    simp only [opFlds, List.mem_cons, List.not_mem_nil, or_false] at hf
    rcases hf with rfl | rfl | rfl | rfl | rfl | rfl | rfl
    · exact flds3 (by decide) (by simp)
    · exact flds3 (by decide) (esc32 _)
    · exact flds3 (by decide) (esc32 _)
    · exact flds3 (by decide) (by simp)
    · exact flds3 (by decide) (by simp)
    · exact flds3 (by decide) (by simp)
    · exact flds3 (by decide) (esc32 _)))
  rw [← fldsN_rows] at h
  exact h
theorem op_back {o : Op} (h : OpOk o) : opOf (opN o) = o := by
  obtain ⟨h1, h2⟩ := cut_op o
  have hn := op_words o
  have e1 := num_of (f := ⟨wClient, o.client, []⟩) hn (by simp [opFlds]) h.client rfl
  have e2 := txt_of (f := ⟨wPath, 0, escN o.path⟩) hn (by simp [opFlds]) rfl rfl
  have e3 := txt_of (f := ⟨wTo, 0, escN o.dest⟩) hn (by simp [opFlds]) rfl rfl
  have e4 := num_of (f := ⟨wN, o.n, []⟩) hn (by simp [opFlds]) h.n rfl
  have e5 := num_of (f := ⟨wM, o.m, []⟩) hn (by simp [opFlds]) h.m rfl
  have e6 := num_of (f := ⟨wHandle, o.handle, []⟩) hn (by simp [opFlds]) h.handle rfl
  have e7 := txt_of (f := ⟨wData, 0, escN o.data⟩) hn (by simp [opFlds]) rfl rfl
  simp only at e1 e2 e3 e4 e5 e6 e7
  unfold opOf numG txtG
  rw [h1, h2, kind_first h.kind, e1, e2, e3, e4, e5, e6, e7]
theorem rdOp_back {o : Op} (h : OpOk o) : rdOp (opN o) = (o, 0) := by
  unfold rdOp
  rw [op_back h, if_pos rfl]
theorem getN_left {w : Bytes} {a b : List Fld} (h : ∀ f, f ∈ b → f.word ≠ w) : getN w (a ++ b) = getN w a := by
  rw [getN_app]
  split
  · rfl
  · rename_i h1
    rw [getN_none h]
    unfold getN at h1 ⊢
    split at h1
    · simp at h1
    · rfl
theorem getN_right {w : Bytes} {a b : List Fld} (h : ∀ f, f ∈ a → f.word ≠ w) : getN w (a ++ b) = getN w b := by
  rw [getN_app, getN_none h]
  rfl
def rowsNm (l : List Bytes) : List (Bytes × Bytes) := if l ≠ [] then [(wNames, Lib.join (l.map escN) [44])] else []
def rowsA (a : Ans) : List (Bytes × Bytes) := rowsF (ansFlds a) ++ (rowsNm a.names ++ rowsF [⟨wData, 0, escN a.data⟩])
theorem ansN_rows (a : Ans) : ansN a = errN a.err ++ (rowsA a).flatMap fun p => 32 :: bodyR p := by
  unfold ansN rowsA lineN
  rw [fldsN_rows, fldsN_rows, List.flatMap_append, List.flatMap_append]
  have : namesN a.names = (rowsNm a.names).flatMap fun p => 32 :: bodyR p := by
    unfold namesN rowsNm
    split
    · simp [bodyR]
    · rfl
  rw [this]
  simp only [List.append_assoc]
theorem join_mem {c d : UInt8} {l : List Bytes} (h : c ∈ Lib.join l [d]) : c = d ∨ ∃ x, x ∈ l ∧ c ∈ x := by
  cases l with
  | nil => simp [Lib.join_nil] at h
  | cons x r =>
    rw [Lib.join_cons] at h
    rcases List.mem_append.1 h with h | h
    · exact .inr ⟨x, by simp, h⟩
    · unfold Lib.joinTail at h
      simp only [List.mem_flatten, List.mem_map] at h
      obtain ⟨y, ⟨z, hz, rfl⟩, hc⟩ := h
      rcases List.mem_append.1 hc with hc | hc
      · simp at hc; exact .inl hc
      · exact .inr ⟨z, by simp [hz], hc⟩
theorem errN_byte (k : Int) : ∀ c, c ∈ errN k → plainE c = true ∨ c = 45 ∨ (48 ≤ c.toNat ∧ c.toNat ≤ 57) := by
  intro c hc
  unfold errN at hc
  split at hc
  · simp only [List.mem_cons] at hc
    rcases hc with rfl | rfl | rfl | rfl | rfl | hc
    · exact .inl (by decide +kernel)
    · exact .inl (by decide +kernel)
    · exact .inl (by decide +kernel)
    · exact .inl (by decide +kernel)
    · exact .inl (by decide +kernel)
    · exact .inr (itoa_byte c hc)
  · simp only [List.mem_cons, List.not_mem_nil, or_false] at hc
    rcases hc with rfl | rfl
    · exact .inl (by decide +kernel)
    · exact .inl (by decide +kernel)
theorem errN_32 (k : Int) : (32 : UInt8) ∉ errN k := fun h => by
  rcases errN_byte k _ h with h | h
  · rw [plain_not.1] at h; cases h
  · revert h; decide
theorem join32 (l : List Bytes) : (32 : UInt8) ∉ Lib.join (l.map escN) [44] := fun h => by
  rcases join_mem h with h | ⟨x, hx, hc⟩
  · revert h; decide
  · obtain ⟨y, _, rfl⟩ := List.mem_map.1 hx
    exact esc32 y hc
theorem rowsNm_ok (l : List Bytes) : ∀ p, p ∈ rowsNm l → (32 : UInt8) ∉ bodyR p ∧ (61 : UInt8) ∉ p.1 := by
  intro p hp
  unfold rowsNm at hp
  split at hp
  · simp only [List.mem_singleton] at hp
    subst hp
    refine ⟨?_, (show (61 : UInt8) ∉ wNames by decide)⟩
    unfold bodyR
    simp only [List.mem_append, List.mem_cons, not_or]
    exact ⟨by decide, by decide, join32 l⟩
  · cases hp
theorem data_ok (d : Bytes) : ∀ f, f ∈ [(⟨wData, 0, escN d⟩ : Fld)] → (32 : UInt8) ∉ f.word ∧ (61 : UInt8) ∉ f.word ∧ (32 : UInt8) ∉ f.s := by
  intro f hf
  simp only [List.mem_singleton] at hf
  subst hf
  exact flds3 (by decide) (esc32 _)
theorem ansFlds_32 (a : Ans) : ∀ f, f ∈ ansFlds a → (32 : UInt8) ∉ f.word ∧ (61 : UInt8) ∉ f.word ∧ (32 : UInt8) ∉ f.s := by
  intro f hf
  simp only [ansFlds, List.mem_cons, List.not_mem_nil, or_false] at hf
  rcases hf with rfl | rfl | rfl | rfl
  · exact flds3 (by decide) (by simp)
  · exact flds3 (by decide) (by simp)
  · exact flds3 (by decide) (by simp)
  · exact flds3 (by decide) (by simp)
theorem rowsA_ok (a : Ans) : ∀ p, p ∈ rowsA a → (32 : UInt8) ∉ bodyR p ∧ (61 : UInt8) ∉ p.1 := by
  intro p hp
  unfold rowsA at hp
  rcases List.mem_append.1 hp with hp | hp
  · exact rows_ok (ansFlds_32 a) p hp
  · rcases List.mem_append.1 hp with hp | hp
    · exact rowsNm_ok _ p hp
    · exact rows_ok (data_ok _) p hp
theorem cut_ans (a : Ans) : cutF (ansN a) = errN a.err ∧ cutR (ansN a) = (rowsA a).map toR := by
  rw [ansN_rows]
  exact cut_line (errN_32 _) (rowsA_ok a)
theorem cut_join {c : UInt8} : ∀ {l : List Bytes}, l ≠ [] → (∀ x, x ∈ l → c ∉ x) → cutL c (Lib.join l [c]) = l
  | [], h, _ => absurd rfl h
  | x :: r, _, hl => by
    have e : Lib.join (x :: r) [c] = x ++ r.flatMap (c :: ·) := by
      rw [Lib.join_cons]
      unfold Lib.joinTail
      rw [← List.flatMap_def]
      rfl
    rw [e]
    exact cutL_rows _ _ (hl x (by simp)) (fun b hb => hl b (by simp [hb]))
theorem word_rows {l : List Fld} {w : Bytes} (h : ∀ f, f ∈ l → f.word ≠ w) : ∀ f, f ∈ (rowsF l).map toR → f.word ≠ w := by
  intro f hf
  obtain ⟨p, hp, rfl⟩ := List.mem_map.1 hf
  obtain ⟨g, hg, rfl⟩ := List.mem_map.1 hp
  exact h g ((List.mem_filter.1 hg).1)
theorem word_names {l : List Bytes} {w : Bytes} (h : wNames ≠ w) : ∀ f, f ∈ (rowsNm l).map toR → f.word ≠ w := by
  intro f hf
  obtain ⟨p, hp, rfl⟩ := List.mem_map.1 hf
  unfold rowsNm at hp
  split at hp
  · simp only [List.mem_singleton] at hp
    subst hp
    exact h
  · cases hp
theorem ans_words (a : Ans) : ((ansFlds a).map Fld.word).Nodup := by
  show [wIno, wKind, wN, wM].Nodup
  decide
theorem ans_num {a : Ans} {f : Fld} (hf : f ∈ ansFlds a) (h : okI f.n) (hs : f.s = []) (h1 : wNames ≠ f.word) (h2 : wData ≠ f.word) : (getN f.word ((rowsA a).map toR)).1.n = f.n := by
  unfold rowsA
  rw [List.map_append, List.map_append, getN_left]
  · exact num_of (ans_words a) hf h hs
  · intro g hg
    rcases List.mem_append.1 hg with hg | hg
    · exact word_names h1 g hg
    · exact word_rows (fun g hg => by simp only [List.mem_singleton] at hg; subst hg; exact h2) g hg
theorem err_first {k : Int} (h : okI k) : atoiN (trimN (errN k) [101, 114, 114, 111, 114]) = k := by
  unfold errN
  split
  · have : trimN (101 :: 114 :: 114 :: 111 :: 114 :: Lib.itoa k) [101, 114, 114, 111, 114] = Lib.itoa k := by simp [trimN]
    rw [this, atoi_itoa h]
  · rename_i hk
    have : k = 0 := by simpa using hk
    subst this
    decide +kernel
theorem flds_not {a : Ans} {w : Bytes} (h : wIno ≠ w ∧ wKind ≠ w ∧ wN ≠ w ∧ wM ≠ w) : ∀ f, f ∈ ansFlds a → f.word ≠ w := by
  intro f hf
  simp only [ansFlds, List.mem_cons, List.not_mem_nil, or_false] at hf
  rcases hf with rfl | rfl | rfl | rfl
  · exact h.1
  · exact h.2.1
  · exact h.2.2.1
  · exact h.2.2.2
theorem ans_back {a : Ans} (h : AnsOk a) : ansOf (ansN a) = a := by
  obtain ⟨h1, h2⟩ := cut_ans a
  have e1 := ans_num (a := a) (f := ⟨wIno, a.ino, []⟩) (by simp [ansFlds]) h.ino rfl (show wNames ≠ wIno by decide) (show wData ≠ wIno by decide)
  have e2 := ans_num (a := a) (f := ⟨wKind, a.kind, []⟩) (by simp [ansFlds]) h.kind rfl (show wNames ≠ wKind by decide) (show wData ≠ wKind by decide)
  have e3 := ans_num (a := a) (f := ⟨wN, a.n, []⟩) (by simp [ansFlds]) h.n rfl (show wNames ≠ wN by decide) (show wData ≠ wN by decide)
  have e4 := ans_num (a := a) (f := ⟨wM, a.m, []⟩) (by simp [ansFlds]) h.m rfl (show wNames ≠ wM by decide) (show wData ≠ wM by decide)
  simp only at e1 e2 e3 e4
  have e5 : namesG (ansN a) = a.names := by
    have hg : getN wNames ((rowsA a).map toR) = getN wNames ((rowsNm a.names).map toR) := by
      unfold rowsA
      rw [List.map_append, List.map_append, getN_right (word_rows (flds_not (by decide))), getN_left (word_rows (fun g hg => by simp only [List.mem_singleton] at hg; subst hg; show wData ≠ wNames; decide))]
    unfold namesG
    rw [h2, hg]
    unfold rowsNm
    by_cases hl : a.names = []
    · rw [hl]; rfl
    · rw [if_pos hl]
      have hx : a.names.map escN ≠ [] := by simpa using hl
      simp only [List.map_cons, List.map_nil, getN_cons, toR, if_true]
      rw [cut_join hx (fun x hx => by obtain ⟨y, _, rfl⟩ := List.mem_map.1 hx; exact esc44 y), List.map_map]
      rw [List.map_congr_left (fun x _ => show (rawN ∘ escN) x = id x from raw_esc x)]
      simp
  have e6 : rawN (getN wData ((rowsA a).map toR)).1.s = a.data := by
    have hg : getN wData ((rowsA a).map toR) = getN wData ((rowsF [⟨wData, 0, escN a.data⟩]).map toR) := by
      unfold rowsA
      rw [List.map_append, List.map_append, getN_right (word_rows (flds_not (by decide))), getN_right (word_names (by decide))]
    rw [hg]
    exact txt_of (f := ⟨wData, 0, escN a.data⟩) (by simp) (by simp) rfl rfl
  unfold ansOf numG txtG
  rw [h1, h2, err_first h.err, e1, e2, e3, e4, e5, e6]
theorem rdAns_back {a : Ans} (h : AnsOk a) : rdAns (ansN a) = (a, 0) := by
  unfold rdAns
  rw [ans_back h, if_pos rfl]
theorem opN_inj {o p : Op} (h : OpOk o) (g : OpOk p) (e : opN o = opN p) : o = p := by
  have h1 := op_back h
  rw [e, op_back g] at h1
  exact h1.symm
end Go.Proofs.YtannopdcbocngaaGreatDoor
namespace Go.Proofs.YtannopdcbocngaaGreatDoor
open Go Go.Abs
attribute [local irreducible] exK opsK opK gK forkK kr acall callOp owhen obind
theorem min300 (n : Nat) : (if 300 < ((n : Nat) : Int) then 300 else ((n : Nat) : Int)) = ((min n 300 : Nat) : Int) := by split <;> omega
theorem cut300 (n : Nat) : (((min n 300 : Nat) : Int) ≤ ((n : Nat) : Int) ∧ ((0 : Nat) : Int) ≤ ((min n 300 : Nat) : Int)) = True := by
  simp only [eq_iff_iff, iff_true]; omega
theorem min100 (n : Nat) : (if 100 < ((n : Nat) : Int) then 100 else ((n : Nat) : Int)) = ((min n 100 : Nat) : Int) := by split <;> omega
theorem cut100 (n : Nat) : (((min n 100 : Nat) : Int) ≤ ((n : Nat) : Int) ∧ ((0 : Nat) : Int) ≤ ((min n 100 : Nat) : Int)) = True := by
  simp only [eq_iff_iff, iff_true]; omega
theorem natI (n : Nat) : ((n : Nat) : Int).toNat = n := by omega
theorem take_min {α : Type} (l : List α) (m : Nat) : l.take (min l.length m) = l.take m := by
  rcases Nat.le_total l.length m with h | h
  · rw [Nat.min_eq_left h, List.take_of_length_le h, List.take_of_length_le (Nat.le_refl _)]
  · rw [Nat.min_eq_right h]
theorem take_u8 (d : Bytes) : List.take (min (List.length d) 300) (d.map u8V) = List.take 300 (d.map u8V) := by rw [← List.map_take, take_min, List.map_take]
theorem wid_u8 (d : Bytes) : wid (List.take 300 (d.map u8V)) 1 = True := by rw [← List.map_take]; exact widU _
theorem room_u8 (d : Bytes) : roomOk (List.take 300 (d.map u8V)).length 1 = True := roomO (by simp; omega) (by omega)
def cutOpN (o : Op) : Op := { o with path := o.path.take 300, dest := o.dest.take 300, data := o.data.take 300 }
theorem c12 (o : Op) : acall tab 12 [eOp .sh o] [] = some (eOp .sh (cutOpN o), []) := by
  refine acall_ex rfl rfl rfl ?_
  simp only [fn12, E12, eOpC, eOp, List.length_map, min300, cut300, natI, take_min, take_u8, widU, wid_u8, room_u8, List.length_nil, Nat.zero_add, cutOpN, EVT, EVD, ↓reduceIte, Nat.reduceEqDiff, reduceCtorEq, Nat.reduceAdd, Nat.reduceLeDiff, ne_eq, Nat.reduceLT, Int.reduceLT, Int.reduceLE, Int.reduceNeg]
theorem k12 (o : Op) (M : AMem) : callOp (acall tab) 12 [eOp .sh o] M = some (eOp .sh (cutOpN o), M) := callOp0 (c12 o) rfl rfl rfl rfl rfl M
def cutAnsN (a : Ans) : Ans := { a with names := (a.names.take 40).map (List.take 100), data := a.data.take 300 }
theorem sl100 (x : Bytes) : List.take (min (List.length x) 100) x = x.take 100 := take_min x 100
theorem loop13 (cs : List AVal) (hcs : ∀ B M, cs.map (AVal.back1 B M) = cs) (a : Ans) (u : List Bytes) (hu : (a.names.take 40).map (List.take 100) = u) (C : CallF) (hC : C = acall tab) : ∀ (r pre : List Bytes), a.names = pre ++ r → pre.length ≤ 40 → ∀ (fn : List ARes) (base : Nat) (k : List K),
    exK C fn base (.block 0 :: k) (.loop [1, 2, 3, 4] lb13_0) [(1, .ptr 0 0), (2, .ptr 1 0), (3, .slice (.own 2) ((pre.map (List.take 100)).map .str)), (4, eI pre.length)] [.cells (eAnsC .sh .sh a), .cells cs, .tick 1 pre.length] =
    kr C fn base k ⟨.normal, [(1, .ptr 0 0), (2, .ptr 1 0), (3, .slice (.own 2) (u.map .str)), (4, eI u.length), (14, .bool false)], [.cells (eAnsC .sh .sh a), .cells cs, .tick 1 u.length]⟩
  | [], pre, he, hp, fn, base, k => by
    subst hC
    have hpre : pre = a.names := by simpa using he.symm
    have hu' : u = pre.map (List.take 100) := by rw [← hu, ← hpre, List.take_of_length_le hp]
    subst hu'
    have hlt : decide ((pre.length : Int) < a.names.length) = false := by rw [hpre]; simp
    rw [exK_loop]
    simp only [E13, eAnsC, hlt, List.length_map, EVT, EVD, ↓reduceIte, Nat.reduceEqDiff, reduceCtorEq, Nat.reduceAdd, Nat.reduceLeDiff, ne_eq, Nat.reduceLT, Int.reduceLT, Int.reduceLE, Int.reduceNeg]
  | x :: r, pre, he, hp, fn, base, k => by
    subst hC
    have hl' : pre.length < a.names.length := by rw [he]; simp
    have hlt : decide ((pre.length : Int) < a.names.length) = true := by simpa using hl'
    by_cases h4 : pre.length = 40
    · have hu' : u = pre.map (List.take 100) := by rw [← hu, he, ← h4]; simp
      subst hu'
      have h40 : decide ((pre.length : Int) < 40) = false := by rw [h4]; rfl
      rw [exK_loop]
      simp only [E13, eAnsC, hlt, h40, List.length_map, EVT, EVD, ↓reduceIte, Nat.reduceEqDiff, reduceCtorEq, Nat.reduceAdd, Nat.reduceLeDiff, ne_eq, Nat.reduceLT, Int.reduceLT, Int.reduceLE, Int.reduceNeg]
    · have h40 : decide ((pre.length : Int) < 40) = true := by simp; omega
      have hix : a.names[pre.length]? = some x := by rw [he]; simp
      have hn : (0 : Int) ≤ pre.length := by omega
      have hw : IntKind.i64.wrap ((pre.length : Int) + 1) = ((pre ++ [x]).length : Int) := by rw [List.length_append, wrapS (by omega) (by omega)]; simp
      have hr := roomO (a := pre.length + 1) (b := 16) (by omega) (by omega)
      have ih := loop13 cs hcs a u hu (acall tab) rfl r (pre ++ [x]) (by simpa using he) (by simp; omega) fn base k
      simp only [List.length_append, List.length_cons, List.length_nil, Nat.zero_add, List.map_append, List.map_cons, List.map_nil, eAnsC] at ih hw
      rw [exK_loop]
      simp only [E13, eAnsC, hlt, h40, hix, hr, min100, cut100, natI, sl100, List.length_map, EVT, EVD, ↓reduceIte, Nat.reduceEqDiff, reduceCtorEq, Nat.reduceAdd, Nat.reduceLeDiff, ne_eq, Nat.reduceLT, Int.reduceLT, Int.reduceLE, Int.reduceNeg]
      simp only [E13, hw, widS, hcs, EVT, EVD, ↓reduceIte, Nat.reduceEqDiff, reduceCtorEq, Nat.reduceAdd, Nat.reduceLeDiff, ne_eq, Nat.reduceLT, Int.reduceLT, Int.reduceLE, Int.reduceNeg]
      exact ih
theorem c13 (a : Ans) : acall tab 13 [eAns .sh .sh a] [] = some (eAns .sh .sh (cutAnsN a), []) := by
  refine acall_ex rfl rfl rfl ?_
  have h0 := fun cs hcs fn base k => loop13 cs hcs a _ rfl (acall tab) rfl a.names [] rfl (by simp) fn base k
  simp only [eAnsC, List.map_nil, List.length_nil] at h0
  simp only [fn13, E13, eAnsC, eAns, EVT, EVD, ↓reduceIte, Nat.reduceEqDiff, reduceCtorEq, Nat.reduceAdd, Nat.reduceLeDiff, ne_eq, Nat.reduceLT, Int.reduceLT, Int.reduceLE, Int.reduceNeg]
  refine (h0 _ (fun _ _ => rfl) _ _ _).trans ?_
  simp only [E13, List.length_map, min300, cut300, natI, take_u8, widU, wid_u8, room_u8, List.length_nil, Nat.zero_add, cutAnsN, EVT, EVD, ↓reduceIte, Nat.reduceEqDiff, reduceCtorEq, Nat.reduceAdd, Nat.reduceLeDiff, ne_eq, Nat.reduceLT, Int.reduceLT, Int.reduceLE, Int.reduceNeg]
theorem k13 (a : Ans) (M : AMem) : callOp (acall tab) 13 [eAns .sh .sh a] M = some (eAns .sh .sh (cutAnsN a), M) := callOp0 (c13 a) rfl rfl rfl rfl rfl M
end Go.Proofs.YtannopdcbocngaaGreatDoor
namespace Go.Proofs.YtannopdcbocngaaGreatDoor
open Go Go.Abs Go.RowKit Go.Shelf
def SeqStopsC {α : Type} (b0 : Nat) (F : Fence) (n : Nat) (P : Program) (g : Nat) (lb : Array Value) (encs : α → Array Value) (Kp : World → World → Prop) (S Sp : List α → Prop) (N : Nat) (w : World) : Prop :=
  ∀ (l : Nat) (J Jx : List α → World → Prop) (W : World), Below w.heap.size w W → AbidesFrom W.heap.size J → AbidesFrom W.heap.size Jx → (∀ s A v, J s A → J s (A.setCell ⟨b0, 0, none⟩ v)) →
    (∀ pre x W1, J pre W1 → pre.length < N → YieldAt F (n - 1) P l (encs x) W1 fun e W' =>
      (e = .returned (.bool true) ∧ J (pre ++ [x]) W' ∧ Kp W1 W') ∨ (e = .returned (.bool false) ∧ Jx (pre ++ [x]) W')) →
    J [] W →
    CallsIn F n P g (#[.func (.yield l) #[] #[]] ++ lb) W fun e W' => (∃ v, e = .returned v) ∧ ((∃ xs, S xs ∧ J xs W') ∨ (∃ pre, Sp pre ∧ Jx pre W'))
theorem wpIn_rangeFunc_ownC {F : Fence} {n : Nat} {P : Program} {b0 : Nat} {α : Type} {g : Operand} {ps : Array Tmp} {assign body : Code} {Q : Exit → Act → World → Prop} {a : Act} {w : World} (hb0w : b0 < w.heap.size)
    (hro : F.round = none) (h1 : 1 ≤ n) {gf : Nat} {lb : Array Value} (hg : a.eval g = .func (.func gf) #[] lb) (hFg : F.fn gf) (eg : ∀ args w, (callFunc gf args).run P w = .ok (.enter gf args) w)
    {encs : α → Array Value} {Kp : World → World → Prop} {S Sp : List α → Prop} {N : Nat} {w0 : World} (hseq : SeqStopsC b0 F (n - 1) P gf lb encs Kp S Sp N w0)
    (hKt : ∀ {A B C : World}, Kp A B → Kp B C → Kp A C) (hKb : ∀ (W : World) (l : Nat) (o o' : Obj), w.heap.size ≤ l → W.heap[l]? = some o → o.isCells = false → o.isWalk = false → Kp W (W.putObj l o')) (hb0 : Below w0.heap.size w0 w) (hps : ∀ x, (encs x).size = ps.size)
    (I : List α → World → Prop) (Ix : Code → List α → World → Prop) (hI : OwnFrom w.heap.size I) (hIx : ∀ c, OwnFrom w.heap.size (Ix c)) (hIc : ∀ s A v, I s A → I s (A.setCell ⟨b0, 0, none⟩ v)) (h0 : I [] w) (a₁ : α → Act)
    (hassign : ∀ (l : Nat) (x : α) (W : World) (K : Act → World → Prop), K (a₁ x) W →
      assign.wpIn (F.inRound l) (n - 1 - 1) P (Exit.then K (fun _ _ _ => False)) { tmps := (ps.zip (encs x)).foldl (fun t (p, v) => t.setIfInBounds p v) a.tmps, defers := [] } W)
    (hbody : ∀ (l : Nat) (pre : List α) (x : α) (W : World), I pre W → pre.length < N → body.wpIn (F.inRound l) (n - 1 - 1) P (ownPostK Kp I Ix (pre ++ [x]) W) (a₁ x) W)
    (hdone : ∀ (D : Nat) (xs : List α) (W : World), w.heap.size ≤ D → S xs → I xs W → W.heap[D]? = some (.deferred (some [])) → Q .normal { a with defers := { target := .collected D, args := #[] } :: a.defers } W)
    (hstop : ∀ (D : Nat) (c : Code) (pre : List α) (W : World), w.heap.size ≤ D → Sp pre → Ix c pre W → W.heap[D]? = some (.deferred (some [])) → c.wpIn F n P Q { a with defers := { target := .collected D, args := #[] } :: a.defers } W) :
    (Code.rangeFunc g ps assign body).wpIn F n P Q a w := by
  refine wpIn_rangeFunc ?_
  intro fn hfn
  rw [hro]
  obtain ⟨rec, hrec⟩ : ∃ rec : LoopState → Option Code → Loop, rec = fun st pe => { state := st, pending := pe, fn, tmps := a.tmps, params := ps, assign, body, defers := w.heap.size } := ⟨_, rfl⟩
  obtain ⟨W1, hW1⟩ : ∃ W1, (w.alloc (.deferred (some []))).alloc (.loop (rec .ready none)) = W1 := ⟨_, rfl⟩
  have hL1 : W1.heap[w.heap.size + 1]? = some (.loop (rec .ready none)) := by
    rw [← hW1]; have := World.alloc_heap_new (w.alloc (.deferred (some []))) (.loop (rec .ready none)); rwa [World.size_alloc] at this
  have hK1 : W1.heap[w.heap.size]? = some (.deferred (some [])) := by
    rw [← hW1]; exact (Below.heap_alloc _ _ _ (by simp)).trans (World.alloc_heap_new w _)
  have hI1 : I [] W1 := by rw [← hW1]; exact hI.alloc _ (hI.alloc _ h0)
  have hb1 : Below w0.heap.size w0 W1 := by
    rw [← hW1]; exact hb0.trans ((((Below.refl _ w).alloc (Nat.le_refl _) _).alloc (by simp) _).mono hb0.size)
  refine ⟨w.heap.size + 1, [{ target := .collected w.heap.size, args := #[] }], W1, { target := .fn (.func gf) lb, args := #[.func (.yield (w.heap.size + 1)) #[] #[]] }, W1, gf,
    #[.func (.yield (w.heap.size + 1)) #[] #[]] ++ lb, W1, ?_, ?_, ?_, ?_, fun _ => h1, ?_⟩
  · rw [← hW1, hrec]; exact run_enterLoop_outer _ _ _ _ _
  · simp only [resolve, hg]
    simp [go_sem]
  · intro f' hf'; simp [Target.leads] at hf'; subst hf'; exact hFg
  · simp [invoke, go_sem, eg]
  · have hnw : ∀ {A B : World} {row : Option Nat}, (∀ r, row = some r → W1.heap.size ≤ r ∧ ∃ o : Obj, A.heap[r]? = some o ∧ o.isWalk = true) → (∀ r, row = some r → w.heap.size ≤ r ∧ ∃ o : Obj, A.heap[r]? = some o ∧ o.isCells = false) :=
      fun hr r e => by obtain ⟨hB, o, ho, hw⟩ := hr r e; exact ⟨by rw [← hW1] at hB; simp at hB; omega, o, ho, Obj.not_cells_of_walk hw⟩
    refine (hseq (w.heap.size + 1)
      (fun pre W => I pre W ∧ W.heap[w.heap.size + 1]? = some (.loop (rec .ready none)) ∧ W.heap[w.heap.size]? = some (.deferred (some [])))
      (fun pre W => ∃ c, Ix c pre W ∧ W.heap[w.heap.size + 1]? = some (.loop (rec .done (some c))) ∧ W.heap[w.heap.size]? = some (.deferred (some [])))
      W1 hb1
      (fun s A B row hs hg' hr => ⟨hI s A B row hs.1 hg' (hnw (B := B) hr), (grownBy_keeps hg' (fun r e => (hr r e).2) hs.2.1 rfl).trans hs.2.1, (grownBy_keeps hg' (fun r e => (hr r e).2) hs.2.2 rfl).trans hs.2.2⟩)
      (fun s A B row hs hg' hr => by
        obtain ⟨c, hc, hl, hk⟩ := hs
        exact ⟨c, hIx c s A B row hc hg' (hnw (B := B) hr), (grownBy_keeps hg' (fun r e => (hr r e).2) hl rfl).trans hl, (grownBy_keeps hg' (fun r e => (hr r e).2) hk rfl).trans hk⟩)
      (fun s A v hs => ⟨hIc s A v hs.1, (Below.heap_setCell _ _ _ _ (by show _ ≠ b0; omega)).trans hs.2.1, (Below.heap_setCell _ _ _ _ (by show _ ≠ b0; omega)).trans hs.2.2⟩)
      ?_ ⟨hI1, hL1, hK1⟩).mono ?_
    · rintro pre x W ⟨hi, hl, hk⟩ hlen
      have hlt : w.heap.size + 1 < W.heap.size := (Array.getElem?_eq_some_iff.1 hl).1
      have hy := run_yield (P := P) (args := encs x) hl (by rw [hrec]; exact hps x)
      rw [hrec] at hy
      refine ⟨fn, _, assign, body, hy, roundIn_of_wpIn hfn (hassign _ x W _ ⟨_, run_beginRound hl (by rw [hrec]), ?_⟩)⟩
      have hl2 : (W.putObj (w.heap.size + 1) (.loop { rec .ready none with state := .busy })).heap[w.heap.size + 1]? = some (.loop { rec .ready none with state := .busy }) := World.putObj_heap_same hlt
      have hk2 : (W.putObj (w.heap.size + 1) (.loop { rec .ready none with state := .busy })).heap[w.heap.size]? = some (.deferred (some [])) := (World.putObj_heap_other (by omega)).trans hk
      have hw2 : Kp W (W.putObj (w.heap.size + 1) (.loop { rec .ready none with state := .busy })) := hKb _ _ _ _ (by omega) hl rfl rfl
      refine wpIn_mono (hbody _ pre x _ (hI.putObj _ hi (by omega) hl rfl) hlen) ?_
      have fin : ∀ (jump : Option Code) (W3 : World), KeepsOthers (W.putObj (w.heap.size + 1) (.loop { rec .ready none with state := .busy })) W3 →
          (Instr.endRound (w.heap.size + 1) jump).run P W3 = .ok (.bool jump.isNone) (W3.putObj (w.heap.size + 1) (.loop (rec (if jump.isNone then .ready else .done) jump))) ∧
          W3.heap[w.heap.size + 1]? = some (.loop { rec .ready none with state := .busy }) ∧
          (W3.putObj (w.heap.size + 1) (.loop (rec (if jump.isNone then .ready else .done) jump))).heap[w.heap.size + 1]? = some (.loop (rec (if jump.isNone then .ready else .done) jump)) ∧
          (W3.putObj (w.heap.size + 1) (.loop (rec (if jump.isNone then .ready else .done) jump))).heap[w.heap.size]? = some (.deferred (some [])) := fun jump W3 hk3 => by
        have hl3 := hk3.same _ _ hl2 rfl
        have := run_endRound (P := P) jump hl3
        rw [hrec] at this ⊢
        exact ⟨this, by rw [hrec] at hl3; exact hl3, World.putObj_heap_same (Array.getElem?_eq_some_iff.1 hl3).1, (World.putObj_heap_other (by omega)).trans (hk3.same _ _ hk2 rfl)⟩
      rintro e a3 W3 hp
      cases e with
      | normal =>
        obtain ⟨hk3, hkp3, hi3⟩ := hp
        obtain ⟨hr, hl3, hl4, hk4⟩ := fin none W3 hk3
        exact ⟨_, _, hr, .inl ⟨rfl, ⟨hI.putObj _ hi3 (by omega) hl3 rfl, hl4, hk4⟩, hKt (hKt hw2 hkp3) (hKb _ _ _ _ (by omega) hl3 rfl rfl)⟩⟩
      | ret =>
        obtain ⟨hk3, hi3⟩ := hp
        obtain ⟨hr, hl3, hl4, hk4⟩ := fin (some .ret) W3 hk3
        exact ⟨_, _, hr, .inr ⟨rfl, .ret, (hIx _).putObj _ hi3 (by omega) hl3 rfl, hl4, hk4⟩⟩
      | exit id =>
        obtain ⟨hk3, hi3⟩ := hp
        obtain ⟨hr, hl3, hl4, hk4⟩ := fin (some (.exit id)) W3 hk3
        exact ⟨_, _, hr, .inr ⟨rfl, .exit id, (hIx _).putObj _ hi3 (by omega) hl3 rfl, hl4, hk4⟩⟩
      | goto t =>
        obtain ⟨hk3, hi3⟩ := hp
        obtain ⟨hr, hl3, hl4, hk4⟩ := fin (some (.goto t)) W3 hk3
        exact ⟨_, _, hr, .inr ⟨rfl, .goto t, (hIx _).putObj _ hi3 (by omega) hl3 rfl, hl4, hk4⟩⟩
      | panic ch => exact hp.elim
      | outgrown => exact hp.elim
    · rintro e W2 ⟨⟨v, rfl⟩, (⟨xs, hS, hi, hl, hk⟩ | ⟨pre, hSp, c, hi, hl, hk⟩)⟩
      · exact ⟨none, _, by have := run_endLoop (P := P) hl (by rw [hrec]; simp); rw [hrec] at this; exact this, hdone _ xs _ (Nat.le_refl _) hS (hI.putObj _ hi (by omega) hl rfl) ((World.putObj_heap_other (by omega)).trans hk)⟩
      · exact ⟨some c, _, by have := run_endLoop (P := P) hl (by rw [hrec]; simp); rw [hrec] at this; exact this, hstop _ c pre _ (Nat.le_refl _) hSp ((hIx c).putObj _ hi (by omega) hl rfl) ((World.putObj_heap_other (by omega)).trans hk)⟩
set_option maxHeartbeats 1000000 in
set_option maxRecDepth 100000 in
theorem index139 (a : ByteArray) (c : Int) (w : World) :
    Calls Tryz.prog 139 #[.string a, .int .u8 c] w fun e w' => e = .returned (.int .i64 (Lib.indexByte a.data.toList c.toNat.toUInt8)) ∧ w' = w := by
  go_enter Tryz.func139, Tryz.ntmps139
  go_wp2
  rw [run_callFunc_extern Tryz.func168 (by kernel_rfl) (by kernel_rfl) (by kernel_rfl) (e := Extern.BytealgIndexByte.indexByte) (by kernel_rfl), Lib.run_indexByteString]
  simp only [Result.andThen]
  rw [Oper.upon_value]
  go_wp2
  go_ret
  exact ⟨rfl, rfl⟩
set_option maxHeartbeats 1000000 in
set_option maxRecDepth 100000 in
theorem index162 (a : ByteArray) (w : World) :
    Calls Tryz.prog 162 #[.string a, .string ⟨#[10]⟩] w fun e w' => e = .returned (.int .i64 (Lib.indexByte a.data.toList 10)) ∧ w' = w := by
  cases hq : ([10] == a.toList) with
  | true =>
    have h1 : a.data.toList = [10] := by
      have := eq_of_beq hq
      rw [this]; exact (ByteArray.toList_eq a).symm
    go_enter Tryz.func162, Tryz.ntmps162
    go_wp2
    go_ret
    refine ⟨?_, rfl⟩
    rw [h1]; rfl
  | false =>
    go_enter Tryz.func162, Tryz.ntmps162
    go_wp2_with (go_at_call 139; refine (index139 _ _ _).mono ?_; rintro e w' ⟨rfl, rfl⟩)
    go_ret
    exact ⟨rfl, rfl⟩
set_option maxHeartbeats 1000000 in
set_option maxRecDepth 100000 in
theorem index138 (a : ByteArray) (w : World) :
    Calls Tryz.prog 138 #[.string a, .string ⟨#[10]⟩] w fun e w' => e = .returned (.int .i64 (Lib.indexByte a.data.toList 10)) ∧ w' = w := by
  go_enter Tryz.func138, Tryz.ntmps138
  go_wp2_with (go_at_call 162; refine (index162 _ _).mono ?_; rintro e w' ⟨rfl, rfl⟩)
  go_ret
  exact ⟨rfl, rfl⟩
end Go.Proofs.YtannopdcbocngaaGreatDoor
namespace Go.Proofs.YtannopdcbocngaaGreatDoor
open Go Go.Abs Go.RowKit Go.Shelf
attribute [local go_sem] Oper.semAt_some
abbrev BytesL := List UInt8
abbrev PB := { x : BytesL // x.length ≤ 900000 }
abbrev encS (x : PB) : Array Value := #[.string (bs x.1)]
def cellLen (b0 : Nat) (w : World) : Nat := match w.cell? ⟨b0, 0, none⟩ with
  | some (.string s) => s.size
  | _ => 0
theorem bs_extract (c : BytesL) (m n : Nat) : (bs c).extract m n = bs ((c.take n).drop m) := by
  apply ByteArray.ext
  simp [bs, List.extract_eq_take_drop, List.drop_take]
theorem cellLen_of {b0 : Nat} {w : World} {s : BytesL} (h : Boxed w b0 9 (.string (bs s))) : cellLen b0 w = s.length := by
  unfold cellLen
  rw [h.cell]
  rfl
theorem boxed_other {W : World} {B B' : Nat} {t : TypeId} {v : Value} (h : Boxed W B t v) (hne : B ≠ B') (u : Value) : Boxed (W.setCell ⟨B', 0, none⟩ u) B t v :=
  (Below.heap_setCell _ _ _ _ (by show _ ≠ B'; omega)).trans h
structure Kp (b0 : Nat) (A B : World) : Prop where
  k0 : B.heap[b0]? = A.heap[b0]?
  k1 : B.heap[b0 + 1]? = A.heap[b0 + 1]?
  k2 : B.heap[b0 + 2]? = A.heap[b0 + 2]?
set_option maxRecDepth 100000 in
set_option maxHeartbeats 1000000 in
theorem iter140 (n : Nat) (hn : 3 ≤ n) (l b0 N : Nat) (s0 : BytesL) (hN : (cutL 10 s0).length ≤ N) (hlen0 : s0.length ≤ 900000) (J Jx : List PB → World → Prop) (W : World) (hJ : AbidesFrom W.heap.size J) (hJc : ∀ s A v, J s A → J s (A.setCell ⟨b0, 0, none⟩ v))
    (hY : ∀ pre x W1, J pre W1 → pre.length < N → YieldAt Fence.wide (n - 1) Tryz.prog l (encS x) W1 fun e W' =>
      (e = .returned (.bool true) ∧ J (pre ++ [x]) W' ∧ Kp b0 W1 W') ∨ (e = .returned (.bool false) ∧ Jx (pre ++ [x]) W'))
    (hB : Boxed W b0 9 (.string (bs s0))) (hB1 : Boxed W (b0 + 1) 9 (.string ⟨#[10]⟩)) (hB2 : Boxed W (b0 + 2) 3 (.int .i64 0)) (h0 : J [] W) :
    CallsIn Fence.wide n Tryz.prog 140 #[.func (.yield l) #[] #[], .pointer (some ⟨b0 + 1, 0, none⟩), .pointer (some ⟨b0, 0, none⟩), .pointer (some ⟨b0 + 2, 0, none⟩)] W fun e W' => (∃ v, e = .returned v) ∧
      ((∃ xs : List PB, xs.map (·.1) = cutL 10 s0 ∧ J xs W') ∨ (∃ pre : List PB, pre.map (·.1) <+: cutL 10 s0 ∧ Jx pre W')) := by
  refine callsIn_of_wp Tryz.func140 rfl trivial ?_ rfl
  simp only [Tryz.ntmps140, List.size_toArray, List.length_cons, List.length_nil, Nat.reduceAdd, Nat.reduceSub, Array.replicate_succ, Array.replicate_zero, List.push_toArray, List.append_toArray, List.nil_append, List.cons_append]
  have c1 := hB1.cell
  gi_wp2
  gi_loopw [7] (fun _ wr => ∃ (pre : List PB) (rest : BytesL), Boxed wr b0 9 (.string (bs rest)) ∧ Boxed wr (b0 + 1) 9 (.string ⟨#[10]⟩) ∧ Boxed wr (b0 + 2) 3 (.int .i64 0) ∧ rest.length ≤ 900000 ∧ cutL 10 s0 = pre.map (·.1) ++ cutL 10 rest ∧ J pre wr)
    (fun _ wr => cellLen b0 wr)
  case atStart =>
    exact ⟨[], s0, hB, hB1, hB2, hlen0, rfl, h0⟩
  case round =>
    obtain ⟨pre, rest, hb, hb1, hb2, hrl, hp, hJs⟩ := hrel
    have hc := hb.cell
    have hf := hb.frozen
    have hc1 := hb1.cell
    have hc2 := hb2.cell
    gi_wp2
    refine ⟨trivial, fun h => (by cases h), (callsIn_wide.2 (index138 _ _)).mono ?_⟩
    rintro e w1 ⟨rfl, rfl⟩
    have hge := Lib.indexByte_ge rest 10
    have hlen : pre.length < N := by
      have := congrArg List.length hp
      have := List.length_pos_iff.2 (cutL_ne 10 rest)
      simp at *
      omega
    by_cases hi : Lib.indexByte rest 10 < 0
    · have hi' : Lib.indexByte (bs rest).data.toList 10 < 0 := hi
      obtain ⟨fn, tmps, assign, body, hy, hR⟩ := hY pre ⟨rest, hrl⟩ w1 hJs hlen
      have hcut : cutL 10 s0 = (pre ++ [⟨rest, hrl⟩] : List PB).map (·.1) := by rw [hp, cutL_none 10 rest hi]; simp
      gi_wp2
      refine ⟨fun h => (by cases h), hR.mono ?_⟩
      rintro e W3 (⟨rfl, hJ3, hk3⟩ | ⟨rfl, hJx3⟩)
      · gi_wp2
        go_end0
        exact ⟨⟨_, rfl⟩, .inl ⟨_, hcut.symm, hJ3⟩⟩
      · gi_wp2
        go_end0
        exact ⟨⟨_, rfl⟩, .inr ⟨_, by rw [hcut]; exact List.prefix_refl _, hJx3⟩⟩
    · obtain ⟨k, hk⟩ : ∃ k : Nat, Lib.indexByte rest 10 = k := ⟨(Lib.indexByte rest 10).toNat, by omega⟩
      have hle : k < rest.length := by
        have := Lib.indexByte_some hk
        exact (List.getElem?_eq_some_iff.1 this.1).1
      have hk' : Lib.indexByte (bs rest).data.toList 10 = k := hk
      have hkl : (rest.take k).length ≤ 900000 := by simp; omega
      have hcut : cutL 10 s0 = (pre ++ [⟨rest.take k, hkl⟩] : List PB).map (·.1) ++ cutL 10 (rest.drop (k + 1)) := by rw [hp, cutL_some 10 rest k hk]; simp
      obtain ⟨fn, tmps, assign, body, hy, hR⟩ := hY pre ⟨rest.take k, hkl⟩ w1 hJs hlen
      have hsz : (bs rest).size = rest.length := rfl
      have hw0 : IntKind.i64.wrap ((k : Int) + 0) = (k : Int) := by rw [Int.add_zero]; exact wrapS (by omega) (by omega)
      have hw1 : IntKind.i64.wrap ((k : Int) + 1) = ((k + 1 : Nat) : Int) := by rw [wrapS (by omega) (by omega)]; omega
      rw [hk']
      have hn0 : ¬ ((k : Int) < 0) := by omega
      have hb0 : (k : Int) ≤ (bs rest).size := by rw [hsz]; omega
      simp only [encS] at hy
      rw [show bs (rest.take k) = (bs rest).extract 0 k by rw [bs_extract]; rfl] at hy
      gi_wp2
      refine ⟨fun h => (by cases h), hR.mono ?_⟩
      rintro e W3 (⟨rfl, hJ3, hk3⟩ | ⟨rfl, hJx3⟩)
      · have hb3 : Boxed W3 b0 9 (.string (bs rest)) := hk3.k0.trans hb
        have hb31 : Boxed W3 (b0 + 1) 9 (.string ⟨#[10]⟩) := hk3.k1.trans hb1
        have hb32 : Boxed W3 (b0 + 2) 3 (.int .i64 0) := hk3.k2.trans hb2
        have hc3 := hb3.cell
        have hf3 := hb3.frozen
        have hc31 := hb31.cell
        have hb4 : ((k + 1 : Nat) : Int) ≤ (bs rest).size := by rw [hsz]; omega
        gi_wp2
        go_roundw
        case rel =>
          refine ⟨pre ++ [⟨rest.take k, hkl⟩], rest.drop (k + 1), ?_, boxed_other hb31 (by omega) _, boxed_other hb32 (by omega) _, by simp; omega, hcut, hJc _ _ _ hJ3⟩
          rw [bs_extract, List.take_length]
          exact (show Boxed W3 b0 9 (.string (bs rest)) from hb3).set _
        case measure =>
          have h1 := cellLen_of ((show Boxed W3 b0 9 (.string (bs rest)) from hb3).set (.string (bs (rest.drop (k + 1)))))
          rw [bs_extract, List.take_length, h1, cellLen_of (show Boxed w1 b0 9 (.string (bs rest)) from hb)]
          simp; omega
      · gi_wp2
        refine bodyPost_ret (results_none rfl _ _ _) rfl ?_
        exact ⟨⟨_, rfl⟩, .inr ⟨_, ⟨cutL 10 (rest.drop (k + 1)), hcut.symm⟩, hJx3⟩⟩
end Go.Proofs.YtannopdcbocngaaGreatDoor
set_option linter.defProp false
namespace Go.Proofs.YtannopdcbocngaaGreatDoor
open Go Go.Abs
def rfBc : Code → Code
  | .rangeFunc _ _ _ b => b
  | .block _ c => rfBc c
  | .seq a b => match rfBc a with | .skip => rfBc b | c => c
  | _ => .skip
def rfHas : Code → Bool
  | .rangeFunc .. => true
  | .block _ c => rfHas c
  | .seq a b => rfHas a || rfHas b
  | _ => false
def rfRc : Code → Code
  | .seq a b => if rfHas a then b else rfRc b
  | _ => .skip
def rfB (f : Func) : Code := match f.body with | some c => rfBc c | none => .skip
def rfR (f : Func) : Code := match f.body with | some c => rfRc c | none => .skip
def q28b_0 : ACode :=
 (.seq (.region [
 ox (.store 1 (.tmp 2) (.cst (.slice .c0 []))),
 ox (.store 1 (.tmp 3) (.cst (.int .i64 11)))] false []) (.ret))
def q28b_1 : ACode :=
 (.region [
 ob 20 (.load1 (.tmp 4)),
 ob 21 (.loadA 17 (.tmp 6)),
 ob 22 (.lits 17 [(.tmp 21)]),
 ob 23 (.append 17 200 (.tmp 20) (.tmp 22)),
 ox (.store 1 (.tmp 4) (.tmp 23))] false [])
def q28b_2 : ACode :=
 (.seq (.seq (.region [
 ob 18 (.mv (.tmp 7)),
 ob 19 (.not (.tmp 18))] false [2, 3, 4, 6, 19]) (.cond (.tmp 19) q28b_0 (.skip))) q28b_1)
def q28b_3 : ACode :=
 (.seq (.region [
 ob 14 (.mv (.tmp 5)),
 ob 15 (.call 68 [(.tmp 14)]),
 ob 13 (.mv (.tmp 15)),
 ob 16 (.extract (.tmp 13) 0),
 ob 17 (.extract (.tmp 13) 1),
 ob 6 (.box0 [(.int .i64 0), (.int .i64 0), (.int .i64 0), (.int .i64 0), (.str []), (.str []), (.int .i64 0), (.int .i64 0), (.int .i64 0), (.slice .c0 []), (.int .i64 0), (.int .i64 0), (.int .i64 0), (.int .i64 0), (.int .i64 0), (.slice .c0 []), (.slice .c0 [])]),
 ox (.store 17 (.tmp 6) (.tmp 16)),
 ob 7 (.mv (.tmp 17))] false [2, 3, 4, 6, 7]) q28b_2)
def E28b := And.intro (exK_head q28b_0.eq_1) (And.intro (exK_head q28b_1.eq_1) (And.intro (exK_head q28b_2.eq_1) (exK_head q28b_3.eq_1)))
def ann28b : Ann := { n := 29, own := [], lv := [(4, [2, 3, 4, 5, 12]), (5, [2, 3, 4, 6, 7]), (6, [2, 3, 4, 6, 19]), (7, []), (8, [])], lp := [] }
def cd28b : ACode :=
  (.block 1 (.seq (.seq (.region [
  ob 11 (.mv (.tmp 5)),
  ob 12 (.bin .eql (.tmp 11) (.cst (.str [])))] false [2, 3, 4, 5, 12]) (.cond (.tmp 12) (.exit 1) (.skip))) q28b_3))
theorem ok28b : comp Tryz.prog ann28b (rfB Tryz.f28) = some cd28b := by kernel_rfl
def q28r_0 : ACode :=
 (.seq (.region [
 ox (.store 1 (.tmp 2) (.cst (.slice .c0 []))),
 ox (.store 1 (.tmp 3) (.cst (.int .i64 11)))] false [2, 3]) (.ret))
def q28r_1 : ACode :=
 (.seq (.region [
 ob 28 (.load1 (.tmp 4)),
 ox (.store 1 (.tmp 2) (.tmp 28)),
 ox (.store 1 (.tmp 3) (.cst (.int .i64 0)))] false [2, 3]) (.ret))
def E28r := And.intro (exK_head q28r_0.eq_1) (exK_head q28r_1.eq_1)
def ann28r : Ann := { n := 29, own := [], lv := [(9, [2, 3, 4, 27]), (10, [2, 3]), (11, [2, 3])], lp := [] }
def cd28r : ACode :=
  (.seq (.seq (.region [
  ob 24 (.load1 (.tmp 4)),
  ob 25 (.call 19 [(.tmp 24)]),
  ob 26 (.mv (.tmp 0)),
  ob 27 (.bin .neq (.tmp 25) (.tmp 26))] false [2, 3, 4, 27]) (.cond (.tmp 27) q28r_0 (.skip))) q28r_1)
theorem ok28r : comp Tryz.prog ann28r (rfR Tryz.f28) = some cd28r := by kernel_rfl
end Go.Proofs.YtannopdcbocngaaGreatDoor
namespace Go.Proofs.YtannopdcbocngaaGreatDoor
open Go Go.Abs
attribute [local irreducible] acall callOp owhen obind
def Mh (evs : List Event) : AMem := [.cells [.slice .c0 []], .cells [.int .i64 0], .cells [.slice (.own 3) (evs.map eEv)], .tick 17 evs.length]
def Eh (s x : Bytes) : Env := [(0, .str s), (2, .ptr 0 0), (3, .ptr 1 0), (4, .ptr 2 0), (5, .str x)]
theorem round_skip (s : Bytes) (evs : List Event) : ∃ env, aexec (acall tab) cd28b (Eh s []) (Mh evs) = some ⟨.normal, env, Mh evs⟩ := by
  refine ⟨?_, ?_⟩
  rotate_left
  · simp only [cd28b, Eh, Mh, aexec, aregion, goOn, outOf, EVT, EVD, ↓reduceIte, Nat.reduceEqDiff, reduceCtorEq, Nat.reduceAdd, Nat.reduceLeDiff, ne_eq, Nat.reduceLT, Int.reduceLT, Int.reduceLE, Int.reduceNeg]
    rfl
theorem round_bad (s x : Bytes) (evs : List Event) (hx : x ≠ []) (hl : x.length ≤ 900000) (hb : (evOf x).2 = false) :
    ∃ env m, aexec (acall tab) cd28b (Eh s x) (Mh evs) = some ⟨.ret, env, .cells [.slice .c0 []] :: .cells [.int .i64 11] :: .cells [.slice (.own 3) (evs.map eEv)] :: .tick 17 evs.length :: m⟩ := by
  have h68 := fun M => k68 x hl M
  have hx' : (x == []) = false := by simpa using hx
  rw [hb] at h68
  simp only [eEv, eEvC] at h68
  refine ⟨?_, ?_, ?_⟩
  rotate_left
  rotate_left
  · simp only [cd28b, q28b_0, q28b_1, q28b_2, q28b_3, Eh, Mh, aexec, aregion, goOn, outOf, hx', h68, EVT, EVD, ↓reduceIte, Nat.reduceEqDiff, reduceCtorEq, Nat.reduceAdd, Nat.reduceLeDiff, ne_eq, Nat.reduceLT, Int.reduceLT, Int.reduceLE, Int.reduceNeg]
    rfl
theorem round_good (s x : Bytes) (evs : List Event) (hx : x ≠ []) (hl : x.length ≤ 900000) (hb : (evOf x).2 = true) (hn : evs.length ≤ 1000000) :
    ∃ env m, aexec (acall tab) cd28b (Eh s x) (Mh evs) = some ⟨.normal, env, Mh (evs ++ [(evOf x).1]) ++ m⟩ := by
  have h68 := fun M => k68 x hl M
  have hx' : (x == []) = false := by simpa using hx
  have hr := roomO (a := evs.length + 1) (b := 200) (by omega) (by omega)
  have hwd : wid (List.map eEv evs) 17 = True := by
    simp only [eq_iff_iff, iff_true]
    intro y hy
    obtain ⟨z, _, rfl⟩ := List.mem_map.1 hy
    rfl
  rw [hb] at h68
  simp only [eEv, eEvC] at h68
  refine ⟨?_, ?_, ?_⟩
  rotate_left
  rotate_left
  · simp only [cd28b, q28b_0, q28b_1, q28b_2, q28b_3, Eh, Mh, aexec, aregion, goOn, outOf, hx', h68, hr, hwd, List.map_append, List.map_cons, List.map_nil, EVT, EVD, ↓reduceIte, Nat.reduceEqDiff, reduceCtorEq, Nat.reduceAdd, Nat.reduceLeDiff, ne_eq, Nat.reduceLT, Int.reduceLT, Int.reduceLE, Int.reduceNeg]
    rfl
def Er (s : Bytes) : Env := [(0, .str s), (2, .ptr 0 0), (3, .ptr 1 0), (4, .ptr 2 0)]
theorem rest_ok (s : Bytes) (evs : List Event) (hok : ∀ e, e ∈ evs → EvOk e) (hl : evs.length ≤ 100000) (h : histN evs = s) :
    ∃ m, aexec (acall tab) cd28r (Er s) (Mh evs) = some ⟨.ret, [(2, .ptr 0 0), (3, .ptr 1 0)], .cells [.slice (.own 3) (evs.map eEv)] :: .cells [.int .i64 0] :: m⟩ := by
  have h19 := fun M => k19 evs hok hl M
  have hb : (histN evs != s) = false := by simp [h]
  refine ⟨?_, ?_⟩
  rotate_left
  · simp only [cd28r, q28r_0, q28r_1, Er, Mh, aexec, aregion, goOn, outOf, h19, hb, EVT, EVD, ↓reduceIte, Nat.reduceEqDiff, reduceCtorEq, Nat.reduceAdd, Nat.reduceLeDiff, ne_eq, Nat.reduceLT, Int.reduceLT, Int.reduceLE, Int.reduceNeg]
    rfl
theorem rest_bad (s : Bytes) (evs : List Event) (hok : ∀ e, e ∈ evs → EvOk e) (hl : evs.length ≤ 100000) (h : ¬ histN evs = s) :
    ∃ m, aexec (acall tab) cd28r (Er s) (Mh evs) = some ⟨.ret, [(2, .ptr 0 0), (3, .ptr 1 0)], .cells [.slice .c0 []] :: .cells [.int .i64 11] :: m⟩ := by
  have h19 := fun M => k19 evs hok hl M
  have hb : (histN evs != s) = true := by simp [h]
  refine ⟨?_, ?_⟩
  rotate_left
  · simp only [cd28r, q28r_0, q28r_1, Er, Mh, aexec, aregion, goOn, outOf, h19, hb, EVT, EVD, ↓reduceIte, Nat.reduceEqDiff, reduceCtorEq, Nat.reduceAdd, Nat.reduceLeDiff, ne_eq, Nat.reduceLT, Int.reduceLT, Int.reduceLE, Int.reduceNeg]
    rfl
end Go.Proofs.YtannopdcbocngaaGreatDoor
namespace Go.Proofs.YtannopdcbocngaaGreatDoor
open Go Go.Abs Go.RowKit Go.Shelf
theorem repP_mono' {w w' : World} {saf saf' : Nat → Nat → Prop} (h : ∀ b off v, saf b off → w.cell? ⟨b, off, none⟩ = some v → saf' b off ∧ w'.cell? ⟨b, off, none⟩ = some v) {x : AVal} {v : Value} (hr : RepP w saf x v) : RepP w' saf' x v := by
  induction hr with
  | bool b => exact .bool b
  | int k n => exact .int k n
  | str s => exact .str s
  | raw v h1 => exact .raw v h1
  | slice xs A len cap b off sz vs hl hc ha hz hs hr ih =>
    refine .slice xs A len cap b off sz vs hl hc ha hz (fun i x k c hx hk => ?_) (fun i x k c hx hk => ih i x k c hx hk)
    obtain ⟨e, s⟩ := hs i x k c hx hk
    obtain ⟨s', e'⟩ := h _ _ _ s e
    exact ⟨e', s'⟩
def flatC : AVal → Bool
  | .int .. | .str _ | .bool _ | .slice .. | .any => true
  | _ => false
def FlatM (M : AMem) : Prop := ∀ (i : Nat) (bx : ABox), M[i]? = some bx → (∃ cs, bx = ABox.cells cs ∧ ∀ c, c ∈ cs → flatC c = true) ∨ ∃ sz n, bx = ABox.tick sz n
structure Chg (j : J) (M : AMem) (A B : World) (r : Nat → Prop) : Prop where
  size : A.heap.size ≤ B.heap.size
  blk : ∀ b, b < A.heap.size → ¬ r b → B.heap[b]? = A.heap[b]?
  cell : ∀ b off v, r b → Saf j M A b off → A.cell? ⟨b, off, none⟩ ≠ some v
  rng : ∀ i b, i < M.length → j i = some b → ¬ r b
section
variable {j : J} {M : AMem} {A B : World} {r : Nat → Prop}
theorem Chg.saf (c : Chg j M A B r) : ∀ b off v, Saf j M A b off → A.cell? ⟨b, off, none⟩ = some v → Saf j M B b off ∧ B.cell? ⟨b, off, none⟩ = some v := fun b off v hs hv =>
  ⟨⟨Nat.lt_of_lt_of_le hs.lt c.size, hs.ids, hs.nx⟩, by rw [World.cell?_of_block (c.blk b hs.lt fun h => c.cell b off v h hs hv)]; exact hv⟩
theorem Chg.rep (c : Chg j M A B r) (hr : Rel j M A) {x : AVal} {v : Value} (hx : flatC x = true) (h : Rep j M A x v) : Rep j M B x v := by
  cases h with
  | plain h => exact .plain (repP_mono' c.saf h)
  | c0 A => exact .c0 A
  | any v => exact .any v
  | own hk hn h ht =>
    refine .own hk hn (repP_mono' c.saf h) fun e => ?_
    rcases ht e with h | ⟨b, cap, vs, t, h1, h2, h3, h4⟩
    · exact .inl h
    · have hlt := hr.lt _ _ (lt_of_some hk) h1
      exact .inr ⟨b, cap, vs, t, h1, h2, (c.blk b hlt (c.rng _ _ (lt_of_some hk) h1)).trans h3, h4⟩
  | _ => cases hx
theorem Chg.rel (c : Chg j M A B r) (hM : FlatM M) (hr : Rel j M A) : Rel j M B where
  inj := hr.inj
  lt := fun i b hi hj => Nat.lt_of_lt_of_le (hr.lt i b hi hj) c.size
  fix := fun i bx h hf => by
    obtain ⟨b, h1, h2⟩ := hr.fix i bx h hf
    refine ⟨b, h1, ?_⟩
    have hlt := hr.lt i b (lt_of_some h) h1
    have hb := c.blk b hlt (c.rng i b (lt_of_some h) h1)
    rcases hM i bx h with ⟨cs, rfl, hcs⟩ | ⟨sz, n, rfl⟩
    · obtain ⟨vs, t, h3, h4, h5⟩ := h2
      exact ⟨vs, t, hb.trans h3, h4, fun q x v hx hv => c.rep hr (hcs x (List.mem_of_getElem? hx)) (h5 q x v hx hv)⟩
    · trivial
  tick := fun i sz n b h hj => by
    obtain ⟨vs, t, h1⟩ := hr.tick i sz n b h hj
    exact ⟨vs, t, (c.blk b (hr.lt i b (lt_of_some h) hj) (c.rng i b (lt_of_some h) hj)).trans h1⟩
  arr := fun i sz ver xs h => by
    rcases hM i _ h with ⟨cs, h, _⟩ | ⟨sz, n, h⟩ <;> cases h
  xdis := hr.xdis
  xlt := fun b off hx => Nat.lt_of_lt_of_le (hr.xlt b off hx) c.size
theorem Chg.glob (c : Chg j M A B r) (hG : Glob j M A) (h0 : ∀ b vs, Globs.g b = some vs → ¬ r b) : Glob j M B where
  g := fun b vs k v hb hk => let ⟨h1, h2⟩ := hG.g b vs k v hb hk; c.saf b k v h1 h2
  n := fun b vs hb => by
    obtain ⟨us, t, fr, h1, h2⟩ := hG.n b vs hb
    exact ⟨us, t, fr, (c.blk b (lt_of_block h1) (h0 b vs hb)).trans h1, h2⟩
  q := fun b p hb => by
    obtain ⟨v, h0, h1, h2⟩ := hG.q b p hb
    obtain ⟨h3, h4⟩ := c.saf b 0 v h1 h2
    exact ⟨v, h0, h3, h4⟩
end
theorem flat_Mh (evs : List Event) : FlatM (Mh evs) := by
  intro i bx h
  match i, h with
  | 0, h => cases h; exact .inl ⟨_, rfl, fun c hc => by simp at hc; subst hc; rfl⟩
  | 1, h => cases h; exact .inl ⟨_, rfl, fun c hc => by simp at hc; subst hc; rfl⟩
  | 2, h => cases h; exact .inl ⟨_, rfl, fun c hc => by simp at hc; subst hc; rfl⟩
  | 3, h => cases h; exact .inr ⟨_, _, rfl⟩
  | n + 4, h => cases h
def evGo : List BytesL → Option (List Event)
  | [] => some []
  | x :: r => if x = [] then evGo r else if (evOf x).2 = true then (evGo r).map ((evOf x).1 :: ·) else none
theorem evGo_app : ∀ a b : List BytesL, evGo (a ++ b) = (evGo a).bind fun l => (evGo b).map (l ++ ·)
  | [], b => by simp [evGo]
  | x :: r, b => by
    simp only [List.cons_append, evGo]
    split
    · exact evGo_app r b
    · split
      · rw [evGo_app r b]
        cases evGo r with
        | none => rfl
        | some l => simp; rfl
      · rfl
theorem evGo_len : ∀ {a : List BytesL} {l : List Event}, evGo a = some l → l.length ≤ a.length
  | [], l, h => by simp [evGo] at h; subst h; simp
  | x :: r, l, h => by
    simp only [evGo] at h
    split at h
    · have := evGo_len h; simp; omega
    · split at h
      · obtain ⟨l', h1, rfl⟩ := Option.map_eq_some_iff.1 h
        have := evGo_len h1; simp; omega
      · cases h
def rdHist (s : BytesL) : List Event × Int := match evGo (cutL 10 s) with
  | none => ([], 11)
  | some l => if histN l = s then (l, 0) else ([], 11)
structure InvH (j : J) (w : World) (pre : List BytesL) (evs : List Event) (jx : J) (W : World) : Prop where
  go : evGo pre = some evs
  rel : Rel jx (Mh evs) W
  gl : Glob jx (Mh evs) W
  X : ∀ b off, jx.X b off ↔ j.X b off ∨ (w.heap.size + 3 ≤ b ∧ b < w.heap.size + 6)
  j0 : jx 0 = some w.heap.size
  j1 : jx 1 = some (w.heap.size + 1)
  j2 : jx 2 = some (w.heap.size + 2)
  j3 : ∀ b, jx 3 = some b → w.heap.size ≤ b
  below : Below w.heap.size w W
  sz : w.heap.size + 6 ≤ W.heap.size
end Go.Proofs.YtannopdcbocngaaGreatDoor
namespace Go.Proofs.YtannopdcbocngaaGreatDoor
open Go Go.Abs Go.RowKit Go.Shelf
theorem cell_none {A : World} {b off : Nat} {o : Obj} (h : A.heap[b]? = some o) (ho : o.isCells = false) (v : Value) : A.cell? ⟨b, off, none⟩ ≠ some v := by
  intro e
  simp only [World.cell?, h] at e
  cases o <;> simp_all [Obj.isCells]
section
variable {j jx : J} {w A B : World} {pre : List BytesL} {evs : List Event}
theorem InvH.cells (hI : InvH j w pre evs jx A) : ∀ i b, i < 4 → jx i = some b → ∃ vs t, A.heap[b]? = some (.cells vs t (0, 0)) := by
  intro i b hi hj
  match i, hi with
  | 0, _ => obtain ⟨b', vs, t, h1, h2, _⟩ := hI.rel.box 0 _ rfl; rw [hj] at h1; cases h1; exact ⟨vs, t, h2⟩
  | 1, _ => obtain ⟨b', vs, t, h1, h2, _⟩ := hI.rel.box 1 _ rfl; rw [hj] at h1; cases h1; exact ⟨vs, t, h2⟩
  | 2, _ => obtain ⟨b', vs, t, h1, h2, _⟩ := hI.rel.box 2 _ rfl; rw [hj] at h1; cases h1; exact ⟨vs, t, h2⟩
  | 3, _ => exact hI.rel.tick 3 _ _ b rfl hj
theorem InvH.chg (hI : InvH j w pre evs jx A) (hG : Glob j [] w) {r : Nat → Prop} (c : Chg jx (Mh evs) A B r) (hr : ∀ b, r b → w.heap.size ≤ b) (ho : B.os = A.os) (ht : B.tape = A.tape) (hp : B.output = A.output) : InvH j w pre evs jx B where
  go := hI.go
  rel := c.rel (flat_Mh evs) hI.rel
  gl := c.glob hI.gl fun b vs hb hrb => by
    obtain ⟨us, t, fr, h1, _⟩ := hG.n b vs hb
    have := lt_of_block h1
    have := hr b hrb
    omega
  X := hI.X
  j0 := hI.j0
  j1 := hI.j1
  j2 := hI.j2
  j3 := hI.j3
  below := ⟨ho.trans hI.below.os, ht.trans hI.below.tape, hp.trans hI.below.output, Nat.le_trans hI.below.size c.size, fun k hk => by
    have := hI.below.size
    rw [c.blk k (by omega) fun h => by have := hr k h; omega]
    exact hI.below.block k hk⟩
  sz := Nat.le_trans hI.sz c.size
theorem InvH.own (hG : Glob j [] w) : OwnFrom (w.heap.size + 6) (fun pre W => ∃ evs jx, InvH j w pre evs jx W) := by
  rintro s A B row ⟨evs, jx, hI⟩ hg hr
  refine ⟨evs, jx, hI.chg hG (r := fun b => some b = row) ⟨hg.size, fun b hb hn => hg.block b hb hn, ?_, ?_⟩ ?_ hg.os hg.tape hg.output⟩
  · intro b off v e _
    obtain ⟨_, o, h1, h2⟩ := hr b e.symm
    exact cell_none h1 h2 v
  · intro i b hi hj e
    obtain ⟨_, o, h1, h2⟩ := hr b e.symm
    obtain ⟨vs, t, h3⟩ := hI.cells i b hi hj
    rw [h3] at h1; cases h1; cases h2
  · intro b e
    obtain ⟨h1, _⟩ := hr b e.symm
    omega
theorem InvH.cell (hG : Glob j [] w) (s : List BytesL) (A : World) (v : Value) (h : ∃ evs jx, InvH j w s evs jx A) : ∃ evs jx, InvH j w s evs jx (A.setCell ⟨w.heap.size + 3, 0, none⟩ v) := by
  obtain ⟨evs, jx, hI⟩ := h
  have hg := grownBy_setCell' A (w.heap.size + 3) v
  have hX : ∀ off, jx.X (w.heap.size + 3) off := fun off => (hI.X _ _).2 (.inr (by omega))
  refine ⟨evs, jx, hI.chg hG (r := fun b => b = w.heap.size + 3) ⟨hg.size, fun b hb hn => hg.block b hb (fun e => hn (by injection e)), ?_, ?_⟩ ?_ hg.os hg.tape hg.output⟩
  · rintro b off v rfl hs
    exact absurd (hX off) hs.nx
  · rintro i b hi hj rfl
    exact hI.rel.xdis i _ hi hj 0 (hX 0)
  · intro b e; omega
theorem InvH.out {j' : J} {M' : AMem} {W' : World} (hI : InvH j w pre evs jx A) (hx : Ext jx (Mh evs) A j' M' W') : KeepsOthers A W' ∧ Kp (w.heap.size + 3) A W' ∧ Below w.heap.size w W' := by
  have hold : ∀ b, b < A.heap.size → (∀ vs t, A.heap[b]? ≠ some (.cells vs t (0, 0))) → W'.heap[b]? = A.heap[b]? := fun b hb hn => (hx.old b hb fun i hi hj => by
    obtain ⟨vs, t, h⟩ := hI.cells i b hi hj
    exact hn vs t h).1
  have hXb : ∀ b, w.heap.size + 3 ≤ b → b < w.heap.size + 6 → W'.heap[b]? = A.heap[b]? := fun b h1 h2 => (hx.old b (by have := hI.sz; omega) fun i hi hj => hI.rel.xdis i b hi hj 0 ((hI.X b 0).2 (.inr ⟨h1, h2⟩))).1
  refine ⟨⟨hx.size, fun k o hk ho => ?_⟩, ⟨hXb _ (by omega) (by omega), hXb _ (by omega) (by omega), hXb _ (by omega) (by omega)⟩, ⟨hx.os.trans hI.below.os, hx.tape.trans hI.below.tape, hx.output.trans hI.below.output, Nat.le_trans hI.below.size hx.size, fun k hk => ?_⟩⟩
  · rw [hold k (lt_of_block hk) fun vs t h => by rw [hk] at h; cases h; cases ho]
    exact hk
  · have := hI.below.size
    rw [(hx.old k (by omega) fun i hi hj => ?_).1]
    · exact hI.below.block k hk
    · match i, hi with
      | 0, _ => rw [hI.j0] at hj; injection hj with hj; omega
      | 1, _ => rw [hI.j1] at hj; injection hj with hj; omega
      | 2, _ => rw [hI.j2] at hj; injection hj with hj; omega
      | 3, _ => have := hI.j3 k hj; omega
theorem backM_Mh (evs : List Event) (m : AMem) : backM 4 (Mh evs ++ m) = Mh evs := rfl
theorem InvH.round {j' : J} {m : AMem} {W' : World} {evs' : List Event} {x : BytesL} (hI : InvH j w pre evs jx A) (hgo : evGo (pre ++ [x]) = some evs') (hr : Rel j' (Mh evs' ++ m) W') (hx : Ext jx (Mh evs) A j' (Mh evs' ++ m) W') :
    InvH j w (pre ++ [x]) evs' j' W' := by
  have hb : Rel j' (backM 4 (Mh evs' ++ m)) W' := back_rel (by simp [Mh]) hr
  have hx4 : Ext jx (Mh evs) A j' (backM 4 (Mh evs' ++ m)) W' := back_ext (by simp [Mh]) rfl hx
  rw [backM_Mh] at hb hx4
  obtain ⟨_, _, hbel⟩ := hI.out hx
  refine ⟨hgo, hb, hI.gl.mono hx4, fun b off => by rw [hx.X]; exact hI.X b off, ?_, ?_, ?_, ?_, hbel, Nat.le_trans hI.sz hx.size⟩
  · rw [(hx.fix 0 _ rfl rfl).1]; exact hI.j0
  · rw [(hx.fix 1 _ rfl rfl).1]; exact hI.j1
  · rw [(hx.fix 2 _ rfl rfl).1]; exact hI.j2
  · intro b hb3
    rcases Nat.lt_or_ge b w.heap.size with h | h
    · exfalso
      have := hI.below.size
      refine (hx4.old b (by omega) fun i hi hj => ?_).2 3 (by simp [Mh]) hb3
      match i, hi with
      | 0, _ => rw [hI.j0] at hj; injection hj with hj; omega
      | 1, _ => rw [hI.j1] at hj; injection hj with hj; omega
      | 2, _ => rw [hI.j2] at hj; injection hj with hj; omega
      | 3, _ => have := hI.j3 b hj; omega
    · exact h
end
structure OutH (w : World) (c : Code) (pre : List BytesL) (W : World) : Prop where
  ret : c = .ret
  bad : evGo pre = none
  r0 : ∃ A t, W.heap[w.heap.size]? = some (.cells #[.slice A 0 0] t (0, 0))
  r1 : ∃ t, W.heap[w.heap.size + 1]? = some (.cells #[.int .i64 11] t (0, 0))
  below : Below w.heap.size w W
theorem OutH.own {w : World} (c : Code) : OwnFrom (w.heap.size + 6) (OutH w c) := by
  intro s A B row hs hg hr
  have hk : ∀ (b : Nat) (vs : Array Value) (t : TypeId), A.heap[b]? = some (Obj.cells vs t (0, 0)) → B.heap[b]? = some (Obj.cells vs t (0, 0)) := fun b vs t h => by
    rw [hg.block b (lt_of_block h) fun e => by
      obtain ⟨_, o, h1, h2⟩ := hr b e.symm
      rw [h] at h1; cases h1; cases h2]
    exact h
  obtain ⟨A0, t0, h0⟩ := hs.r0
  obtain ⟨t1, h1⟩ := hs.r1
  refine ⟨hs.ret, hs.bad, ⟨A0, t0, hk _ _ _ h0⟩, ⟨t1, hk _ _ _ h1⟩, ⟨hg.os.trans hs.below.os, hg.tape.trans hs.below.tape, hg.output.trans hs.below.output, Nat.le_trans hs.below.size hg.size, fun k hk' => ?_⟩⟩
  have := hs.below.size
  rw [hg.block k (by omega) fun e => by obtain ⟨h2, _⟩ := hr k e.symm; omega]
  exact hs.below.block k hk'
end Go.Proofs.YtannopdcbocngaaGreatDoor
namespace Go.Proofs.YtannopdcbocngaaGreatDoor
open Go Go.Abs Go.RowKit Go.Shelf
attribute [local go_sem] Oper.semAt_some
abbrev seqW (w : World) (s : BytesL) : World := ((w.alloc (.cells #[.string (bs s)] 9)).alloc (.cells #[.string ⟨#[10]⟩] 9)).alloc (.cells #[.int .i64 0] 3)
abbrev seqV (h : Nat) : Value := .func (.func 140) #[] #[.pointer (some ⟨h + 1, 0, none⟩), .pointer (some ⟨h, 0, none⟩), .pointer (some ⟨h + 2, 0, none⟩)]
set_option maxHeartbeats 1000000 in
theorem seq99 (n : Nat) (s : BytesL) (w : World) :
    CallsIn Fence.wide n Tryz.prog 99 #[.string (bs s), .string ⟨#[10]⟩, .int .i64 0] w fun e w' => e = .returned (seqV w.heap.size) ∧ w' = seqW w s := by
  refine callsIn_of_wp Tryz.func99 rfl trivial ?_ rfl
  simp only [Tryz.ntmps99, List.size_toArray, List.length_cons, List.length_nil, Nat.reduceAdd, Nat.reduceSub, Array.replicate_succ, Array.replicate_zero, List.push_toArray, List.append_toArray, List.nil_append, List.cons_append]
  gi_wp2
  go_ret
  simp [seqV, seqW]
set_option maxHeartbeats 1000000 in
theorem seq67 (n : Nat) (s : BytesL) (w : World) :
    CallsIn Fence.wide n Tryz.prog 67 #[.string (bs s), .string ⟨#[10]⟩] w fun e w' => e = .returned (seqV w.heap.size) ∧ w' = seqW w s := by
  refine callsIn_of_wp Tryz.func67 rfl trivial ?_ rfl
  simp only [Tryz.ntmps67, List.size_toArray, List.length_cons, List.length_nil, Nat.reduceAdd, Nat.reduceSub, Array.replicate_succ, Array.replicate_zero, List.push_toArray, List.append_toArray, List.nil_append, List.cons_append]
  gi_wp2
  refine ⟨trivial, fun h => (by cases h), (seq99 _ s _).mono ?_⟩
  rintro e w' ⟨rfl, rfl⟩
  gi_wp2
  go_ret
  exact ⟨rfl, rfl⟩
abbrev startW (w : World) (s : BytesL) : World := seqW (((w.alloc (.cells #[.slice none 0 0] 29)).alloc (.cells #[.int .i64 0] 25)).alloc (.cells #[.slice none 0 0] 29)) s
theorem startW_boxes (w : World) (s : BytesL) : (startW w s).heap.size = w.heap.size + 6 ∧ Boxed (startW w s) w.heap.size 29 (.slice none 0 0) ∧ Boxed (startW w s) (w.heap.size + 1) 25 (.int .i64 0) ∧ Boxed (startW w s) (w.heap.size + 2) 29 (.slice none 0 0) ∧
    Boxed (startW w s) (w.heap.size + 3) 9 (.string (bs s)) ∧ Boxed (startW w s) (w.heap.size + 4) 9 (.string ⟨#[10]⟩) ∧ Boxed (startW w s) (w.heap.size + 5) 3 (.int .i64 0) ∧ Below w.heap.size w (startW w s) := by
  have b0 := Boxed.new w 29 (.slice none 0 0)
  have b1 := Boxed.new (w.alloc (.cells #[.slice none 0 0] 29)) 25 (.int .i64 0)
  have b2 := Boxed.new ((w.alloc (.cells #[.slice none 0 0] 29)).alloc (.cells #[.int .i64 0] 25)) 29 (.slice none 0 0)
  have b3 := Boxed.new (((w.alloc (.cells #[.slice none 0 0] 29)).alloc (.cells #[.int .i64 0] 25)).alloc (.cells #[.slice none 0 0] 29)) 9 (.string (bs s))
  have b4 := Boxed.new ((((w.alloc (.cells #[.slice none 0 0] 29)).alloc (.cells #[.int .i64 0] 25)).alloc (.cells #[.slice none 0 0] 29)).alloc (.cells #[.string (bs s)] 9)) 9 (.string ⟨#[10]⟩)
  have b5 := Boxed.new (((((w.alloc (.cells #[.slice none 0 0] 29)).alloc (.cells #[.int .i64 0] 25)).alloc (.cells #[.slice none 0 0] 29)).alloc (.cells #[.string (bs s)] 9)).alloc (.cells #[.string ⟨#[10]⟩] 9)) 3 (.int .i64 0)
  simp only [World.size_alloc] at b1 b2 b3 b4 b5
  refine ⟨by simp [startW, seqW], ((((b0.alloc _).alloc _).alloc _).alloc _).alloc _, (((b1.alloc _).alloc _).alloc _).alloc _, ((b2.alloc _).alloc _).alloc _, (b3.alloc _).alloc _, b4.alloc _, b5, ?_⟩
  have hB2 : Below w.heap.size w ((w.alloc (.cells #[.slice none 0 0] 29)).alloc (.cells #[.int .i64 0] 25)) := ((Below.refl _ w).alloc (Nat.le_refl _) _).alloc (by simp) _
  exact (((hB2.alloc (by simp; omega) _).alloc (by simp; omega) _).alloc (by simp; omega) _).alloc (by simp; omega) _
def jS (j : J) (h : Nat) : J := ⟨fun i => match i with | 0 => some h | 1 => some (h + 1) | 2 => some (h + 2) | _ => none, fun b off => j.X b off ∨ (h + 3 ≤ b ∧ b < h + 6)⟩
theorem jS_at {j : J} {h i b : Nat} (hj : jS j h i = some b) : b = h + i ∧ i < 3 := by
  match i, hj with
  | 0, hj => simp [jS] at hj; omega
  | 1, hj => simp [jS] at hj; omega
  | 2, hj => simp [jS] at hj; omega
  | n + 3, hj => cases hj
theorem InvH.start {j : J} {w : World} (hr : Rel j [] w) (hG : Glob j [] w) (s : BytesL) : InvH j w [] [] (jS j w.heap.size) (startW w s) := by
  obtain ⟨hsz, b0, b1, b2, _, _, _, hB⟩ := startW_boxes w s
  generalize startW w s = W at hsz b0 b1 b2 hB
  refine ⟨rfl, ?_, ?_, fun b off => Iff.rfl, rfl, rfl, rfl, fun b h => (by cases h), hB, by omega⟩
  · refine ⟨?_, ?_, ?_, ?_, ?_, ?_, ?_⟩
    · intro i i' b hi hi' h1 h2
      have := jS_at h1; have := jS_at h2; omega
    · intro i b hi h1
      have := jS_at h1; omega
    · intro i bx h hf
      match i, h with
      | 0, h => cases h; exact ⟨_, rfl, _, _, b0, rfl, fun q c v hc hv => by
          match q, hc, hv with
          | 0, hc, hv => cases hc; cases hv; exact .c0 _
          | q + 1, hc, hv => cases hc⟩
      | 1, h => cases h; exact ⟨_, rfl, _, _, b1, rfl, fun q c v hc hv => by
          match q, hc, hv with
          | 0, hc, hv => cases hc; cases hv; exact .plain (.int _ _)
          | q + 1, hc, hv => cases hc⟩
      | 2, h => cases h; exact ⟨_, rfl, _, _, b2, rfl, fun q c v hc hv => by
          match q, hc, hv with
          | 0, hc, hv => cases hc; cases hv; exact .own (sz := 17) (n := 0) rfl (Nat.le_refl _) (RepP.nil _ _ _) fun _ => .inl ⟨rfl, rfl, _, rfl⟩
          | q + 1, hc, hv => cases hc⟩
      | 3, h => cases h; cases hf
    · intro i sz n b h hj
      match i, h with
      | 3, h => cases hj
    · intro i sz ver xs h
      match i, h with
      | n + 4, h => cases h
    · intro i b hi h1 off hx
      have hx' : j.X b off ∨ (w.heap.size + 3 ≤ b ∧ b < w.heap.size + 6) := hx
      have := jS_at h1
      rcases hx' with h | h
      · have := hr.xlt b off h; omega
      · omega
    · intro b off hx
      have hx' : j.X b off ∨ (w.heap.size + 3 ≤ b ∧ b < w.heap.size + 6) := hx
      rcases hx' with h | h
      · have := hr.xlt b off h; omega
      · omega
  · have key : ∀ b off, Saf j [] w b off → Saf (jS j w.heap.size) (Mh []) W b off := fun b off h => by
      have hlt := h.lt
      refine ⟨by omega, fun id hid hj => ?_, fun hx => ?_⟩
      · have := jS_at hj; omega
      · have hx' : j.X b off ∨ (w.heap.size + 3 ≤ b ∧ b < w.heap.size + 6) := hx
        rcases hx' with h' | h'
        · exact h.nx h'
        · omega
    have kc : ∀ b off, b < w.heap.size → W.cell? ⟨b, off, none⟩ = w.cell? ⟨b, off, none⟩ := fun b off h => World.cell?_of_block (hB.block b h)
    refine ⟨fun b vs k v hb hk => ?_, fun b vs hb => ?_, fun b p hb => ?_⟩
    · obtain ⟨h1, h2⟩ := hG.g b vs k v hb hk
      exact ⟨key _ _ h1, (kc _ _ h1.lt).trans h2⟩
    · obtain ⟨us, t, fr, h1, h2⟩ := hG.n b vs hb
      exact ⟨us, t, fr, (hB.block b (lt_of_block h1)).trans h1, h2⟩
    · obtain ⟨v, h0, h1, h2⟩ := hG.q b p hb
      exact ⟨v, h0, key _ _ h1, (kc _ _ h1.lt).trans h2⟩
theorem Kp.trans {b0 : Nat} {A B C : World} (h : Kp b0 A B) (k : Kp b0 B C) : Kp b0 A C := ⟨k.k0.trans h.k0, k.k1.trans h.k1, k.k2.trans h.k2⟩
abbrev actB (w : World) (s x : BytesL) : Act := { tmps := #[.string (bs s), undef, .pointer (some ⟨w.heap.size, 0, none⟩), .pointer (some ⟨w.heap.size + 1, 0, none⟩), .pointer (some ⟨w.heap.size + 1 + 1, 0, none⟩), .string (bs x), undef, undef, .string (bs s), seqV (w.heap.size + 1 + 1 + 1), .string (bs x),
      undef, undef, undef, undef, undef, undef, undef, undef, undef, undef, undef, undef, undef, undef, undef, undef, undef, undef], defers := [] }
theorem envB {j jx : J} {w W : World} {pre : List BytesL} {evs : List Event} (hI : InvH j w pre evs jx W) (s x : BytesL) : EnvRep jx (Mh evs) W (Eh s x) (actB w s x) := by
  refine ⟨fun t => ?_, hI.gl⟩
  match t with
  | 0 => exact .plain (.str s)
  | 1 => exact .any _
  | 2 => exact .ptr (by simp [Mh]) ⟨_, rfl⟩ hI.j0
  | 3 => exact .ptr (by simp [Mh]) ⟨_, rfl⟩ hI.j1
  | 4 => exact .ptr (by simp [Mh]) ⟨_, rfl⟩ hI.j2
  | 5 => exact .plain (.str x)
  | t + 6 =>
    have : getS (Eh s x) (t + 6) = .any := by simp [Eh, getS]
    rw [this]; exact .any _
theorem evGo_ok : ∀ {a : List BytesL} {l : List Event}, evGo a = some l → (∀ x, x ∈ a → x.length ≤ 900000) → ∀ e, e ∈ l → EvOk e
  | [], l, h, _, e, he => by simp [evGo] at h; subst h; cases he
  | x :: r, l, h, hb, e, he => by
    simp only [evGo] at h
    split at h
    · exact evGo_ok h (fun y hy => hb y (List.mem_cons_of_mem _ hy)) e he
    · split at h
      · obtain ⟨l', h1, rfl⟩ := Option.map_eq_some_iff.1 h
        rcases List.mem_cons.1 he with rfl | he
        · exact evOf_ok (hb x (by simp))
        · exact evGo_ok h1 (fun y hy => hb y (List.mem_cons_of_mem _ hy)) e he
      · cases h
theorem evGo_pre {a l : List BytesL} (h : a <+: l) (hn : evGo a = none) : evGo l = none := by
  obtain ⟨b, rfl⟩ := h
  rw [evGo_app, hn]; rfl
theorem mix28 : Tryz.prog.follows .mixedOrders = true := by kernel_rfl
theorem roundH {j jx : J} {w W : World} {pre : List BytesL} {evs : List Event} (l nd : Nat) (s x : BytesL) (hx : x.length ≤ 900000) (hne : evs.length ≤ 1000000) (hI : InvH j w pre evs jx W) :
    (rfB Tryz.f28).wpIn (Wd (some l)) nd Tryz.prog (fun e a' W' => KeepsOthers W W' ∧ ((e = .normal ∧ Kp (w.heap.size + 3) W W' ∧ ∃ evs jx, InvH j w (pre ++ [x]) evs jx W') ∨ (e = .ret ∧ OutH w .ret (pre ++ [x]) W'))) (actB w s x) W := by
  by_cases h0 : x = []
  · subst h0
    obtain ⟨env, hex⟩ := round_skip s evs
    refine wpIn_mono (code_sound (rd := some l) (nd := nd) mix28 sound (rfB Tryz.f28) ok28b hex hI.rel hI.gl (envB hI s []) rfl) ?_
    rintro e a' W' ⟨rfl, _, _, j', hr', _, hx'⟩
    obtain ⟨k1, k2, k3⟩ := hI.out hx'
    refine ⟨k1, .inl ⟨rfl, k2, evs, j', ?_⟩⟩
    refine InvH.round (m := []) hI ?_ (by rw [List.append_nil]; exact hr') (by rw [List.append_nil]; exact hx')
    rw [evGo_app, hI.go]; simp [evGo]
  · cases hb : (evOf x).2 with
    | false =>
      obtain ⟨env, m, hex⟩ := round_bad s x evs h0 hx hb
      refine wpIn_mono (code_sound (rd := some l) (nd := nd) mix28 sound (rfB Tryz.f28) ok28b hex hI.rel hI.gl (envB hI s x) rfl) ?_
      rintro e a' W' ⟨rfl, _, _, j', hr', _, hx'⟩
      obtain ⟨k1, k2, k3⟩ := hI.out hx'
      have hj0 : j' 0 = some w.heap.size := (hx'.fix 0 _ rfl rfl).1.trans hI.j0
      have hj1 : j' 1 = some (w.heap.size + 1) := (hx'.fix 1 _ rfl rfl).1.trans hI.j1
      refine ⟨k1, .inr ⟨rfl, rfl, ?_, ?_, ?_, k3⟩⟩
      · rw [evGo_app, hI.go]; simp [evGo, h0, hb]
      · obtain ⟨b, vs, t, h1, h2, h3, h4⟩ := hr'.box 0 _ rfl
        rw [hj0] at h1; cases h1
        obtain ⟨vs⟩ := vs
        match vs, h3 with
        | [v], _ =>
          have := h4 0 _ v rfl rfl
          cases this with
          | plain h => cases h
          | c0 A => exact ⟨A, t, h2⟩
      · obtain ⟨b, vs, t, h1, h2, h3, h4⟩ := hr'.box 1 _ rfl
        rw [hj1] at h1; cases h1
        obtain ⟨vs⟩ := vs
        match vs, h3 with
        | [v], _ =>
          have := h4 0 _ v rfl rfl
          cases this with
          | plain h => cases h; exact ⟨t, h2⟩
    | true =>
      obtain ⟨env, m, hex⟩ := round_good s x evs h0 hx hb hne
      refine wpIn_mono (code_sound (rd := some l) (nd := nd) mix28 sound (rfB Tryz.f28) ok28b hex hI.rel hI.gl (envB hI s x) rfl) ?_
      rintro e a' W' ⟨rfl, _, _, j', hr', _, hx'⟩
      obtain ⟨k1, k2, k3⟩ := hI.out hx'
      refine ⟨k1, .inl ⟨rfl, k2, _, j', InvH.round hI ?_ hr' hx'⟩⟩
      rw [evGo_app, hI.go]; simp [evGo, h0, hb]
theorem boxed_put {W : World} {B D : Nat} {t : TypeId} {v : Value} {x : Option (List Deferred)} {o : Obj} (h : Boxed W B t v) (hD : W.heap[D]? = some (.deferred x)) : Boxed (W.putObj D o) B t v :=
  (World.putObj_heap_other (fun e => by subst e; rw [show W.heap[B]? = _ from h] at hD; cases hD)).trans h
theorem below_put {w W : World} {D : Nat} {o : Obj} (h : Below w.heap.size w W) (hD : w.heap.size ≤ D) : Below w.heap.size w (W.putObj D o) :=
  ⟨h.os, h.tape, h.output, by simpa [World.putObj] using h.size, fun k hk => (World.putObj_heap_other (by omega)).trans (h.block k hk)⟩
theorem results28 {W : World} {b : Nat} {v u : Value} {t t' : TypeId} {tmps : Array Value} (h2 : tmps[2]? = some (.pointer (some ⟨b, 0, none⟩))) (h3 : tmps[3]? = some (.pointer (some ⟨b + 1, 0, none⟩))) (hv : Boxed W b t v) (hu : Boxed W (b + 1) t' u) : (results Tryz.f28 tmps).run Tryz.prog W = .ok (.tuple #[v, u]) W := by
  have c0 := hv.cell
  have c1 := hu.cell
  simp [results, Tryz.f28, go_sem, c0, c1, h2, h3]
theorem leaves_mark {F : Fence} {n : Nat} {P : Program} {fn : Func} {tmps : Array Value} {R : Ending → World → Prop} {D : Nat} {W W' : World} {v : Value} (hD : (Instr.takeDeferred D).run P W = .ok [] W') (hv : (results fn tmps).run P W' = .ok v W') (hR : R (.returned v) W') :
    LeavesInM F n P fn tmps R [{ target := .collected D, args := #[] }] .returning W :=
  ⟨by simp, .inl ⟨D, W', rfl, hD, ⟨v, hv, hR⟩⟩⟩
abbrev actR (w : World) (s : BytesL) (ds : List Deferred) : Act := { tmps := #[.string (bs s), undef, .pointer (some ⟨w.heap.size, 0, none⟩), .pointer (some ⟨w.heap.size + 1, 0, none⟩), .pointer (some ⟨w.heap.size + 1 + 1, 0, none⟩), undef, undef, undef, .string (bs s), seqV (w.heap.size + 1 + 1 + 1), undef,
      undef, undef, undef, undef, undef, undef, undef, undef, undef, undef, undef, undef, undef, undef, undef, undef, undef, undef], defers := ds }
theorem envR {j jx : J} {w W : World} {pre : List BytesL} {evs : List Event} (hI : InvH j w pre evs jx W) (s : BytesL) (ds : List Deferred) : EnvRep jx (Mh evs) W (Er s) (actR w s ds) := by
  refine ⟨fun t => ?_, hI.gl⟩
  match t with
  | 0 => exact .plain (.str s)
  | 1 => exact .any _
  | 2 => exact .ptr (by simp [Mh]) ⟨_, rfl⟩ hI.j0
  | 3 => exact .ptr (by simp [Mh]) ⟨_, rfl⟩ hI.j1
  | 4 => exact .ptr (by simp [Mh]) ⟨_, rfl⟩ hI.j2
  | t + 5 =>
    have : getS (Er s) (t + 5) = .any := by simp [Er, getS]
    rw [this]; exact .any _
theorem finH {j jx j' : J} {w W W' : World} {pre : List BytesL} {evs : List Event} {tk : Tk} {l : List AVal} {er : Int} {m : AMem} (hI : InvH j w pre evs jx W) (hr : Rel j' (.cells [.slice tk l] :: .cells [.int .i64 er] :: m) W') (hx : Ext jx (Mh evs) W j' (.cells [.slice tk l] :: .cells [.int .i64 er] :: m) W') :
    ∃ v t t', Boxed W' w.heap.size t v ∧ Boxed W' (w.heap.size + 1) t' (.int .i64 er) ∧ ∀ D : Nat, W'.heap[D]? = some (.deferred (some [])) → Rep j [] (W'.putObj D (.deferred none)) (.tuple [.slice .sh l, eI er]) (.tuple #[v, .int .i64 er]) := by
  have hj0 : j' 0 = some w.heap.size := (hx.fix 0 _ rfl rfl).1.trans hI.j0
  have hj1 : j' 1 = some (w.heap.size + 1) := (hx.fix 1 _ rfl rfl).1.trans hI.j1
  obtain ⟨b, vs, t, h1, h2, h3, h4⟩ := hr.box 0 _ rfl
  rw [hj0] at h1; cases h1
  obtain ⟨b', us, t', g1, g2, g3, g4⟩ := hr.box 1 _ rfl
  rw [hj1] at g1; cases g1
  obtain ⟨vs⟩ := vs
  obtain ⟨us⟩ := us
  match vs, us, h3, g3 with
  | [v], [u], _, _ =>
    have r0 := h4 0 _ v rfl rfl
    have r1 := g4 0 _ u rfl rfl
    have hu : u = .int .i64 er := by
      cases r1 with
      | plain h => cases h; rfl
    subst hu
    refine ⟨v, t, t', h2, g2, fun D hD => .tuple rfl fun i c x hc hv => ?_⟩
    match i, hc, hv with
    | 0, hc, hv =>
      cases hc; cases hv
      refine .plain (repP_mono' ?_ r0.slice_inv)
      intro b off x hs hc
      have hne : b ≠ D := fun e => by subst e; exact cell_none hD rfl x hc
      refine ⟨⟨?_, fun id hid => absurd hid (by simp), fun hX => hs.nx (by rw [hx.X]; exact (hI.X b off).2 (.inl hX))⟩, ?_⟩
      · simpa [World.putObj] using hs.lt
      · rw [World.cell?_of_block (World.putObj_heap_other hne)]; exact hc
    | 1, hc, hv => cases hc; cases hv; exact .plain (.int _ _)
    | i + 2, hc, hv => cases hc
theorem env_ptr {j : J} {M : AMem} {W : World} {env : Env} {a : Act} {t id h : Nat} (he : EnvRep j M W env a) (hs : a.tmps.size = 29) (ht : t < 29) (hg : getS env t = .ptr id 0) (hj : j id = some h) : a.tmps[t]? = some (.pointer (some ⟨h, 0, none⟩)) := by
  have h1 := he.at' t
  rw [hg] at h1
  obtain ⟨b, _, _, h2, h3⟩ := h1.ptr_inv
  rw [hj] at h2; cases h2
  rw [Array.getElem?_eq_getElem (by omega)]
  rw [← h3]
  simp [Array.getD, hs, ht]
set_option maxRecDepth 100000 in
set_option maxHeartbeats 2000000 in
theorem readHist_in (n : Nat) (hn : 8 ≤ n) (s : BytesL) (hs : s.length ≤ 900000) (hN : (cutL 10 s).length ≤ 100000) (j : J) (w : World) (hr : Rel j [] w) (hG : Glob j [] w) :
    CallsIn Fence.wide n Tryz.prog 28 #[.string (bs s)] w fun e W' => ∃ v, e = .returned v ∧ Below w.heap.size w W' ∧ Rep j [] W' (.tuple [.slice .sh ((rdHist s).1.map eEv), eI (rdHist s).2]) v := by
  have h1 : 1 ≤ n := by omega
  refine callsIn_of_wp_marks Tryz.func28 rfl trivial ?_ rfl
  simp only [Tryz.ntmps28, List.size_toArray, List.length_cons, List.length_nil, Nat.reduceAdd, Nat.reduceSub, Array.replicate_succ, Array.replicate_zero, List.push_toArray, List.append_toArray, List.nil_append, List.cons_append]
  gi_wp2
  refine ⟨trivial, (seq67 _ s _).mono ?_⟩
  rintro e w' ⟨rfl, rfl⟩
  gi_wp2
  rename_i Q0 K0 hK0
  obtain ⟨hsz, e0, e1, e2, b0, b1, b2, hB⟩ := startW_boxes w s
  have hst := InvH.start hr hG s
  change Code.wpIn Fence.wide n Tryz.prog _ _ _ (startW w s)
  generalize startW w s = W4 at hsz e0 e1 e2 b0 b1 b2 hB hst ⊢
  have hpl : ∀ x, x ∈ cutL 10 s → x.length ≤ 900000 := fun x hx => Nat.le_trans (cutL_mem 10 s x hx) hs
  have hseq : SeqStopsC (w.heap.size + 3) Fence.wide (n - 1) Tryz.prog 140 #[.pointer (some ⟨w.heap.size + 3 + 1, 0, none⟩), .pointer (some ⟨w.heap.size + 3, 0, none⟩), .pointer (some ⟨w.heap.size + 3 + 2, 0, none⟩)] encS (Kp (w.heap.size + 3)) (fun xs => xs.map (·.1) = cutL 10 s) (fun pre => pre.map (·.1) <+: cutL 10 s) (cutL 10 s).length W4 :=
    fun l J Jx W hW hJ hJx hJc hY h0 => iter140 (n - 1) (by omega) l _ _ s (Nat.le_refl _) hs J Jx W hJ hJc hY ((hW.block _ (by omega)).trans b0) ((hW.block _ (by omega)).trans b1) ((hW.block _ (by omega)).trans b2) h0
  refine wpIn_rangeFunc_ownC (b0 := w.heap.size + 3) (by omega) rfl h1 (gf := 140) (lb := #[.pointer (some ⟨w.heap.size + 3 + 1, 0, none⟩), .pointer (some ⟨w.heap.size + 3, 0, none⟩), .pointer (some ⟨w.heap.size + 3 + 2, 0, none⟩)]) rfl trivial (enters_of Tryz.func140 (by kernel_rfl) rfl) hseq
    Kp.trans (fun W l o o' hl _ _ _ => ⟨World.putObj_heap_other (by omega), World.putObj_heap_other (by omega), World.putObj_heap_other (by omega)⟩) (Below.refl _ _) (fun _ => rfl)
    (fun pre W => ∃ evs jx, InvH j w (pre.map (·.1)) evs jx W) (fun c pre W => OutH w c (pre.map (·.1)) W) (by rw [hsz]; exact fun s A B row h hg hr => InvH.own hG (s.map (·.1)) A B row h hg hr) (fun c => by rw [hsz]; exact fun s A B row h hg hr => OutH.own c (s.map (·.1)) A B row h hg hr) (fun s A v h => InvH.cell hG (s.map (·.1)) A v h)
    ⟨_, _, hst⟩
    (fun x => { tmps := #[.string (bs s), undef, .pointer (some ⟨w.heap.size, 0, none⟩), .pointer (some ⟨w.heap.size + 1, 0, none⟩), .pointer (some ⟨w.heap.size + 1 + 1, 0, none⟩), .string (bs x.1), undef, undef, .string (bs s), seqV (w.heap.size + 1 + 1 + 1), .string (bs x.1),
      undef, undef, undef, undef, undef, undef, undef, undef, undef, undef, undef, undef, undef, undef, undef, undef, undef, undef], defers := [] }) ?assign ?body ?done ?stop
  case assign =>
    intro l x W K hK
    gi_wp2
    exact hK
  case body =>
    rintro l pre ⟨x, hx⟩ W ⟨evs, jx, hI⟩ hlt
    have hle := evGo_len hI.go
    refine wpIn_mono (c := rfB Tryz.f28) (roundH l (n - 1 - 1) s x hx (by simp at hle; omega) hI) ?_
    rintro e a' W' ⟨k1, ⟨rfl, k2, k3⟩ | ⟨rfl, k2⟩⟩
    · exact ⟨k1, k2, by simpa using k3⟩
    · exact ⟨k1, by simpa using k2⟩
  case done =>
    rintro D xs W hD hS ⟨evs, jx, hI⟩ hm
    refine hK0 _ _ ?_
    have hok := evGo_ok hI.go (fun x hx => by
      obtain ⟨y, _, rfl⟩ := List.mem_map.1 hx
      exact y.2)
    have hle := evGo_len hI.go
    have hgo := hI.go
    rw [hS] at hgo hle
    by_cases hh : histN evs = s
    · have hrd : rdHist s = (evs, 0) := by unfold rdHist; rw [hgo]; simp [hh]
      obtain ⟨m, hex⟩ := rest_ok s evs hok (by omega) hh
      refine wpIn_mono (c := rfR Tryz.f28) (code_sound (rd := none) (nd := n) mix28 sound (rfR Tryz.f28) ok28r hex hI.rel hI.gl (envR hI s _) rfl) ?_
      rintro e a' W' ⟨rfl, hsz', hdf, j', hr', hE', hx'⟩
      obtain ⟨k1, k2, k3⟩ := hI.out hx'
      obtain ⟨v, t, t', f1, f2, f3⟩ := finH hI hr' hx'
      have hm' := k1.same D _ hm rfl
      have hj0 : j' 0 = some w.heap.size := (hx'.fix 0 _ rfl rfl).1.trans hI.j0
      have hj1 : j' 1 = some (w.heap.size + 1) := (hx'.fix 1 _ rfl rfl).1.trans hI.j1
      have t2 := env_ptr hE' hsz' (t := 2) (by decide) rfl hj0
      have t3 := env_ptr hE' hsz' (t := 3) (by decide) rfl hj1
      change LeavesInM Fence.wide n _ _ a'.tmps _ a'.defers .returning W'
      rw [hdf]
      refine leaves_mark (run_takeDeferred hm') (results28 t2 t3 (boxed_put f1 hm') (boxed_put f2 hm')) ⟨_, rfl, below_put k3 (by omega), ?_⟩
      rw [hrd]
      exact f3 D hm'
    · have hrd : rdHist s = ([], 11) := by unfold rdHist; rw [hgo]; simp [hh]
      obtain ⟨m, hex⟩ := rest_bad s evs hok (by omega) hh
      refine wpIn_mono (c := rfR Tryz.f28) (code_sound (rd := none) (nd := n) mix28 sound (rfR Tryz.f28) ok28r hex hI.rel hI.gl (envR hI s _) rfl) ?_
      rintro e a' W' ⟨rfl, hsz', hdf, j', hr', hE', hx'⟩
      obtain ⟨k1, k2, k3⟩ := hI.out hx'
      obtain ⟨v, t, t', f1, f2, f3⟩ := finH hI hr' hx'
      have hm' := k1.same D _ hm rfl
      have hj0 : j' 0 = some w.heap.size := (hx'.fix 0 _ rfl rfl).1.trans hI.j0
      have hj1 : j' 1 = some (w.heap.size + 1) := (hx'.fix 1 _ rfl rfl).1.trans hI.j1
      have t2 := env_ptr hE' hsz' (t := 2) (by decide) rfl hj0
      have t3 := env_ptr hE' hsz' (t := 3) (by decide) rfl hj1
      change LeavesInM Fence.wide n _ _ a'.tmps _ a'.defers .returning W'
      rw [hdf]
      refine leaves_mark (run_takeDeferred hm') (results28 t2 t3 (boxed_put f1 hm') (boxed_put f2 hm')) ⟨_, rfl, below_put k3 (by omega), ?_⟩
      rw [hrd]
      exact f3 D hm'
  case stop =>
    rintro D c pre W hD hpre hOut hm
    obtain rfl := hOut.ret
    have hrd : rdHist s = ([], 11) := by unfold rdHist; rw [evGo_pre hpre hOut.bad]
    obtain ⟨A0, t0, f1⟩ := hOut.r0
    obtain ⟨t1, f2⟩ := hOut.r1
    gi_wp2
    refine leaves_mark (run_takeDeferred hm) (results28 rfl rfl (boxed_put f1 hm) (boxed_put f2 hm)) ⟨_, rfl, below_put hOut.below (by omega), ?_⟩
    refine .tuple rfl fun i c x hc hv => ?_
    match i, hc, hv with
    | 0, hc, hv => cases hc; cases hv; exact .plain (RepP.nil _ _ _)
    | 1, hc, hv => cases hc; cases hv; exact .plain (.int _ _)
    | i + 2, hc, hv => cases hc
def pReadHist : List AVal → AMem → Option (AVal × AMem)
  | [.str s], [] => if s.length ≤ 900000 ∧ (cutL 10 s).length ≤ 100000 then some (.tuple [.slice .sh ((rdHist s).1.map eEv), eI (rdHist s).2], []) else none
  | _, _ => none
theorem readHists {args : List AVal} {M : AMem} {x : AVal × AMem} (h : pReadHist args M = some x) : SoundCall Tryz.prog 28 args M x := by
  unfold pReadHist at h
  split at h
  · rename_i s
    split at h
    · rename_i hs
      injection h with h; subst h
      intro j w vs hr hG hl hv
      obtain ⟨u, rfl⟩ := one_arg hl
      have h1 := (hv 0 _ u rfl rfl).str_inv
      subst h1
      refine (callsIn_wide.1 (readHist_in 8 (by omega) s hs.1 hs.2 j w hr hG)).mono ?_
      rintro e w' ⟨v, rfl, hb, hrep⟩
      exact ⟨v, j, rfl, hr.grow hb.size hb.os hb.tape hb.output hb.block, Ext.grow hb.size hb.os hb.tape hb.output hb.block, hrep⟩
    · cases h
  · cases h
noncomputable def primS (f : Nat) : Option (List AVal → AMem → Option (AVal × AMem)) := if f = 28 then some pReadHist else prim f
noncomputable def tabS : Tab := ⟨code, primS⟩
theorem tabS_ok : TabOk Tryz.prog tabS := by
  refine ⟨code_ok, fun f g h args M x hx => ?_⟩
  simp only [tabS, primS] at h
  split at h
  · rename_i hf
    injection h with h; subst h; subst hf
    exact ⟨by kernel_rfl, readHists hx⟩
  · exact prim_ok f g h args M x hx
theorem soundS : SoundC Tryz.prog (acall tabS) := acall_sound (by kernel_rfl) tabS_ok
theorem tab_le : ∀ n, CallLe (acallN tab n) (acallN tabS n)
  | 0, f, a, M, x, h => by
    by_cases hf : f = 28
    · subst hf
      rw [acallN] at h
      cases h
    · have hp : tabS.prim f = tab.prim f := by simp [tabS, tab, primS, hf]
      rw [acallN] at h ⊢
      rw [hp]
      exact h
  | n + 1, f, a, M, x, h => by
    by_cases hf : f = 28
    · subst hf
      rw [acallN] at h
      cases h
    · have hp : tabS.prim f = tab.prim f := by simp [tabS, tab, primS, hf]
      rw [acallN] at h ⊢
      rw [hp]
      split at h
      · rename_i g hg; exact h
      · rename_i hg
        have hc : tabS.code f = tab.code f := rfl
        rw [hc]
        split at h
        · cases h
        · rename_i fn hfn
          split at h
          · rename_i hl
            simp only [if_pos hl]
            obtain ⟨o, ho, h⟩ := obind_inv h
            rw [aexec_mono (tab_le n) _ ho, obind_some]
            exact h
          · cases h
theorem tab_leS {f : Nat} {a : List AVal} {M : AMem} {x : AVal × AMem} (h : acall tab f a M = some x) : acall tabS f a M = some x := by
  obtain ⟨n, hn⟩ := lim_ex h
  exact lim_some (fun n x h => acallN_up tabS n f a M x h) (tab_le n f a M x hn)
end Go.Proofs.YtannopdcbocngaaGreatDoor
namespace Go.Abs
open Go
def ow {α : Type} (p : Prop) [Decidable p] (x : Option α) : Option α := if p then x else none
theorem ow_eq {α : Type} (p : Prop) [Decidable p] (x : Option α) : ow p x = owhen p x := by
  unfold ow
  split
  · rename_i h; exact (owhen_pos h).symm
  · rename_i h; rw [eq_false h]; exact (owhen_false x).symm
def widB (xs : List AVal) (sz : Nat) : Bool := xs.all fun x => x.cells.length == sz
theorem widB_eq (xs : List AVal) (sz : Nat) : (widB xs sz = true) = wid xs sz := by
  simp [widB, wid]
instance (n b : Nat) : Decidable (roomOk n b) := inferInstanceAs (Decidable (n * b ≤ 2 ^ 44))
def sameL (f : AVal → AVal → Bool) : List AVal → List AVal → Bool
  | [], [] => true
  | a :: r, b :: s => f a b && sameL f r s
  | _, _ => false
theorem sameL_eq {f : AVal → AVal → Bool} (hf : ∀ a b, f a b = true → a = b) : ∀ {a b : List AVal}, sameL f a b = true → a = b
  | [], [], _ => rfl
  | a :: r, b :: s, h => by
    simp only [sameL, Bool.and_eq_true] at h
    rw [hf a b h.1, sameL_eq hf h.2]
  | [], _ :: _, h => by cases h
  | _ :: _, [], h => by cases h
def sameV : Nat → AVal → AVal → Bool
  | n + 1, x, y => match x, y with
    | .bool a, .bool b => a == b
    | .int k a, .int l b => decide (k = l) && decide (a = b)
    | .str a, .str b => decide (a = b)
    | .slice t a, .slice u b => decide (t = u) && sameL (sameV n) a b
    | .agg a, .agg b => sameL (sameV n) a b
    | .tuple a, .tuple b => sameL (sameV n) a b
    | .ptr a b, .ptr c d => decide (a = c) && decide (b = d)
    | .rptr a, .rptr b => sameL (sameV n) a b
    | .func f a, .func g b => decide (f = g) && sameL (sameV n) a b
    | .mref a, .mref b => decide (a = b)
    | .iref a, .iref b => decide (a = b)
    | .fmap a b, .fmap c d => sameL (sameV n) a c && sameL (sameV n) b d
    | .aref a b c d e, .aref a' b' c' d' e' => decide (a = a') && decide (b = b') && decide (c = c') && decide (d = d') && decide (e = e')
    | .eptr a b c d, .eptr a' b' c' d' => decide (a = a') && decide (b = b') && decide (c = c') && decide (d = d')
    | .mfn f a, .mfn g b => decide (f = g) && sameL (sameV n) a b
    | .bself a b, .bself c d => decide (a = c) && decide (b = d)
    | .obuf a b x l, .obuf c d y m => decide (a = c) && decide (b = d) && (decide (x = y) && decide (l = m))
    | .any, .any => true
    | _, _ => false
  | 0, _, _ => false
theorem sameV_eq : ∀ (n : Nat) (a b : AVal), sameV n a b = true → a = b
  | 0, _, _, h => by cases h
  | n + 1, x, y, h => by
    have hl : ∀ {a b : List AVal}, sameL (sameV n) a b = true → a = b := fun h => sameL_eq (sameV_eq n) h
    simp only [sameV] at h
    split at h <;> (try simp only [Bool.and_eq_true, decide_eq_true_eq, beq_iff_eq] at h) <;> first
      | (cases h; done)
      | (rw [h])
      | (rw [hl h])
      | (rw [h.1, hl h.2])
      | (rw [h.1, h.2])
      | (rw [hl h.1, hl h.2])
      | (obtain ⟨⟨⟨⟨h1, h2⟩, h3⟩, h4⟩, h5⟩ := h; rw [h1, h2, h3, h4, h5])
      | (obtain ⟨⟨⟨h1, h2⟩, h3⟩, h4⟩ := h; rw [h1, h2, h3, h4])
      | (obtain ⟨⟨h1, h2⟩, h3⟩ := h; rw [h1, h2, h3])
      | (obtain ⟨⟨h1, h2⟩, h3, h4⟩ := h; rw [h1, h2, h3, h4])
      | rfl
noncomputable def rop (call : CallF) (env : Env) (M : AMem) : AOp → Option (AVal × AMem)
  | .sliceS x lo hi =>
    match x.ev env with
    | .str s => obind (boundOf env s.length hi) fun h => obind (boundOf env 0 lo) fun l =>
      ow (0 ≤ h ∧ h ≤ s.length ∧ 0 ≤ l ∧ l ≤ h) (some (.str ((s.take h.toNat).drop l.toNat), M))
    | _ => none
  | .sliceV sz x lo hi mx =>
    match x.ev env with
    | .slice _ xs => ow (widB xs sz = true) <| obind (boundOf env xs.length hi) fun h => obind (boundOf env 0 lo) fun l =>
      match mx with
      | none => ow (0 ≤ h ∧ h ≤ xs.length ∧ 0 ≤ l ∧ l ≤ h) (some (.slice .sh ((xs.take h.toNat).drop l.toNat), M))
      | some m => match m.ev env with
        | .int _ m => ow (0 ≤ m ∧ m ≤ xs.length ∧ 0 ≤ h ∧ h ≤ m ∧ 0 ≤ l ∧ l ≤ h)
            (oif (m == 0) (some (.slice .c0 [], M)) (some (.slice .sh ((xs.take h.toNat).drop l.toNat), M)))
        | _ => none
    | .aref id v sz' al ah => ow (sz' = sz) <| obind (boundOf env (ah - al) hi) fun h => obind (boundOf env 0 lo) fun l =>
      match mx with
      | none => ow (0 ≤ h ∧ h ≤ (ah - al : Nat) ∧ 0 ≤ l ∧ l ≤ h) (oif (l == h) (some (.slice .sh [], M)) (some (.aref id v sz (al + l.toNat) (al + h.toNat), M)))
      | some m => match m.ev env with
        | .int _ m => ow (0 ≤ m ∧ m ≤ (ah - al : Nat) ∧ 0 ≤ h ∧ h ≤ m ∧ 0 ≤ l ∧ l ≤ h)
            (oif (m == 0) (some (.slice .c0 [], M)) (oif (l == h) (some (.slice .sh [], M)) (some (.aref id v sz (al + l.toNat) (al + h.toNat), M))))
        | _ => none
    | _ => none
  | .iaddr sz x i =>
    match x.ev env, i.ev env with
    | .slice _ xs, .int _ n => ow (0 ≤ n) (obind (xs[n.toNat]?) fun e => if e.cells.length = sz then some (.rptr e.cells, M) else none)
    | .aref id v sz' lo hi, .int _ n => ow (0 ≤ n ∧ n < (hi - lo : Nat) ∧ sz' = sz) (some (.eptr id v (lo + n.toNat) 0, M))
    | _, _ => none
  | .indexS x i =>
    match x.ev env, i.ev env with
    | .str s, .int _ n => ow (0 ≤ n) (obind (s[n.toNat]?) fun b => some (.int .u8 b.toNat, M))
    | _, _ => none
  | .append sz bytes x y =>
    match x.ev env, y.ev env with
    | .slice tk xs, .slice _ ys =>
      ow (roomOk (xs.length + ys.length) bytes ∧ widB xs sz = true ∧ widB ys sz = true) (
        match tk with
        | .c0 => match xs with | [] => some (.slice (.own M.length) ys, M ++ [.tick sz ys.length]) | _ => none
        | .own k => match nth M k with
          | some (.tick sz' n) => ow (sz' = sz ∧ n = xs.length) (some (.slice (.own k) (xs ++ ys), setN M k (.tick sz (xs.length + ys.length))))
          | _ => none
        | .sh => none)
    | _, _ => none
  | .iaddrA n sz x i =>
    match x.ev env, i.ev env with
    | .rptr cs, .int _ m => ow (0 ≤ m ∧ m < n ∧ n * sz ≤ cs.length) (some (.rptr (cs.drop (m.toNat * sz)), M))
    | _, _ => none
  | .indexA n x i =>
    match x.ev env, i.ev env with
    | .agg cs, .int _ m => ow (0 ≤ m ∧ m < n) (obind (cs[m.toNat]?) fun c => some (c, M))
    | _, _ => none
  | .appendS e y z =>
    match y.ev env, z.ev env with
    | .obuf k t x l, .str s => match nth M k with
      | some (.tick sz n) => ow (sz = 1 ∧ t = e ∧ n = l.length ∧ roomOk (l.length + s.length) 1) (some (.obuf k t x (l ++ s), setN M k (.tick 1 (l.length + s.length))))
      | _ => none
    | _, _ => none
  | .appendB e y z =>
    match y.ev env, z.ev env with
    | .obuf k t x l, .slice _ ys => obind (bytesOf ys) fun s => oif (sameL (sameV 9) ys (s.map u8V)) (match nth M k with
      | some (.tick sz n) => ow (sz = 1 ∧ t = e ∧ n = l.length ∧ roomOk (l.length + s.length) 1) (some (.obuf k t x (l ++ s), setN M k (.tick 1 (l.length + s.length))))
      | _ => none) none
    | _, _ => none
  | o => aop call env M o
theorem rop_le {call : CallF} {env : Env} {M : AMem} {o : AOp} {x : AVal × AMem} (h : rop call env M o = some x) : aop call env M o = some x := by
  by_cases hb : ∃ e x y, o = .appendB e x y
  · obtain ⟨e, y, z, rfl⟩ := hb
    simp only [rop, aop] at h ⊢
    split at h
    · rename_i k t l tk ys e1 e2
      obtain ⟨s, hs, h⟩ := obind_inv h
      simp only [e1, e2, hs, obind_some]
      rcases oif_inv h with ⟨h1, h2⟩ | ⟨_, h2⟩
      · rw [owhen_pos (sameL_eq (sameV_eq 9) h1)]
        simp only [ow_eq] at h2
        exact h2
      · cases h2
    · cases h
  · have : rop call env M o = aop call env M o := by
      cases o <;> first | rfl | (exact absurd ⟨_, _, _, rfl⟩ hb) | (simp only [rop, aop, ow_eq, widB_eq]; rfl)
    rw [← this]; exact h
def growOk (env : Env) : AOp → Bool
  | .mv _ | .own .. | .pick .. | .box0 _ | .box _ | .build .. | .lits .. | .litsO .. | .loadA .. | .load1 _ | .chk _ | .bin .. | .eqA .. | .eqB .. | .not _ | .neg _ | .conv .. | .same _ | .fn .. | .faddr .. | .fieldA .. | .field1 ..
  | .s2b _ | .boxO .. | .boxW .. | .bindF .. | .iaddrA .. | .indexA .. | .look .. | .indexS .. | .extract .. | .lenS _ | .lenV _ | .minmax .. | .b2s _ | .iaddr .. | .sliceS .. => true
  | _ => false
theorem growOk_sound {call : CallF} {env : Env} {M : AMem} {o : AOp} {x : AVal × AMem} (h : growOk env o = true) (hx : aop call env M o = some x) : M <+: x.2 := by
  have hm : ∀ {v : AVal} {x : AVal × AMem}, some (v, M) = some x → M <+: x.2 := fun h => by cases h; exact List.prefix_refl _
  have ha : ∀ {v : AVal} {l : AMem} {x : AVal × AMem}, some (v, M ++ l) = some x → M <+: x.2 := fun h => by cases h; exact List.prefix_append _ _
  have ho : ∀ {p : Prop} {y : Option (AVal × AMem)} {x : AVal × AMem}, owhen p y = some x → y = some x := fun {p} {y} {x} h => by
    by_cases hp : p
    · rwa [owhen_pos hp] at h
    · rw [eq_false hp, owhen_false] at h; cases h
  cases o <;> first | (cases h; done) | skip
  all_goals (simp only [aop] at hx)
  all_goals (repeat' (first | exact hm hx | exact ha hx | (replace hx := ho hx) | (have hx' := obind_inv hx; clear hx; obtain ⟨_, _, hx⟩ := hx') | (have hx' := oif_inv hx; clear hx; rcases hx' with ⟨_, hx⟩ | ⟨_, hx⟩) | (split at hx) | (cases hx; done)))
def sepOk (env : Env) (o : AOp) (sep : List Nat) : Bool := match o with
  | .store _ a _ => match a.ev env with
    | .ptr id _ => !sep.isEmpty && sep.all fun z => match getS env z with | .ptr i _ => i != id | _ => false
    | _ => false
  | _ => false
theorem nth_setN_ne {M : AMem} {i j : Nat} {b : ABox} (h : j ≠ i) : nth (setN M i b) j = nth M j := by
  induction M generalizing i j with
  | nil => rfl
  | cons a r ih =>
    cases i with
    | zero => cases j with
      | zero => exact absurd rfl h
      | succ j => rfl
    | succ i => cases j with
      | zero => rfl
      | succ j => simp only [setN, nth]; exact ih (fun e => h (by rw [e]))
theorem sepOk_sound {call : CallF} {env : Env} {M : AMem} {o : AOp} {sep : List Nat} {x : AVal × AMem} (h : sepOk env o sep = true) (hx : aop call env M o = some x) : sep ≠ [] ∧ sepAll env M x.2 sep := by
  unfold sepOk at h
  split at h
  · rename_i n a y
    split at h
    · rename_i id off ha
      simp only [Bool.and_eq_true, List.all_eq_true] at h
      refine ⟨fun e => by rw [e] at h; simp at h, ?_⟩
      simp only [aop, ha] at hx
      split at hx
      · rename_i cs hcs
        obtain ⟨new, _, hx⟩ := obind_inv hx
        split at hx
        · cases hx
          have h2 := h.2
          clear h
          induction sep with
          | nil => trivial
          | cons z r ih =>
            refine ⟨?_, ih fun w hw => h2 w (List.mem_cons_of_mem _ hw)⟩
            have hz := h2 z List.mem_cons_self
            split
            · rename_i i o hi
              rw [hi] at hz
              exact nth_setN_ne (by simpa using hz)
            · rename_i hi
              split at hz
              · rename_i i o hi'; exact absurd hi' (hi i o)
              · cases hz
        · cases hx
      · cases hx
    · cases h
  · cases h
def sameB : ABox → ABox → Bool
  | .cells a, .cells b => sameL (sameV 9) a b
  | .tick a b, .tick c d => decide (a = c) && decide (b = d)
  | .map a b, .map c d => sameL (sameV 9) a c && sameL (sameV 9) b d
  | .siter a b, .siter c d => decide (a = c) && decide (b = d)
  | .arr a b c, .arr d e f => decide (a = d) && decide (b = e) && sameL (sameV 9) c f
  | _, _ => false
theorem sameB_eq {a b : ABox} (h : sameB a b = true) : a = b := by
  have hl : ∀ {a b : List AVal}, sameL (sameV 9) a b = true → a = b := fun h => sameL_eq (sameV_eq 9) h
  unfold sameB at h
  split at h <;> (try simp only [Bool.and_eq_true, decide_eq_true_eq] at h) <;> first
    | (cases h; done)
    | (rw [hl h])
    | (rw [h.1, h.2])
    | (rw [hl h.1, hl h.2])
    | (obtain ⟨⟨h1, h2⟩, h3⟩ := h; rw [h1, h2, hl h3])
def prefB : AMem → AMem → Bool
  | [], _ => true
  | a :: r, b :: s => sameB a b && prefB r s
  | _ :: _, [] => false
theorem prefB_eq : ∀ {a b : AMem}, prefB a b = true → a <+: b
  | [], _, _ => List.nil_prefix
  | a :: r, b :: s, h => by
    simp only [prefB, Bool.and_eq_true] at h
    rw [sameB_eq h.1]
    exact (List.prefix_cons_inj _).2 (prefB_eq h.2)
  | _ :: _, [], h => by cases h
noncomputable def rstep (call : CallF) (o : AOper) (env : Env) (M : AMem) : Option (AVal × AMem) :=
  match o.nomem with
  | true => ow (o.op.argIds env = []) (rop call env M o.op)
  | false => match o.grow with
    | false => rop call env M o.op
    | true => match growOk env o.op || sepOk env o.op o.sep with
      | true => rop call env M o.op
      | false => obind (rop call env M o.op) fun x => oif (prefB M x.2) (some x) none
theorem rstep_le {call : CallF} {o : AOper} {env : Env} {M : AMem} {x : AVal × AMem} (h : rstep call o env M = some x) : astep call o env M = some x := by
  unfold rstep at h
  unfold astep
  split at h
  · rename_i hn
    simp only [hn]
    rw [ow_eq] at h
    obtain ⟨h1, h2⟩ := owhen_inv h
    rw [owhen_pos h1]
    exact rop_le h2
  · rename_i hn
    simp only [hn]
    split at h
    · rename_i hg
      simp only [hg]
      exact rop_le h
    · rename_i hg
      simp only [hg]
      split at h
      · rename_i hb
        replace h := rop_le h
        rw [h, obind_some]
        refine owhen_pos ?_
        rcases Bool.or_eq_true .. ▸ hb with hb | hb
        · exact .inl (growOk_sound hb h)
        · exact .inr (sepOk_sound hb h)
      · obtain ⟨y, hy, h⟩ := obind_inv h
        replace hy := rop_le hy
        rcases oif_inv h with ⟨hp, h⟩ | ⟨_, h⟩
        · injection h with h; subst h
          rw [hy, obind_some]
          exact owhen_pos (.inl (prefB_eq hp))
        · cases h
noncomputable def rregion (call : CallF) : List AOper → Env → AMem → Option (Env × AMem)
  | [], env, M => some (env, M)
  | o :: r, env, M =>
    match o.guard with
    | none => obind (rstep call o env M) fun x => rregion call r (putS env o.dst x.1) x.2
    | some (t, want) => match getS env t with
      | .bool b => oif (b == want) (obind (rstep call o env M) fun x => rregion call r (putS env o.dst x.1) x.2)
        (rregion call r (putS env o.dst (.tuple [])) M)
      | .tuple [] => rregion call r (putS env o.dst (.tuple [])) M
      | _ => none
theorem rregion_le {call : CallF} : ∀ {ops : List AOper} {env : Env} {M : AMem} {x : Env × AMem}, rregion call ops env M = some x → aregion call ops env M = some x
  | [], _, _, _, h => h
  | o :: r, env, M, x, h => by
    rw [rregion] at h
    rw [aregion]
    split at h
    · rename_i hg
      simp only [hg]
      obtain ⟨a, ha, h⟩ := obind_inv h
      rw [rstep_le ha, obind_some]
      exact rregion_le h
    · rename_i t want hg
      simp only [hg]
      split at h
      · rename_i b hb
        simp only [hb]
        rcases oif_inv h with ⟨hw, h⟩ | ⟨hw, h⟩
        · obtain ⟨a, ha, h⟩ := obind_inv h
          rw [hw, oif_true, rstep_le ha, obind_some]
          exact rregion_le h
        · rw [hw, oif_false]
          exact rregion_le h
      · rename_i hb
        simp only [hb]
        exact rregion_le h
      · cases h
noncomputable def rexec (call : CallF) (fuel : Nat) : ACode → Env → AMem → Option Out
  | .skip, env, M => some ⟨.normal, env, M⟩
  | .region ops _ live, env, M => obind (rregion call ops env M) fun x => some ⟨.normal, keepS x.1 live, x.2⟩
  | .seq a b, env, M => obind (rexec call fuel a env M) fun o => goOn o (rexec call fuel b)
  | .cond c x y, env, M => match c.ev env with
    | .bool t => oif t (rexec call fuel x env M) (rexec call fuel y env M)
    | _ => none
  | .block id c, env, M => obind (rexec call fuel c env M) fun o => some (outOf id o)
  | .loop live c, env, M => iter (rexec call fuel c) live fuel env M
  | .exit id, env, M => some ⟨.exit id, env, M⟩
  | .ret, env, M => some ⟨.ret, env, M⟩
theorem rexec_le {call : CallF} {fuel : Nat} : ∀ (c : ACode) {env : Env} {M : AMem} {x : Out}, rexec call fuel c env M = some x → aexec call c env M = some x
  | .skip, _, _, _, h => h
  | .exit _, _, _, _, h => h
  | .ret, _, _, _, h => h
  | .region ops d live, env, M, x, h => by
    simp only [aexec, rexec] at *
    obtain ⟨a, ha, h⟩ := obind_inv h
    rw [rregion_le ha]; exact h
  | .seq a b, env, M, x, h => by
    simp only [aexec, rexec] at *
    obtain ⟨o, ho, h⟩ := obind_inv h
    rw [rexec_le a ho]
    exact goOn_mono (fun env M x => rexec_le b) h
  | .cond c a b, env, M, x, h => by
    simp only [aexec, rexec] at *
    split
    · rename_i t ht
      simp only [ht] at h
      rcases oif_inv h with ⟨rfl, h⟩ | ⟨rfl, h⟩
      · exact rexec_le a h
      · exact rexec_le b h
    · rename_i ht
      split at h
      · rename_i t ht'; exact absurd ht' (ht t)
      · cases h
  | .block id c, env, M, x, h => by
    simp only [aexec, rexec] at *
    obtain ⟨o, ho, h⟩ := obind_inv h
    rw [rexec_le c ho]; exact h
  | .loop live c, env, M, x, h => by
    simp only [aexec, rexec] at *
    exact lim_some (fun n x => iter_up live n) (iter_mono (fun env M x => rexec_le c) live fuel h)
noncomputable def rcall (T : Tab) (loops : Nat) : Nat → CallF
  | 0, _, _, _ => none
  | n + 1, f, args, M => match T.prim f with
    | some g => g args M
    | none => match T.code f with
      | none => none
      | some fn => if args.length = fn.nparams then obind (rexec (rcall T loops n) loops fn.body (parsFrom 0 args) M) (finish fn.results M.length) else none
def TabLe (S T : Tab) : Prop := S.code = T.code ∧ (∀ f, (S.prim f).isSome = (T.prim f).isSome) ∧ ∀ f g, S.prim f = some g → ∃ g', T.prim f = some g' ∧ ∀ a M x, g a M = some x → g' a M = some x
theorem rcall_le {S T : Tab} (h : TabLe S T) (loops : Nat) : ∀ n, CallLe (rcall S loops n) (acallN T n)
  | 0, _, _, _, _, h => by cases h
  | n + 1, f, a, M, x, hx => by
    rw [rcall] at hx
    rw [acallN]
    split at hx
    · rename_i g hg
      obtain ⟨g', h1, h2⟩ := h.2.2 f g hg
      simp only [h1]
      exact h2 a M x hx
    · rename_i hg
      have : T.prim f = none := by
        have := h.2.1 f
        rw [hg] at this
        cases hT : T.prim f with
        | none => rfl
        | some g => rw [hT] at this; cases this
      simp only [this, ← h.1]
      split at hx
      · cases hx
      · rename_i fn hf
        simp only [hf]
        split at hx
        · rename_i hl
          rw [if_pos hl]
          obtain ⟨o, ho, hx⟩ := obind_inv hx
          rw [aexec_mono (rcall_le h loops n) _ (rexec_le _ ho), obind_some]
          exact hx
        · cases hx
theorem rcall_sound {S T : Tab} (h : TabLe S T) {loops n f : Nat} {a : List AVal} {M : AMem} {x : AVal × AMem} (hx : rcall S loops n f a M = some x) : acall T f a M = some x :=
  lim_some (fun n x h => acallN_up T n f a M x h) (rcall_le h loops n f a M x hx)
end Go.Abs
namespace Go.Proofs.YtannopdcbocngaaGreatDoor
open Go Go.Abs
noncomputable def rClone (sz bytes : Nat) : List AVal → AMem → Option (AVal × AMem)
  | [.slice _ xs], M => match xs with
    | [] => some (.slice .c0 [], M)
    | x :: r => ow (widB (x :: r) sz = true ∧ roomOk (x :: r).length bytes) (some (.aref M.length 0 sz 0 (x :: r).length, M ++ [.arr sz 0 (x :: r)]))
  | _, _ => none
theorem rClone_eq (sz bytes : Nat) : rClone sz bytes = pClone sz bytes := by
  funext a M
  unfold rClone pClone
  simp only [ow_eq, widB_eq]
  rfl
noncomputable def rCopy (sz bytes : Nat) : List AVal → AMem → Option (AVal × AMem)
  | [.slice _ xs], M => ow (widB xs sz = true ∧ roomOk xs.length bytes) (some (.slice .sh xs, M))
  | _, _ => none
theorem rCopy_eq (sz bytes : Nat) : rCopy sz bytes = pCopy sz bytes := by
  funext a M
  unfold rCopy pCopy
  simp only [ow_eq, widB_eq]
  rfl
noncomputable def rDelete (sz : Nat) : List AVal → AMem → Option (AVal × AMem)
  | [.aref id ver sz' lo hi, .int .i64 i, .int .i64 i'], M => match nth M id with
    | some (.arr sz0 v xs) => ow (v = ver ∧ sz' = sz ∧ lo = 0 ∧ hi = xs.length ∧ 0 ≤ i ∧ i.toNat < xs.length ∧ i' = i + 1 ∧ xs.length ≤ 2 ^ 44)
        (some (.aref id (ver + 1) sz 0 (xs.length - 1), setN M id (.arr sz0 (ver + 1) (xs.take i.toNat ++ xs.drop (i.toNat + 1)))))
    | _ => none
  | _, _ => none
theorem rDelete_eq (sz : Nat) : rDelete sz = pDelete sz := by
  funext a M
  unfold rDelete pDelete
  simp only [ow_eq, widB_eq]
  rfl
noncomputable def rInsert (sz bytes : Nat) : List AVal → AMem → Option (AVal × AMem)
  | [.aref id ver sz' lo hi, .int .i64 i, .slice _ [e]], M => match nth M id with
    | some (.arr sz0 v xs) => ow (v = ver ∧ sz' = sz ∧ lo = 0 ∧ hi = xs.length ∧ 0 ≤ i ∧ i.toNat ≤ xs.length ∧ e.cells.length = sz ∧ roomOk (xs.length + 1) bytes)
        (some (.aref id (ver + 1) sz 0 (xs.length + 1), setN M id (.arr sz0 (ver + 1) (xs.take i.toNat ++ e :: xs.drop i.toNat))))
    | _ => none
  | [.slice .c0 [], .int .i64 i, .slice _ [e]], M => ow (i = 0 ∧ e.cells.length = sz) (some (.aref M.length 0 sz 0 1, M ++ [.arr sz 0 [e]]))
  | _, _ => none
theorem rInsert_eq (sz bytes : Nat) : rInsert sz bytes = pInsert sz bytes := by
  funext a M
  unfold rInsert pInsert
  simp only [ow_eq, widB_eq]
  rfl
noncomputable def rSplitS : List AVal → AMem → Option (AVal × AMem)
  | [.str s, .str [c]], M => if s.length < 4294967281 then some (.slice .sh ((cutL c s).map .str), M) else none
  | _, _ => none
theorem rSplitS_le : ∀ a M x, rSplitS a M = some x → pSplitS a M = some x := by
  intro a M x h
  unfold rSplitS at h
  split at h
  · rename_i s c
    split at h
    · rename_i hs
      simp only [pSplitS]
      rw [if_pos ⟨hs, by simp⟩, splitS_one]
      exact h
    · cases h
  · cases h
noncomputable def primR : Nat → Option (List AVal → AMem → Option (AVal × AMem))
  | 42 => some pItoa
  | 58 => some pAtoi
  | 98 => some pIndexByte
  | 93 => some pCut
  | 64 => some rSplitS
  | 48 => some pJoin
  | 91 => some pCheck
  | 51 => some pString
  | 110 => some (rClone 3 32)
  | 107 => some (rClone 6 80)
  | 108 => some (rInsert 6 80)
  | 109 => some (rInsert 3 32)
  | 171 => some pCompare
  | 28 => some pReadHist
  | _ => none
theorem primR_le (f : Nat) (g : List AVal → AMem → Option (AVal × AMem)) (h : primR f = some g) : ∃ g', primS f = some g' ∧ ∀ a M x, g a M = some x → g' a M = some x := by
  unfold primR at h
  split at h
  all_goals first | cases h; done | skip
  all_goals (injection h with h; subst h)
  all_goals (simp only [primS, prim, Nat.reduceEqDiff, if_false, if_true])
  all_goals first
    | exact ⟨_, rfl, fun _ _ _ h => h⟩
    | exact ⟨_, rfl, rSplitS_le⟩
    | exact ⟨_, rfl, fun _ _ _ h => by rw [rClone_eq] at h; exact h⟩
    | exact ⟨_, rfl, fun _ _ _ h => by rw [rInsert_eq] at h; exact h⟩
theorem primR_some (f : Nat) : (primR f).isSome = (primS f).isSome := by
  cases h : primR f with
  | some g => obtain ⟨g', h', _⟩ := primR_le f g h; rw [h']; rfl
  | none =>
    have : primS f = none := by
      by_cases h28 : f = 28
      · subst h28; cases h
      · simp only [primS, if_neg h28]
        unfold prim
        split <;> first | rfl | (cases h; done)
    rw [this]; try rfl
noncomputable def tabR : Tab := ⟨code, primR⟩
theorem run_sound {loops n f : Nat} {a : List AVal} {M : AMem} {x : AVal × AMem} (hx : rcall tabR loops n f a M = some x) : acall tabS f a M = some x :=
  rcall_sound (S := tabR) (T := tabS) ⟨rfl, primR_some, primR_le⟩ hx
end Go.Proofs.YtannopdcbocngaaGreatDoor
namespace Go.Proofs.YtannopdcbocngaaGreatDoor
open Go Go.Abs
theorem head_ok : acall tabS 10 [] [] = some (.bool true, []) := run_sound (loops := 60) (n := 20) (by kernel_rfl)
end Go.Proofs.YtannopdcbocngaaGreatDoor
namespace Go.Proofs.YtannopdcbocngaaGreatDoor
open Go Go.Abs
attribute [local irreducible] exK opsK opK gK forkK kr acall callOp owhen obind
theorem cS28 (s : Bytes) (h1 : s.length ≤ 900000) (h2 : (cutL 10 s).length ≤ 100000) : acall tabS 28 [.str s] [] = some (.tuple [.slice .sh ((rdHist s).1.map eEv), eI (rdHist s).2], []) := by
  refine acall_prim (T := tabS) (g := pReadHist) rfl ?_
  simp only [pReadHist]
  rw [if_pos ⟨h1, h2⟩]
theorem kS28 (s : Bytes) (h1 : s.length ≤ 900000) (h2 : (cutL 10 s).length ≤ 100000) (M : AMem) : callOp (acall tabS) 28 [.str s] M = some (.tuple [.slice .sh ((rdHist s).1.map eEv), eI (rdHist s).2], M) := callOp0 (cS28 s h1 h2) rfl rfl rfl rfl rfl M
theorem kS10 (M : AMem) : callOp (acall tabS) 10 [] M = some (.bool true, M) := callOp0 head_ok rfl rfl rfl rfl rfl M
theorem kS24 (s : Bytes) (h : s.length ≤ 900000) (M : AMem) : callOp (acall tabS) 24 [.str s] M = some (.tuple [eOp .sh (rdOp s).1, eI (rdOp s).2], M) := callOp0 (tab_leS (c24 s h)) rfl rfl rfl rfl rfl M
theorem kS26 (s : Bytes) (h : s.length ≤ 900000) (M : AMem) : callOp (acall tabS) 26 [.str s] M = some (.tuple [eAns .sh .sh (rdAns s).1, eI (rdAns s).2], M) := callOp0 (tab_leS (c26 s h)) rfl rfl rfl rfl rfl M
theorem kS15 (o : Op) (h : OpOk o) (M : AMem) : callOp (acall tabS) 15 [eOp .sh o] M = some (.str (opN o), M) := callOp0 (tab_leS (c15 o h .sh)) rfl rfl rfl rfl rfl M
theorem kS17 (a : Ans) (h : AnsOk a) (M : AMem) : callOp (acall tabS) 17 [eAns .sh .sh a] M = some (.str (ansN a), M) := callOp0 (tab_leS (c17 a h .sh .sh (.inl rfl) (.inl rfl))) rfl rfl rfl rfl rfl M
theorem kS19 (l : List Event) (hok : ∀ e, e ∈ l → EvOk e) (hl : l.length ≤ 100000) (M : AMem) : callOp (acall tabS) 19 [.slice .sh (l.map eEv)] M = some (.str (histN l), M) := callOp0 (tab_leS (c19 l hok hl)) rfl rfl rfl rfl rfl M
theorem kS30 (a b : Op) (M : AMem) : callOp (acall tabS) 30 [eOp .sh a, eOp .sh b] M = some (.bool (sameOpB a b), M) := callOp0 (tab_leS (c30 a b)) rfl rfl rfl rfl rfl M
theorem kS31 (a b : Ans) (hl : a.names.length ≤ 10000000) (M : AMem) : callOp (acall tabS) 31 [eAns .sh .sh a, eAns .sh .sh b] M = some (.bool (sameAnsB a b), M) := callOp0 (tab_leS (c31 a b hl)) rfl rfl rfl rfl rfl M
theorem rdHist_ok {t : Bytes} (h : t.length ≤ 900000) : ∀ e, e ∈ (rdHist t).1 → EvOk e := by
  unfold rdHist
  split
  · intro e he; cases he
  · rename_i l hl
    split
    · exact evGo_ok hl fun x hx => Nat.le_trans (cutL_mem 10 t x hx) h
    · intro e he; cases he
theorem rdHist_len (t : Bytes) : (rdHist t).1.length ≤ t.length + 1 := by
  unfold rdHist
  split
  · simp
  · rename_i l hl
    split
    · have := evGo_len hl; have := cutL_len 10 t; simp; omega
    · simp
theorem c6 (s : Bytes) : acall tabS 6 [.str s] [] = some (.bool true, []) := by
  refine acall_ex rfl rfl rfl ?_
  have hmin : (if 2000 < ((s.length : Nat) : Int) then 2000 else ((s.length : Nat) : Int)) = ((min s.length 2000 : Nat) : Int) := by split <;> omega
  have hc : (((min s.length 2000 : Nat) : Int) ≤ ((s.length : Nat) : Int) ∧ ((0 : Nat) : Int) ≤ ((min s.length 2000 : Nat) : Int)) = True := by
    simp only [eq_iff_iff, iff_true]; omega
  have hn : (((min s.length 2000 : Nat) : Int)).toNat = min s.length 2000 := by omega
  obtain ⟨t, ht⟩ : ∃ t, s.take (min s.length 2000) = t := ⟨_, rfl⟩
  have htl : t.length ≤ 2000 := by rw [← ht]; simp; omega
  have h24 := kS24 t (by omega)
  have h26 := kS26 t (by omega)
  have h28 := kS28 t (by omega) (by have := cutL_len 10 t; omega)
  have o1 := rdOp_ok (s := t) (by omega)
  have o2 := rdAns_ok (s := t) (by omega)
  have h15 := kS15 _ o1
  have h17 := kS17 _ o2
  have h19 := kS19 _ (rdHist_ok (t := t) (by omega)) (by have := rdHist_len t; omega)
  have h30 := kS30 (rdOp t).1 opZ
  have h31 := kS31 (rdAns t).1 ansZ (by have := o2.names; omega)
  have f1 : ((rdOp t).2 = 0 ∧ opN (rdOp t).1 = t) ∨ ((rdOp t).2 = 11 ∧ (rdOp t).1 = opZ) := by unfold rdOp; split <;> simp_all
  have f2 : ((rdAns t).2 = 0 ∧ ansN (rdAns t).1 = t) ∨ ((rdAns t).2 = 11 ∧ (rdAns t).1 = ansZ) := by unfold rdAns; split <;> simp_all
  have f3 : ((rdHist t).2 = 0 ∧ histN (rdHist t).1 = t) ∨ ((rdHist t).2 = 11 ∧ (rdHist t).1 = []) := by
    unfold rdHist
    split
    · simp
    · split <;> simp_all
  have z1 : sameOpB opZ opZ = true := by decide
  have z2 : sameAnsB ansZ ansZ = true := by decide
  have g1 : (((rdOp t).2 == 0) = true ∧ ((rdOp t).2 != 0) = false ∧ (opN (rdOp t).1 != t) = false) ∨ (((rdOp t).2 == 0) = false ∧ ((rdOp t).2 != 0) = true ∧ sameOpB (rdOp t).1 opZ = true) := by
    rcases f1 with ⟨a1, a2⟩ | ⟨a1, a2⟩
    · exact .inl ⟨by simp [a1], by simp [a1], by simp [a2]⟩
    · exact .inr ⟨by simp [a1], by simp [a1], by rw [a2]; exact z1⟩
  have g2 : (((rdAns t).2 == 0) = true ∧ ((rdAns t).2 != 0) = false ∧ (ansN (rdAns t).1 != t) = false) ∨ (((rdAns t).2 == 0) = false ∧ ((rdAns t).2 != 0) = true ∧ sameAnsB (rdAns t).1 ansZ = true) := by
    rcases f2 with ⟨a1, a2⟩ | ⟨a1, a2⟩
    · exact .inl ⟨by simp [a1], by simp [a1], by simp [a2]⟩
    · exact .inr ⟨by simp [a1], by simp [a1], by rw [a2]; exact z2⟩
  have g3 : (((rdHist t).2 == 0) = true ∧ (histN (rdHist t).1 == t) = true) ∨ (((rdHist t).2 == 0) = false ∧ ((rdHist t).2 == 11) = true ∧ ((((rdHist t).1.length : Nat) : Int) == 0) = true) := by
    rcases f3 with ⟨a1, a2⟩ | ⟨a1, a2⟩
    · exact .inl ⟨by simp [a1], by simp [a2]⟩
    · exact .inr ⟨by simp [a1], by simp [a1], by simp [a2]⟩
  simp only [eOp, eOpC, eAns, eAnsC] at h24 h26 h15 h17 h30 h31
  simp only [show opZ.kind = 0 from rfl, show opZ.client = 0 from rfl, show opZ.path = [] from rfl, show opZ.dest = [] from rfl, show opZ.n = 0 from rfl, show opZ.m = 0 from rfl, show opZ.handle = 0 from rfl, show opZ.data = [] from rfl, List.map_nil] at h30
  simp only [show ansZ.err = 0 from rfl, show ansZ.ino = 0 from rfl, show ansZ.kind = 0 from rfl, show ansZ.n = 0 from rfl, show ansZ.m = 0 from rfl, show ansZ.names = [] from rfl, show ansZ.data = [] from rfl, List.map_nil] at h31
  simp only [fn6, E6, kS10, hmin, hc, hn, ht, h24, h26, h28, EVT, EVD, ↓reduceIte, Nat.reduceEqDiff, reduceCtorEq, Nat.reduceAdd, Nat.reduceLeDiff, ne_eq, Nat.reduceLT, Int.reduceLT, Int.reduceLE, Int.reduceNeg]
  rcases g1 with ⟨a1, a2, a3⟩ | ⟨a1, a2, a3⟩ <;> rcases g2 with ⟨b1, b2, b3⟩ | ⟨b1, b2, b3⟩ <;> rcases g3 with ⟨d1, d2⟩ | ⟨d1, d2, d3⟩
  all_goals
    simp (config := {maxSteps := 1000000}) only [E6, a1, a2, a3, b1, b2, b3, d1, d2, h15, h17, h19, h30, h31, EVT, EVD, ↓reduceIte, Nat.reduceEqDiff, reduceCtorEq, Nat.reduceAdd, Nat.reduceLeDiff, ne_eq, Nat.reduceLT, Int.reduceLT, Int.reduceLE, Int.reduceNeg]
    try simp only [E6, d3, List.length_map, EVT, EVD, ↓reduceIte, Nat.reduceEqDiff, reduceCtorEq, Nat.reduceAdd, Nat.reduceLeDiff, ne_eq, Nat.reduceLT, Int.reduceLT, Int.reduceLE, Int.reduceNeg]
end Go.Proofs.YtannopdcbocngaaGreatDoor
namespace Go.Proofs.YtannopdcbocngaaGreatDoor
open Go Go.Abs Go.RowKit Go.Lib
theorem one_taken {cs : Array Value} {i : Nat} {c : Value} (h : (cs.toList.drop (i * 1)).take 1 = [c]) : cs[i]? = some c := by
  have := congrArg (·[0]?) h
  simpa [List.getElem?_take, List.getElem?_drop] using this
theorem strs_laid {P : Program} {W : World} {n : String} {g t e m : Nat} {ds : List (List UInt8)} (h : VarReads P W n (.agg (ds.map fun s => .lit (.string s)))) (hg : P.globalNamed n = some g) (ht : (P.globals[g]?).map (·.type) = some t) (hu : P.underlying t = some (.array m e)) (he : P.underlying e = some .string) (hc : P.cellsOf e = 1) :
    ∀ k s, k < m → ds[k]? = some s → W.cell? ⟨g, k, none⟩ = some (.string (Go.Abs.bs s)) := by
  intro k s hk hs
  obtain ⟨g', t', cs, fuel, p, h1, h2, h3, h4⟩ := h
  obtain rfl := Option.some.inj (hg.symm.trans h1)
  obtain rfl := Option.some.inj (ht.symm.trans h2)
  obtain ⟨fuel', d, q, e1, e2⟩ := array_elem hu h4 k hk
  rw [hc] at e2
  obtain ⟨s', e3, e4, _⟩ := DataW.trod_string he e2
  rw [World.var?_cell hg h3, one_taken e3]
  rw [List.getElem?_map, hs] at e1
  injection e1 with e1
  injection e4 with e4 _
  rw [← e1] at e4
  injection e4 with e4
  injection e4 with e4
  congr 2
  rw [e4]
  apply ByteArray.ext
  simp [Go.Abs.bs]
theorem ints_laid {P : Program} {W : World} {n : String} {g t e m : Nat} {ki : IntKind} {ds : List Int} (h : VarReads P W n (.agg (ds.map fun s => .lit (.int ki s)))) (hg : P.globalNamed n = some g) (ht : (P.globals[g]?).map (·.type) = some t) (hu : P.underlying t = some (.array m e)) (he : P.underlying e = some (.int ki)) (hc : P.cellsOf e = 1) :
    ∀ k s, k < m → ds[k]? = some s → W.cell? ⟨g, k, none⟩ = some (.int ki s) := by
  intro k s hk hs
  obtain ⟨g', t', cs, fuel, p, h1, h2, h3, h4⟩ := h
  obtain rfl := Option.some.inj (hg.symm.trans h1)
  obtain rfl := Option.some.inj (ht.symm.trans h2)
  obtain ⟨fuel', d, q, e1, e2⟩ := array_elem hu h4 k hk
  rw [hc] at e2
  obtain ⟨s', e3, e4, _⟩ := DataW.trod_int he e2
  rw [World.var?_cell hg h3, one_taken e3]
  rw [List.getElem?_map, hs] at e1
  injection e1 with e1
  injection e4 with e4 _
  rw [← e1] at e4
  injection e4 with e4
  injection e4 with _ e4
  rw [e4]
abbrev laidL := Rows.reportOwnRow.laid
def jX0 : J := ⟨fun _ => none, fun _ _ => False⟩
theorem rel0 (W : World) : Rel jX0 [] W where
  inj := fun _ _ _ h => by cases h
  lt := fun _ _ h => by cases h
  fix := fun _ _ h => by cases h
  tick := fun _ _ _ _ h => by cases h
  arr := fun _ _ _ _ h => by cases h
  xdis := fun _ _ h => by cases h
  xlt := fun _ _ h => h.elim
theorem saf0 {W : World} {b k : Nat} {v : Value} (h : W.cell? ⟨b, k, none⟩ = some v) : Saf jX0 [] W b k := by
  refine ⟨?_, fun id hid => by simp at hid, fun h => h⟩
  simp only [World.cell?] at h
  split at h
  · rename_i o ho
    exact (Array.getElem?_eq_some_iff.1 ho).1
  · cases h
theorem size_of_shape {W : World} (hsh : W.ShapedOpen Tryz.prog) {g n t : Nat} (hg : g < Tryz.prog.globals.size) (h0 : (((begin Tryz.prog (fun _ _ => 0) default).world.heap[g]?).bind Obj.row?).map (fun x => (x.1.size, x.2)) = some (n, t)) :
    ∃ us, W.heap[g]? = some (.cells us t (0, 0)) ∧ us.size = n := by
  obtain ⟨⟨zero, t'⟩, hz, he⟩ := Option.map_eq_some_iff.1 h0
  injection he with e1 e2
  obtain ⟨cs, h1, h2, _⟩ := hsh.1 g zero t' hg hz
  subst e2
  exact ⟨cs, h1, h2.trans e1⟩
theorem globL {W : World} (hL : laidMet Tryz.prog laidL W) (hsh : W.ShapedOpen Tryz.prog) : Glob jX0 [] W := by
  have r0 := Lib.laidMet.reads hL (.tail _ (.tail _ (.tail _ (.tail _ (.tail _ (.tail _ (.head _)))))))
  have r1 := Lib.laidMet.reads hL (.tail _ (.tail _ (.tail _ (.tail _ (.tail _ (.head _))))))
  have r2 := Lib.laidMet.reads hL (.tail _ (.tail _ (.tail _ (.tail _ (.head _)))))
  have r3 := Lib.laidMet.reads hL (.tail _ (.tail _ (.head _)))
  have c0 := strs_laid (ds := wordsL) (g := 0) (t := 76) (e := 9) (m := 18) r0 (by kernel_rfl) (by kernel_rfl) (by kernel_rfl) (by kernel_rfl) (by kernel_rfl)
  have c3 := ints_laid (ds := pow10L.map fun (n : Nat) => (n : Int)) (ki := .u64) (g := 3) (t := 216) (e := 127) (m := 20) r3 (by kernel_rfl) (by kernel_rfl) (by kernel_rfl) (by kernel_rfl) (by kernel_rfl)
  have sent : ∀ {n : String} {g : Nat} {nm : String} {d : DataW Unit}, VarReads Tryz.prog W n (.iface nm d) → Tryz.prog.globalNamed n = some g → (Tryz.prog.globals[g]?).map (·.type) = some 89 → ∃ t p, W.cell? ⟨g, 0, none⟩ = some (.iface t p) := by
    rintro n g nm d ⟨g', t', cs, fuel, p, h1, h2, h3, h4⟩ hg ht
    obtain rfl := Option.some.inj (hg.symm.trans h1)
    obtain rfl := Option.some.inj (ht.symm.trans h2)
    obtain ⟨_, u, v, e1, _⟩ := iface_of_trod (P := Tryz.prog) (ti := 89) (ms := #[("Error", 92)]) (by kernel_rfl) h4
    refine ⟨u, v, ?_⟩
    rw [World.var?_cell hg h3]
    have := congrArg (·[0]?) e1
    simpa using this
  obtain ⟨m, hm⟩ := cell_of_shapedOpen_int (P := Tryz.prog) (g := 4) (t := 3) (k := .i64) hsh (of_decide_eq_true (by kernel_rfl)) (zero := #[.int .i64 0]) (by kernel_rfl) rfl (by kernel_rfl) (by kernel_rfl) (by kernel_rfl)
  obtain ⟨us0, n0, z0⟩ := size_of_shape hsh (g := 0) (n := 18) (t := 76) (of_decide_eq_true (by kernel_rfl)) (by kernel_rfl)
  obtain ⟨us3, n3, z3⟩ := size_of_shape hsh (g := 3) (n := 20) (t := 216) (of_decide_eq_true (by kernel_rfl)) (by kernel_rfl)
  obtain ⟨t1, p1, h1⟩ := sent (g := 1) r1 (by kernel_rfl) (by kernel_rfl)
  obtain ⟨t2, p2, h2⟩ := sent (g := 2) r2 (by kernel_rfl) (by kernel_rfl)
  refine ⟨fun b vs k v hb hk => ?_, fun b vs hb => ?_, fun b p hb => ?_⟩
  · have hcell : W.cell? ⟨b, k, none⟩ = some v := by
      match b, hb with
      | 0, hb =>
        cases hb
        rw [List.getElem?_map, Option.map_eq_some_iff] at hk
        obtain ⟨s, hs, rfl⟩ := hk
        exact c0 k s (List.getElem?_eq_some_iff.1 hs).1 hs
      | 3, hb =>
        cases hb
        rw [List.getElem?_map, Option.map_eq_some_iff] at hk
        obtain ⟨s, hs, rfl⟩ := hk
        exact c3 k s (List.getElem?_eq_some_iff.1 hs).1 (by rw [List.getElem?_map, hs]; rfl)
      | 1, hb => cases hb
      | 2, hb => cases hb
      | n + 4, hb => cases hb
    exact ⟨saf0 hcell, hcell⟩
  · match b, hb with
    | 0, hb => cases hb; exact ⟨us0, _, _, n0, z0⟩
    | 3, hb => cases hb; exact ⟨us3, _, _, n3, z3⟩
    | 1, hb => cases hb
    | 2, hb => cases hb
    | n + 4, hb => cases hb
  · match b, hb with
    | 1, hb => cases hb; exact ⟨_, ⟨t1, p1, rfl⟩, saf0 h1, h1⟩
    | 2, hb => cases hb; exact ⟨_, ⟨t2, p2, rfl⟩, saf0 h2, h2⟩
    | 4, hb => cases hb; exact ⟨_, ⟨m, rfl⟩, saf0 hm, hm⟩
    | 0, hb => cases hb
    | 3, hb => cases hb
    | n + 5, hb => cases hb
end Go.Proofs.YtannopdcbocngaaGreatDoor
namespace Go.Proofs.YtannopdcbocngaaGreatDoor
open Go Go.Abs Go.ChangeShapes Go.WideShapes Go.ChangeAt Go.RowKit Go.Lib
open Go.ChangeMaps (open_string shut_string)
theorem ownK : ownKnob Tryz.prog.godebug = none := by kernel_rfl
def valsOf : DataW Unit → List Value
  | .lit (.int k z) => [.int k z]
  | .lit (.string s) => [.string ⟨s.toArray⟩]
  | .agg ds => ds.flatMap fun d => match d with
    | .lit (.int k z) => [.int k z]
    | .lit (.string s) => [.string ⟨s.toArray⟩]
    | .agg es => es.flatMap fun e => match e with
      | .lit (.int k z) => [.int k z]
      | .lit (.string s) => [.string ⟨s.toArray⟩]
      | _ => []
    | _ => []
  | _ => []
noncomputable def low : Nat := (World.holding Tryz.prog default ⟨#[], #[], []⟩).heap.size
abbrev synS : ByteArray := ⟨#[105, 110, 118, 97, 108, 105, 100, 32, 115, 121, 110, 116, 97, 120]⟩
abbrev rngS : ByteArray := ⟨#[118, 97, 108, 117, 101, 32, 111, 117, 116, 32, 111, 102, 32, 114, 97, 110, 103, 101]⟩
noncomputable def laidWorld (os : Os) : World :=
  let w0 := World.holding Tryz.prog os ⟨#[.cells #[.string synS] 223, .cells #[.string rngS] 223], #[], []⟩
  let put (h : Array Obj) (g : Nat) (cs : List Value) : Array Obj := h.modify g fun
    | .cells _ t frozen => .cells cs.toArray t frozen
    | o => o
  let h := put w0.heap 0 (valsOf Rows.laid_catacomb_report_words)
  let h := put h 1 [.iface 221 (.pointer (some ⟨low, 0, none⟩))]
  let h := put h 2 [.iface 221 (.pointer (some ⟨low + 1, 0, none⟩))]
  let h := put h 3 (valsOf Rows.laid_internal_strconv_uint64pow10)
  let h := put h 5 (valsOf Rows.laid_unicode_utf8_first)
  let h := put h 6 (valsOf Rows.laid_unicode_utf8_acceptRanges)
  let h := put h 7 (valsOf Rows.laid_math_bits_deBruijn32tab)
  let h := put h 8 (valsOf Rows.laid_math_bits_deBruijn64tab)
  { w0 with heap := h }
theorem laid_met (os : Os) (args : Array Value) : laidMet Tryz.prog laidL ((laidWorld os).forCall (fun _ _ => 0) ⟨#[], args, []⟩).memory :=
  laidMet_of_run' 8 (by kernel_rfl) (by kernel_rfl)
end Go.Proofs.YtannopdcbocngaaGreatDoor
namespace Go.Proofs.YtannopdcbocngaaGreatDoor
open Go Go.Abs Go.ChangeShapes Go.WideShapes Go.RowKit Go.Deep
theorem laidOut : laidOutB Tryz.prog = true := by kernel_rfl
section
variable {H : Type} {enc : TypeId × Value → H}
theorem trodAll_stays {W W' : World} (hb : Below W.heap.size W W') : ∀ {ts : List TypeId} {vs : List Value} {ds : List (DataW H)} {p : List MemPlace}, DataW.TrodAll enc Tryz.prog W 0 (fun _ => true) true ts vs ds p →
    (∀ t, t ∈ ts → Tryz.prog.readableRec t = true ∧ t < Tryz.prog.types.size) → (∀ x ∈ p, x.block < W.heap.size) → DataW.TrodAll enc Tryz.prog W' 0 (fun b => decide (b < W.heap.size)) true ts vs ds p
  | [], vs, ds, p, h, _, _ => by
    obtain ⟨rfl, rfl, rfl⟩ := trodAll_nil h
    exact trodAll_mk0
  | t :: ts, vs, ds, p, h, ht, hp => by
    obtain ⟨v, vs', d, ds', p1, q, rfl, rfl, rfl, h1, h2⟩ := trodAll_cons h
    exact trodAll_cons_mk (Below.trod laidOut (ht t List.mem_cons_self).1 (ht t List.mem_cons_self).2 h1 hb (fun x hx => hp x (List.mem_append_left _ hx)))
      (trodAll_stays hb h2 (fun t ht' => ht t (List.mem_cons_of_mem _ ht')) (fun x hx => hp x (List.mem_append_right _ hx)))
abbrev SafW (w : World) : Nat → Nat → Prop := Saf jX0 [] w
theorem saf_none {w : World} {b off : Nat} (h : b < w.heap.size) : SafW w b off := ⟨h, fun id hid => absurd hid (Nat.not_lt_zero _), fun hx => hx⟩
theorem cell_lt {w : World} {b off : Nat} {v : Value} (h : w.cell? ⟨b, off, none⟩ = some v) : b < w.heap.size := by
  rcases Nat.lt_or_ge b w.heap.size with hb | hb
  · exact hb
  · simp [World.cell?, Array.getElem?_eq_none hb] at h
theorem addr_add (b off i : Nat) : (⟨b, off, none⟩ : Addr).add i = ⟨b, off + i, none⟩ := by
  unfold Addr.add
  split
  · rename_i h; rw [h]; rfl
  · rfl
theorem int_rep {w : World} {fuel t : Nat} {v : Value} {x : DataW H × List MemPlace} (ht : Tryz.prog.underlying t = some (.int .i64)) (h : DataW.trod enc Tryz.prog w 0 (fun _ => true) true fuel t [v] = some x) : ∃ n : Int, okI n ∧ RepP w (SafW w) (.int .i64 n) v := by
  obtain ⟨n, q, _, wf⟩ := DataW.trod_int ht h
  cases q
  refine ⟨n, ?_, .int _ _⟩
  have h3 : IntKind.i64.min ≤ n ∧ n ≤ IntKind.i64.max := by simpa [Lit.wf] using wf
  have e1 : IntKind.i64.min = -9223372036854775808 := by decide
  have e2 : IntKind.i64.max = 9223372036854775807 := by decide
  unfold okI; omega
theorem u8_rep {w : World} {fuel t : Nat} {v : Value} {x : DataW H × List MemPlace} (ht : Tryz.prog.underlying t = some (.int .u8)) (h : DataW.trod enc Tryz.prog w 0 (fun _ => true) true fuel t [v] = some x) : ∃ b : UInt8, RepP w (SafW w) (u8V b) v := by
  obtain ⟨n, q, _, wf⟩ := DataW.trod_int ht h
  cases q
  have h3 : IntKind.u8.min ≤ n ∧ n ≤ IntKind.u8.max := by simpa [Lit.wf] using wf
  have e1 : IntKind.u8.min = 0 := by decide
  have e2 : IntKind.u8.max = 255 := by decide
  have e : n = ((UInt8.ofNat n.toNat).toNat : Int) := by rw [UInt8.toNat_ofNat']; omega
  refine ⟨UInt8.ofNat n.toNat, ?_⟩
  unfold u8V
  rw [← e]
  exact .int _ _
theorem str_rep {w : World} {fuel t : Nat} {v : Value} {x : DataW H × List MemPlace} (ht : Tryz.prog.underlying t = some .string) (h : DataW.trod enc Tryz.prog w 0 (fun _ => true) true fuel t [v] = some x) : ∃ s : Bytes, RepP w (SafW w) (.str s) v := by
  obtain ⟨s, q, _, _⟩ := DataW.trod_string ht h
  cases q
  refine ⟨s.data.toList, ?_⟩
  have : Go.Abs.bs s.data.toList = s := by apply ByteArray.ext; simp [Go.Abs.bs]
  have h := RepP.str (w := w) (saf := SafW w) s.data.toList
  rw [this] at h
  exact h
theorem choose_list {α : Type} (P : Nat → α → Prop) : ∀ (n : Nat), (∀ i, i < n → ∃ a, P i a) → ∃ l : List α, l.length = n ∧ ∀ i a, l[i]? = some a → P i a
  | 0, _ => ⟨[], rfl, fun i a h => by cases i <;> cases h⟩
  | n + 1, h => by
    obtain ⟨l, hl, hp⟩ := choose_list P n (fun i hi => h i (by omega))
    obtain ⟨a, ha⟩ := h n (by omega)
    refine ⟨l ++ [a], by simp [hl], fun i b hb => ?_⟩
    rcases Nat.lt_or_ge i n with hi | hi
    · rw [List.getElem?_append_left (by omega)] at hb
      exact hp i b hb
    · rw [List.getElem?_append_right (by omega)] at hb
      have : i = n := by
        have := (List.getElem?_eq_some_iff.1 hb).1
        simp at this; omega
      subst this
      simp [hl] at hb
      subst hb; exact ha
def CellsRep (w : World) (l : List AVal) (cs : List Value) : Prop := l.length = cs.length ∧ ∀ (k : Nat) (c : AVal) (v : Value), l[k]? = some c → cs[k]? = some v → RepP w (SafW w) c v
theorem CellsRep.one {w : World} {c : AVal} {v : Value} (h : RepP w (SafW w) c v) : CellsRep w [c] [v] := ⟨rfl, fun k c' v' h1 h2 => by
  match k with
  | 0 => cases h1; cases h2; exact h
  | k + 1 => cases h1⟩
theorem CellsRep.app {w : World} {a b : List AVal} {cs ds : List Value} (h : CellsRep w a cs) (g : CellsRep w b ds) : CellsRep w (a ++ b) (cs ++ ds) := ⟨by simp [h.1, g.1], fun k c v h1 h2 => by
  rcases Nat.lt_or_ge k a.length with hk | hk
  · rw [List.getElem?_append_left hk] at h1
    rw [List.getElem?_append_left (by rw [← h.1]; exact hk)] at h2
    exact h.2 k c v h1 h2
  · rw [List.getElem?_append_right hk] at h1
    rw [List.getElem?_append_right (by rw [← h.1]; exact hk), ← h.1] at h2
    exact g.2 _ c v h1 h2⟩
theorem CellsRep.nil {w : World} : CellsRep w [] [] := ⟨rfl, fun k c v h1 _ => by cases h1⟩
theorem rows_rep {α : Type} {w : World} {fuel t e m : Nat} {v : Value} {x : DataW H × List MemPlace} {eC : α → List AVal} {mk : α → AVal} {P : α → Prop} (ht : Tryz.prog.underlying t = some (.slice e)) (hm : Tryz.prog.cellsOf e = m) (hm0 : 0 < m)
    (hmk : ∀ a, (mk a).cells = eC a) (hlen : ∀ a, (eC a).length = m)
    (he : ∀ (n : Nat) (cs : List Value) (y : DataW H × List MemPlace), cs.length = m → DataW.trod enc Tryz.prog w 0 (fun _ => true) true n e cs = some y → ∃ a, P a ∧ CellsRep w (eC a) cs)
    (h : DataW.trod enc Tryz.prog w 0 (fun _ => true) true fuel t [v] = some x) :
    ∃ l : List α, (∀ a, a ∈ l → P a) ∧ RepP w (SafW w) (.slice .sh (l.map mk)) v := by
  rcases open_slice ht h with ⟨hcs, _⟩ | ⟨a, len, cap, mm, n, D, Pl, hcs, _, hl, _, hmm, _, hi⟩
  · cases hcs
    exact ⟨[], by simp, RepP.nil _ _ _⟩
  · cases hcs
    simp only [if_true] at hmm
    obtain ⟨b, off, spot⟩ := a
    rw [hm] at hi
    have each : ∀ i, i < len → ∃ s : α, P s ∧ ∃ cs', w.cells? 0 ((⟨b, off, spot⟩ : Addr).add (i * m)) m = some cs' ∧ cs'.length = m ∧ CellsRep w (eC s) cs' := by
      intro i hi'
      obtain ⟨cs', hcl, ht⟩ := hi i (by omega)
      have hln : cs'.length = m := (World.cells?_some hcl).2.1
      obtain ⟨s, hs, hr⟩ := he _ _ _ hln ht
      exact ⟨s, hs, cs', hcl, hln, hr⟩
    obtain ⟨l, hll, hlp⟩ := choose_list _ len each
    refine ⟨l, fun s hs => ?_, ?_⟩
    · obtain ⟨i, hi'⟩ := List.mem_iff_getElem?.1 hs
      exact (hlp i s hi').1
    have hsp : len ≠ 0 → spot = none := fun h0 => by
      obtain ⟨s, _, cs', hcl, h6, _⟩ := each 0 (by omega)
      obtain ⟨_, _, hat⟩ := World.cells?_some hcl
      have := hat 0 hm0
      have h3 : cs'[0]? = some (cs'[0]'(by omega)) := List.getElem?_eq_getElem (by omega)
      rw [h3] at this
      simpa [Addr.add] using World.cell?_spot this
    have cell : ∀ (i : Nat) (s : α) (k : Nat) (c : AVal), l[i]? = some s → (eC s)[k]? = some c → ∃ u, w.cell? ⟨b, off + (i * m + k), none⟩ = some u ∧ RepP w (SafW w) c u := fun i s k c hs hk => by
      obtain ⟨_, cs', hcl, h6, hr⟩ := hlp i s hs
      have hil : i < len := by have := (List.getElem?_eq_some_iff.1 hs).1; omega
      obtain rfl := hsp (by omega)
      obtain ⟨_, _, hat⟩ := World.cells?_some hcl
      have hk6 : k < m := by have := (List.getElem?_eq_some_iff.1 hk).1; rw [hlen] at this; exact this
      have h1 := hat k hk6
      have h3 : cs'[k]? = some (cs'[k]'(by omega)) := List.getElem?_eq_getElem (by omega)
      rw [addr_add, addr_add, h3] at h1
      exact ⟨_, by rw [← Nat.add_assoc]; exact h1, hr.2 k c _ hk h3⟩
    refine .slice _ _ _ _ b off m (fun q => (w.cell? ⟨b, off + q, none⟩).getD undef) (by simp [hll]) hl (fun hne => ?_) ?_ ?_ ?_
    · obtain rfl := hsp (fun h0 => hne (by rw [h0] at hll; rw [List.length_eq_zero_iff.1 hll]; rfl))
      rfl
    · intro x hx
      obtain ⟨s, _, rfl⟩ := List.mem_map.1 hx
      rw [hmk, hlen]
    · intro i x k c hx hk
      rw [List.getElem?_map] at hx
      obtain ⟨s, hs, rfl⟩ := Option.map_eq_some_iff.1 hx
      rw [hmk] at hk
      obtain ⟨u, h1, _⟩ := cell i s k c hs hk
      refine ⟨by rw [h1]; rfl, saf_none (cell_lt h1)⟩
    · intro i x k c hx hk
      rw [List.getElem?_map] at hx
      obtain ⟨s, hs, rfl⟩ := Option.map_eq_some_iff.1 hx
      rw [hmk] at hk
      obtain ⟨u, h1, h2⟩ := cell i s k c hs hk
      show RepP w _ c ((w.cell? _).getD undef)
      rw [h1]
      exact h2
theorem bytes_rep {w : World} {fuel t e : Nat} {v : Value} {x : DataW H × List MemPlace} (ht : Tryz.prog.underlying t = some (.slice e)) (he : Tryz.prog.underlying e = some (.int .u8)) (hc : Tryz.prog.cellsOf e = 1) (h : DataW.trod enc Tryz.prog w 0 (fun _ => true) true fuel t [v] = some x) :
    ∃ d : Bytes, RepP w (SafW w) (.slice .sh (d.map u8V)) v := by
  obtain ⟨l, _, h⟩ := rows_rep (eC := fun b => [u8V b]) (mk := u8V) (P := fun _ => True) ht hc (by omega) (fun _ => rfl) (fun _ => rfl) (fun n cs y hl hy => by
    match cs, hl with
    | [c], _ =>
      obtain ⟨b, hb⟩ := u8_rep he hy
      exact ⟨b, trivial, .one hb⟩) h
  exact ⟨l, h⟩
theorem strs_rep {w : World} {fuel t e : Nat} {v : Value} {x : DataW H × List MemPlace} (ht : Tryz.prog.underlying t = some (.slice e)) (he : Tryz.prog.underlying e = some .string) (hc : Tryz.prog.cellsOf e = 1) (h : DataW.trod enc Tryz.prog w 0 (fun _ => true) true fuel t [v] = some x) :
    ∃ d : List Bytes, RepP w (SafW w) (.slice .sh (d.map .str)) v := by
  obtain ⟨l, _, h⟩ := rows_rep (eC := fun b => [.str b]) (mk := fun (b : Bytes) => AVal.str b) (P := fun _ => True) ht hc (by omega) (fun _ => rfl) (fun _ => rfl) (fun n cs y hl hy => by
    match cs, hl with
    | [c], _ =>
      obtain ⟨b, hb⟩ := str_rep he hy
      exact ⟨b, trivial, .one hb⟩) h
  exact ⟨l, h⟩
set_option maxRecDepth 100000 in
theorem whole_rep {w : World} {t : Nat} {fs : Array Field} {r : Reach} {b : Nat} {v : Value} {d : DataW H} {ps : List MemPlace} {P : List Value → Prop} (ht : Tryz.prog.underlying t = some (.struct fs)) (h : DataW.Trod enc Tryz.prog w 0 (fun _ => true) true t v d ps) (hv : Value.okWide Tryz.prog w r b t v)
    (K : ∀ (n : Nat) (cs : List Value) (y : DataW H × List MemPlace), DataW.trod enc Tryz.prog w 0 (fun _ => true) true n t cs = some y → P cs) : ∃ cs : Array Value, v = .agg cs ∧ P cs.toList := by
  obtain ⟨cs, rfl, _⟩ := okWide_struct ht hv
  obtain ⟨fuel, hf⟩ := h
  have hcs : (Value.agg cs).cells.toList = cs.toList := rfl
  rw [hcs] at hf
  exact ⟨cs, rfl, K _ _ _ hf⟩
theorem agg_rep {w : World} {l : List AVal} {cs : Array Value} (h : CellsRep w l cs.toList) : Rep jX0 [] w (.agg l) (.agg cs) :=
  .agg (by rw [h.1]; simp) (fun i c v hc hv => .plain (h.2 i c v hc (by simpa using hv)))
theorem true_calls {T : Tab} (hT : SoundC Tryz.prog (acall T)) {f : Nat} {args : List AVal} (h : acall T f args [] = some (.bool true, [])) (w : World) (hG : Glob jX0 [] w) (vs : Array Value) (hl : args.length = vs.size) (hv : ∀ (i : Nat) (c : AVal) (v : Value), args[i]? = some c → vs[i]? = some v → Rep jX0 [] w c v) :
    Calls Tryz.prog f vs w fun e w' => e = .returned (.bool true) ∧ Below w.heap.size w w' := by
  refine ((hT f args [] _ h).2 jX0 w vs (rel0 w) hG hl hv).mono ?_
  rintro e w' ⟨v, j', rfl, _, hx, hr⟩
  obtain rfl := hr.bool_inv
  exact ⟨rfl, hx.os, hx.tape, hx.output, hx.size, fun k hk => (hx.old k hk fun i hi => absurd hi (Nat.not_lt_zero _)).1⟩
end
theorem two_of {α : Type} {a : Array α} {l : List α} (h : a.toList = l) : a = l.toArray := by rw [← h]
end Go.Proofs.YtannopdcbocngaaGreatDoor
