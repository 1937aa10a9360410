import Derived.Calls
import Derived.Laws.Sem
import Derived.Below
import Derived.Test.YtnapockikkbkcaaGreatProg
import Derived.KernelRfl
set_option linter.unusedSimpArgs false
set_option linter.unusedVariables false
namespace Go.Abs
open Go
inductive Tk where
  | sh | c0 | own (k : Nat)
  deriving DecidableEq, Repr
inductive AVal where
  | bool (b : Bool)
  | int (k : IntKind) (n : Int)
  | str (s : List UInt8)
  | slice (tk : Tk) (xs : List AVal)
  | agg (cs : List AVal)
  | tuple (vs : List AVal)
  | ptr (id off : Nat)
  | rptr (cs : List AVal)
  | func (f : Nat) (caps : List AVal)
  | mref (id : Nat)
  | iref (id : Nat)
  | fmap (ks vs : List AVal)
  | aref (id ver sz lo hi : Nat)
  | eptr (id ver i off : Nat)
  | raw (v : Value)
  | any
  deriving Inhabited
inductive ABox where
  | cells (cs : List AVal)
  | tick (sz n : Nat)
  | map (ks vs : List AVal)
  | siter (s : List UInt8) (pos : Nat)
  | arr (sz ver : Nat) (xs : List AVal)
def ABox.tag : ABox → Nat
  | .cells _ => 0
  | .tick sz _ => sz + 3
  | .map _ _ => 1
  | .siter _ _ => 2
  | .arr sz _ _ => sz + 3
def ABox.fixed : ABox → Bool
  | .tick _ _ | .arr _ _ _ => false
  | _ => true
abbrev AMem := List ABox
abbrev Env := List (Nat × AVal)
def obind {α β : Type} (x : Option α) (f : α → Option β) : Option β := match x with
  | some a => f a
  | none => none
@[congr] theorem obind_congr {α β : Type} {x x' : Option α} {f : α → Option β} (h : x = x') : obind x f = obind x' f := by rw [h]
@[simp] theorem obind_some {α β : Type} (a : α) (f : α → Option β) : obind (some a) f = f a := rfl
@[simp] theorem obind_none {α β : Type} (f : α → Option β) : obind none f = none := rfl
def oif {α : Type} (b : Bool) (x y : Option α) : Option α := match b with
  | true => x
  | false => y
@[congr] theorem oif_congr {α : Type} {b b' : Bool} {x y : Option α} (h : b = b') : oif b x y = oif b' x y := by rw [h]
@[simp] theorem oif_true {α : Type} (x y : Option α) : oif true x y = x := rfl
@[simp] theorem oif_false {α : Type} (x y : Option α) : oif false x y = y := rfl
@[simp] theorem obind_oif {α β : Type} (b : Bool) (x y : Option α) (f : α → Option β) : obind (oif b x y) f = oif b (obind x f) (obind y f) := by cases b <;> rfl
open Classical in
noncomputable def owhen {α : Type} (p : Prop) (x : Option α) : Option α := if p then x else none
@[congr] theorem owhen_congr {α : Type} {p p' : Prop} {x : Option α} (h : p = p') : owhen p x = owhen p' x := by rw [h]
theorem owhen_pos {α : Type} {p : Prop} {x : Option α} (h : p) : owhen p x = x := if_pos h
@[simp] theorem owhen_true {α : Type} (x : Option α) : owhen True x = x := if_pos trivial
@[simp] theorem owhen_false {α : Type} (x : Option α) : owhen False x = none := if_neg not_false
@[simp] theorem obind_owhen {α β : Type} (p : Prop) (x : Option α) (f : α → Option β) : obind (owhen p x) f = owhen p (obind x f) := by
  unfold owhen; split <;> rfl
def getS : Env → Nat → AVal
  | [], _ => .any
  | (k, v) :: e, t => if k = t then v else getS e t
def AVal.cells : AVal → List AVal
  | .agg cs => cs
  | x => [x]
def AVal.isCell : AVal → Bool
  | .agg _ | .tuple _ | .any => false
  | .raw v => match v with | .agg _ | .tuple _ => false | _ => true
  | _ => true
def AVal.cells? : AVal → Option (List AVal)
  | .agg cs => some cs
  | .tuple _ | .any => none
  | .raw (.agg _) => none
  | x => some [x]
def AVal.shut : AVal → AVal
  | .slice _ xs => .slice .sh xs
  | x => x
def AVal.shutD : AVal → AVal
  | .slice _ xs => .slice .sh xs
  | .agg cs => .agg (cs.map AVal.shut)
  | x => x
def AVal.plainCell : AVal → Bool
  | .bool _ | .int .. | .str _ => true
  | .slice .sh _ => true
  | .raw v => match v with | .pointer none | .nilFunc | .nilIface | .map none => true | _ => false
  | _ => false
def AVal.plain : AVal → Bool
  | .agg cs => cs.all AVal.plainCell
  | x => x.plainCell
def AVal.back0 (base : Nat) (M : AMem) : AVal → AVal
  | .slice (.own k) xs => if k < base then .slice (.own k) xs else .slice .sh xs
  | .ptr id off => if id < base then .ptr id off else .any
  | .mref id => if id < base then .mref id else .any
  | .iref id => if id < base then .iref id else .any
  | .aref id ver sz lo hi => if id < base then .aref id ver sz lo hi else match M[id]? with
    | some (.arr _ v xs) => if v = ver then .slice .sh ((xs.take hi).drop lo) else .any
    | _ => .any
  | .eptr id ver i off => if id < base then .eptr id ver i off else .any
  | .func _ _ | .agg _ | .tuple _ => .any
  | x => x
def AVal.back1 (base : Nat) (M : AMem) : AVal → AVal
  | .func f caps => .func f (caps.map (AVal.back0 base M))
  | x => x.back0 base M
def AVal.back2 (base : Nat) (M : AMem) : AVal → AVal
  | .agg cs => .agg (cs.map (AVal.back1 base M))
  | x => x.back1 base M
def AVal.backV (base : Nat) (M : AMem) : AVal → AVal
  | .tuple vs => .tuple (vs.map (AVal.back2 base M))
  | x => x.back2 base M
def ABox.back (base : Nat) (M : AMem) : ABox → ABox
  | .cells cs => .cells (cs.map (AVal.back1 base M))
  | .tick sz n => .tick sz n
  | .map ks vs => .map ks (vs.map (AVal.back2 base M))
  | .siter s p => .siter s p
  | .arr sz v xs => .arr sz v xs
def backM (base : Nat) (M : AMem) : AMem := (M.take base).map (ABox.back base M)
def backE (base : Nat) (M : AMem) (env : Env) : Env := env.map fun x => (x.1, x.2.backV base M)
def AVal.backR1 (base : Nat) (M : AMem) : AVal → AVal
  | .slice _ xs => .slice .sh xs
  | .mref id => if id < base then .mref id else match M[id]? with
    | some (.map ks vs) => if vs.all AVal.plain && ks.all AVal.plainCell then .fmap ks vs else .any
    | _ => .any
  | x => x.back1 base M
def AVal.backR2 (base : Nat) (M : AMem) : AVal → AVal
  | .agg cs => .agg (cs.map (AVal.backR1 base M))
  | x => x.backR1 base M
def AVal.backR (base : Nat) (M : AMem) : AVal → AVal
  | .tuple vs => .tuple (vs.map (AVal.backR2 base M))
  | x => x.backR2 base M
def AVal.ids0 : AVal → List Nat
  | .ptr id _ | .mref id | .iref id | .aref id _ _ _ _ | .eptr id _ _ _ => [id]
  | .slice (.own k) _ => [k]
  | _ => []
def AVal.ids1 : AVal → List Nat
  | .func _ caps => caps.flatMap AVal.ids0
  | x => x.ids0
def AVal.ids : AVal → List Nat
  | .agg cs => cs.flatMap AVal.ids1
  | x => x.ids1
def AVal.flat0 : AVal → Bool
  | .func _ _ | .agg _ | .tuple _ => false
  | _ => true
def AVal.flat1 : AVal → Bool
  | .func _ caps => caps.all AVal.flat0
  | .agg _ | .tuple _ => false
  | _ => true
def AVal.flat : AVal → Bool
  | .agg cs => cs.all AVal.flat1
  | x => x.flat1
def ABox.flat : ABox → Bool
  | .cells cs => cs.all AVal.flat1
  | .map _ vs => vs.all AVal.flat
  | _ => true
def AVal.ren0 (ρ : Nat → Nat) : AVal → AVal
  | .ptr id off => .ptr (ρ id) off
  | .mref id => .mref (ρ id)
  | .iref id => .iref (ρ id)
  | .aref id v sz lo hi => .aref (ρ id) v sz lo hi
  | .eptr id v i off => .eptr (ρ id) v i off
  | .slice (.own k) xs => .slice (.own (ρ k)) xs
  | x => x
def AVal.ren1 (ρ : Nat → Nat) : AVal → AVal
  | .func f caps => .func f (caps.map (AVal.ren0 ρ))
  | x => x.ren0 ρ
def AVal.ren (ρ : Nat → Nat) : AVal → AVal
  | .agg cs => .agg (cs.map (AVal.ren1 ρ))
  | x => x.ren1 ρ
def AVal.renR (ρ : Nat → Nat) : AVal → AVal
  | .tuple vs => .tuple (vs.map (AVal.ren ρ))
  | x => x.ren ρ
def AVal.flatR : AVal → Bool
  | .tuple vs => vs.all AVal.flat
  | x => x.flat
def ABox.ren (ρ : Nat → Nat) : ABox → ABox
  | .cells cs => .cells (cs.map (AVal.ren1 ρ))
  | .map ks vs => .map ks (vs.map (AVal.ren ρ))
  | b => b
def ABox.ids : ABox → List Nat
  | .cells cs => cs.flatMap AVal.ids1
  | .map _ vs => vs.flatMap AVal.ids
  | _ => []
def nth {α : Type} : List α → Nat → Option α
  | [], _ => none
  | a :: _, 0 => some a
  | _ :: l, n + 1 => nth l n
def setN {α : Type} : List α → Nat → α → List α
  | [], _, _ => []
  | _ :: l, 0, x => x :: l
  | a :: l, n + 1, x => a :: setN l n x
def addAll : List Nat → List Nat → List Nat
  | a, [] => a
  | a, x :: r => addAll (if a.contains x then a else a ++ [x]) r
def idsAt (M : AMem) : List Nat → List Nat
  | [] => []
  | i :: r => (match nth M i with | some b => b.ids | none => []) ++ idsAt M r
def reach1 (M : AMem) (acc : List Nat) : List Nat := addAll acc (idsAt M acc)
def reach (M : AMem) (l : List Nat) : List Nat := reach1 M (reach1 M (reach1 M (addAll [] l)))
def idxN : List Nat → Nat → Nat
  | [], _ => 0
  | a :: l, x => if a = x then 0 else idxN l x + 1
def atN (ids : List Nat) (i : Nat) : Nat := (nth ids i).getD 0
def pickM (M : AMem) (ρ : Nat → Nat) : List Nat → Option AMem
  | [] => some []
  | i :: r => match nth M i with
    | some b => if b.flat then obind (pickM M ρ r) fun l => some (b.ren ρ :: l) else none
    | none => none
def wback (ids : List Nat) (M : AMem) : List Nat → AMem → AMem
  | i :: r, b :: l => wback ids (setN M i (b.ren (atN ids))) r l
  | _, _ => M
def AVal.frz0 (M : AMem) : AVal → AVal
  | .aref id ver sz lo hi => match nth M id with
    | some (.arr _ v xs) => if v = ver then .slice .sh ((xs.take hi).drop lo) else .any
    | _ => .any
  | x => x
def AVal.frz (M : AMem) : AVal → AVal
  | .agg cs => .agg (cs.map (AVal.frz0 M))
  | x => x.frz0 M
def frzM (M : AMem) : List Nat → AMem
  | [] => M
  | i :: r => match nth M i with
    | some (.arr sz _ xs) => frzM (setN M i (.tick sz xs.length)) r
    | _ => frzM M r
inductive Opd where
  | tmp (t : Nat)
  | cst (v : AVal)
def Opd.ev (env : Env) : Opd → AVal
  | .tmp t => getS env t
  | .cst v => v
inductive ABin where
  | add | sub | mul | quo | rem | eql | neq | lss | leq | gtr | geq | shl | shr | and | or | xor
  deriving DecidableEq, Repr
inductive FK where
  | i | s | b
  deriving DecidableEq
inductive AOp where
  | mv (x : Opd)
  | own (sz : Nat) (x : Opd)
  | pick (c a b : Opd)
  | box0 (cs : List AVal)
  | box (x : Opd)
  | build (zero : List AVal) (parts : List (Nat × Nat × Opd))
  | lits (sz : Nat) (parts : List Opd)
  | litsO (sz : Nat) (parts : List Opd)
  | loadA (n : Nat) (x : Opd)
  | load1 (x : Opd)
  | store (n : Nat) (a x : Opd)
  | chk (x : Opd)
  | bin (op : ABin) (x y : Opd)
  | eqA (ks : List FK) (neg : Bool) (x y : Opd)
  | eqB (neg : Bool) (x y : Opd)
  | not (x : Opd)
  | neg (x : Opd)
  | conv (k : IntKind) (x : Opd)
  | same (x : Opd)
  | fn (f : Nat) (caps : List Opd)
  | sliceS (x : Opd) (lo hi : Option Opd)
  | sliceV (sz : Nat) (x : Opd) (lo hi mx : Option Opd)
  | faddr (off : Nat) (x : Opd)
  | fieldA (off n : Nat) (x : Opd)
  | field1 (off : Nat) (x : Opd)
  | iaddr (sz : Nat) (x i : Opd)
  | indexS (x i : Opd)
  | extract (x : Opd) (i : Nat)
  | call (f : Nat) (args : List Opd)
  | callV (f : Opd) (args : List Opd)
  | callD (f : Nat) (args : List Opd)
  | callF (f : Nat) (args : List Opd)
  | clearA (sz : Nat) (zero : List AVal) (x : Opd)
  | lenS (x : Opd)
  | lenV (x : Opd)
  | append (sz bytes : Nat) (x y : Opd)
  | minmax (mx : Bool) (x y : Opd)
  | b2s (x : Opd)
  | mkMap
  | look (fk : FK) (zero : AVal) (ok : Bool) (m k : Opd)
  | upd (fk : FK) (m k v : Opd)
  | lenM (m : Opd)
  | rngS (x : Opd)
  | nextS (it : Opd)
structure AOper where
  dst : Option Nat
  op : AOp
  guard : Option (Nat × Bool)
  grow : Bool := false
  nomem : Bool := false
  sep : List Nat := []
def ob (d : Nat) (o : AOp) : AOper := ⟨some d, o, none, false, false, []⟩
def og (d g : Nat) (b : Bool) (o : AOp) : AOper := ⟨some d, o, some (g, b), false, false, []⟩
def ox (o : AOp) : AOper := ⟨none, o, none, false, false, []⟩
inductive ACode where
  | skip
  | region (ops : List AOper) (draw : Bool) (live : List Nat)
  | seq (a b : ACode)
  | cond (c : Opd) (x y : ACode)
  | block (id : Nat) (c : ACode)
  | loop (live : List Nat) (c : ACode)
  | exit (id : Nat)
  | ret
inductive AExit where
  | normal | exit (id : Nat) | ret
  deriving DecidableEq
abbrev CallF := Nat → List AVal → AMem → Option (AVal × AMem)
def strLt : List UInt8 → List UInt8 → Bool
  | _, [] => false
  | [], _ :: _ => true
  | a :: x, b :: y => a < b || (a == b && strLt x y)
def abin (op : ABin) : AVal → AVal → Option AVal
  | .int k a, .int k' b =>
    match op with
    | .shl => if 0 ≤ b then some (.int k (k.wrap (a * 2 ^ (min b.toNat k.bits)))) else none
    | .shr => if 0 ≤ b then some (.int k (a.fdiv (2 ^ (min b.toNat k.bits)))) else none
    | op => if k ≠ k' then none else
      match op with
      | .add => some (.int k (k.wrap (a + b)))
      | .sub => some (.int k (k.wrap (a - b)))
      | .mul => some (.int k (k.wrap (a * b)))
      | .quo => if b = 0 then none else some (.int k (k.wrap (a.tdiv b)))
      | .rem => if b = 0 then none else some (.int k (a.tmod b))
      | .eql => some (.bool (a == b))
      | .neq => some (.bool (a != b))
      | .lss => some (.bool (a < b))
      | .leq => some (.bool (a ≤ b))
      | .gtr => some (.bool (a > b))
      | .geq => some (.bool (a ≥ b))
      | _ => none
  | .str a, .str b =>
    match op with
    | .add => if ((a.length + b.length : Nat) : Int) > IntKind.i64.max then none else some (.str (a ++ b))
    | .eql => some (.bool (a == b))
    | .neq => some (.bool (a != b))
    | .lss => some (.bool (strLt a b))
    | .leq => some (.bool (strLt a b || a == b))
    | .gtr => some (.bool (!(strLt a b || a == b)))
    | .geq => some (.bool (!(strLt a b)))
    | _ => none
  | _, _ => none
def eqCell : FK → AVal → AVal → Option Bool
  | .i, .int k a, .int k' b => if k = k' then some (a == b) else none
  | .s, .str a, .str b => some (a == b)
  | .b, .bool a, .bool b => some (a == b)
  | _, _, _ => none
def eqCells : List FK → List AVal → List AVal → Option Bool
  | [], [], [] => some true
  | k :: ks, a :: x, b :: y => obind (eqCell k a b) fun e => obind (eqCells ks x y) fun f => some (e && f)
  | _, _, _ => none
def bytesOf : List AVal → Option (List UInt8)
  | [] => some []
  | .int .u8 n :: r => obind (bytesOf r) fun l => some (UInt8.ofNat n.toNat :: l)
  | _ => none
def mapGet (fk : FK) (k : AVal) : List AVal → List AVal → Option (Option AVal)
  | [], [] => some none
  | k' :: ks, v :: vs => obind (eqCell fk k k') fun b => oif b (some (some v)) (mapGet fk k ks vs)
  | _, _ => none
def mapPut (fk : FK) (k v : AVal) : List AVal → List AVal → Option (List AVal × List AVal)
  | [], [] => obind (eqCell fk k k) fun _ => some ([k], [v])
  | k' :: ks, v' :: vs => obind (eqCell fk k k') fun b => oif b (some (k :: ks, v :: vs)) (obind (mapPut fk k v ks vs) fun x => some (k' :: x.1, v' :: x.2))
  | _, _ => none
def lookRes (zero : AVal) (ok : Bool) (r : Option AVal) : AVal := match ok with
  | true => .tuple [r.getD zero, .bool r.isSome]
  | false => r.getD zero
def mapOf (M : AMem) : AVal → Option (List AVal × List AVal)
  | .mref id => match nth M id with | some (.map ks vs) => some (ks, vs) | _ => none
  | .fmap ks vs => some (ks, vs)
  | _ => none
def writeAt (cs : List AVal) (off : Nat) (new : List AVal) : List AVal := cs.take off ++ (new ++ cs.drop (off + new.length))
def putCells (e : AVal) (off : Nat) (new : List AVal) : AVal := match e, new with
  | .agg cs, new => .agg (writeAt cs off new)
  | _, [c] => c
  | e, _ => e
def fillParts (env : Env) : List AVal → List (Nat × Nat × Opd) → Option (List AVal)
  | cs, [] => some cs
  | cs, (off, n, x) :: r =>
    obind (x.ev env).cells? fun new => if new.length = n ∧ off + n ≤ cs.length then fillParts env (writeAt cs off new) r else none
def litsOf (env : Env) (sz : Nat) : List Opd → Option (List AVal)
  | [] => some []
  | x :: r => if (x.ev env).shutD.plain = true ∧ (x.ev env).shutD.cells.length = sz then obind (litsOf env sz r) fun l => some ((x.ev env).shutD :: l) else none
def boundOf (env : Env) (n : Nat) : Option Opd → Option Int
  | none => some n
  | some x => match x.ev env with | .int _ i => some i | _ => none
def wid (xs : List AVal) (sz : Nat) : Prop := ∀ x, x ∈ xs → x.cells.length = sz
def roomOk (n bytes : Nat) : Prop := n * bytes ≤ 2 ^ 44
noncomputable def callOp (call : CallF) (f : Nat) (vs : List AVal) (M : AMem) : Option (AVal × AMem) :=
  if vs.all AVal.flat then
    obind (pickM M (idxN (reach M (vs.flatMap AVal.ids))) (reach M (vs.flatMap AVal.ids))) fun B =>
      if reach1 M (reach M (vs.flatMap AVal.ids)) = reach M (vs.flatMap AVal.ids) then
        obind (call f (vs.map (AVal.ren (idxN (reach M (vs.flatMap AVal.ids))))) B) fun x =>
          if x.2.length = B.length ∧ x.1.flatR = true ∧ x.2.all ABox.flat = true then some (x.1.renR (atN (reach M (vs.flatMap AVal.ids))), wback (reach M (vs.flatMap AVal.ids)) M (reach M (vs.flatMap AVal.ids)) x.2) else none
      else none
  else none
noncomputable def aop (call : CallF) (env : Env) (M : AMem) : AOp → Option (AVal × AMem)
  | .mv x => some (x.ev env, M)
  | .own sz x =>
    match x.ev env with
    | .slice .c0 [] => some (.slice (.own M.length) [], M ++ [.tick sz 0])
    | _ => none
  | .pick c a b => match c.ev env with
    | .bool t => oif t (some (a.ev env, M)) (some (b.ev env, M))
    | _ => none
  | .box0 cs => some (.ptr M.length 0, M ++ [.cells cs])
  | .box x => obind (x.ev env).cells? fun cs => some (.ptr M.length 0, M ++ [.cells cs])
  | .build zero parts => obind (fillParts env zero parts) fun cs => some (.agg cs, M)
  | .lits sz parts => obind (litsOf env sz parts) fun l => some (match l with | [] => .slice .c0 [] | _ => .slice .sh l, M)
  | .litsO sz parts => obind (litsOf env sz parts) fun l => some (.slice (.own M.length) l, M ++ [.tick sz l.length])
  | .loadA n x =>
    match x.ev env with
    | .ptr id off => match nth M id with
      | some (.cells cs) => if off + n ≤ cs.length then some (.agg ((cs.drop off).take n), M) else none
      | _ => none
    | .rptr cs => if n ≤ cs.length then some (.agg (cs.take n), M) else none
    | .eptr id ver i off => match nth M id with
      | some (.arr _ v xs) => if v = ver then obind (xs[i]?) fun e => if off + n ≤ e.cells.length then some (.agg ((e.cells.drop off).take n), M) else none else none
      | _ => none
    | _ => none
  | .load1 x =>
    match x.ev env with
    | .ptr id off => match nth M id with
      | some (.cells cs) => obind (nth cs off) fun c => some (c, M)
      | _ => none
    | .rptr cs => obind (nth cs 0) fun c => some (c, M)
    | .eptr id ver i off => match nth M id with
      | some (.arr _ v xs) => if v = ver then obind (xs[i]?) fun e => obind (nth e.cells off) fun c => some (c, M) else none
      | _ => none
    | _ => none
  | .store n a x =>
    match a.ev env with
    | .ptr id off => match nth M id with
      | some (.cells cs) => obind (x.ev env).cells? fun new =>
        if new.length = n ∧ off + n ≤ cs.length ∧ new.all AVal.isCell = true then some (.any, setN M id (.cells (writeAt cs off new))) else none
      | _ => none
    | .eptr id ver i off => match nth M id with
      | some (.arr sz v xs) => obind (x.ev env).cells? fun new => obind (xs[i]?) fun e =>
        if v = ver ∧ new.length = n ∧ off + n ≤ e.cells.length ∧ (new.map AVal.shut).all AVal.plainCell = true then some (.any, setN M id (.arr sz ver (setN xs i (putCells e off (new.map AVal.shut))))) else none
      | _ => none
    | _ => none
  | .chk x => match x.ev env with
    | .ptr id off => some (.ptr id off, M)
    | .rptr cs => some (.rptr cs, M)
    | .func f caps => some (.func f caps, M)
    | .eptr id v i off => some (.eptr id v i off, M)
    | _ => none
  | .bin op x y => obind (abin op (x.ev env) (y.ev env)) fun v => some (v, M)
  | .eqA ks neg x y =>
    match x.ev env, y.ev env with
    | .agg a, .agg b => obind (eqCells ks a b) fun e => some (.bool (match neg with | true => !e | false => e), M)
    | _, _ => none
  | .eqB neg x y => match x.ev env, y.ev env with
    | .bool a, .bool b => some (.bool (match neg with | true => !(a == b) | false => a == b), M)
    | _, _ => none
  | .not x => match x.ev env with | .bool b => some (.bool (!b), M) | _ => none
  | .neg x => match x.ev env with | .int k n => some (.int k (k.wrap (0 - n)), M) | _ => none
  | .conv k x => match x.ev env with | .int _ n => some (.int k (k.wrap n), M) | _ => none
  | .same x => match x.ev env with | .str s => some (.str s, M) | _ => none
  | .fn f caps => some (.func f (caps.map (Opd.ev env)), M)
  | .sliceS x lo hi =>
    match x.ev env with
    | .str s => obind (boundOf env s.length hi) fun h => obind (boundOf env 0 lo) fun l =>
      owhen (0 ≤ h ∧ h ≤ s.length ∧ 0 ≤ l ∧ l ≤ h) (some (.str ((s.take h.toNat).drop l.toNat), M))
    | _ => none
  | .sliceV sz x lo hi mx =>
    match x.ev env with
    | .slice _ xs => owhen (wid xs sz) <| obind (boundOf env xs.length hi) fun h => obind (boundOf env 0 lo) fun l =>
      match mx with
      | none => owhen (0 ≤ h ∧ h ≤ xs.length ∧ 0 ≤ l ∧ l ≤ h) (some (.slice .sh ((xs.take h.toNat).drop l.toNat), M))
      | some m => match m.ev env with
        | .int _ m => owhen (0 ≤ m ∧ m ≤ xs.length ∧ 0 ≤ h ∧ h ≤ m ∧ 0 ≤ l ∧ l ≤ h)
            (oif (m == 0) (some (.slice .c0 [], M)) (some (.slice .sh ((xs.take h.toNat).drop l.toNat), M)))
        | _ => none
    | .aref id v sz' al ah => owhen (sz' = sz) <| obind (boundOf env (ah - al) hi) fun h => obind (boundOf env 0 lo) fun l =>
      match mx with
      | none => owhen (0 ≤ h ∧ h ≤ (ah - al : Nat) ∧ 0 ≤ l ∧ l ≤ h) (oif (l == h) (some (.slice .sh [], M)) (some (.aref id v sz (al + l.toNat) (al + h.toNat), M)))
      | some m => match m.ev env with
        | .int _ m => owhen (0 ≤ m ∧ m ≤ (ah - al : Nat) ∧ 0 ≤ h ∧ h ≤ m ∧ 0 ≤ l ∧ l ≤ h)
            (oif (m == 0) (some (.slice .c0 [], M)) (oif (l == h) (some (.slice .sh [], M)) (some (.aref id v sz (al + l.toNat) (al + h.toNat), M))))
        | _ => none
    | _ => none
  | .faddr off x => match x.ev env with
    | .ptr id o => some (.ptr id (o + off), M)
    | .rptr cs => some (.rptr (cs.drop off), M)
    | .eptr id v i o => some (.eptr id v i (o + off), M)
    | _ => none
  | .fieldA off n x => match x.ev env with
    | .agg cs => if off + n ≤ cs.length then some (.agg ((cs.drop off).take n), M) else none
    | _ => none
  | .field1 off x => match x.ev env with
    | .agg cs => obind (nth cs off) fun c => some (c, M)
    | _ => none
  | .iaddr sz x i =>
    match x.ev env, i.ev env with
    | .slice _ xs, .int _ n => owhen (0 ≤ n) (obind (xs[n.toNat]?) fun e => if e.cells.length = sz then some (.rptr e.cells, M) else none)
    | .aref id v sz' lo hi, .int _ n => owhen (0 ≤ n ∧ n < (hi - lo : Nat) ∧ sz' = sz) (some (.eptr id v (lo + n.toNat) 0, M))
    | _, _ => none
  | .indexS x i =>
    match x.ev env, i.ev env with
    | .str s, .int _ n => owhen (0 ≤ n) (obind (s[n.toNat]?) fun b => some (.int .u8 b.toNat, M))
    | _, _ => none
  | .extract x i => match x.ev env with | .tuple vs => obind (nth vs i) fun v => some (v, M) | _ => none
  | .call f args => callOp call f (args.map fun x => (x.ev env).shutD) M
  | .callD f args => call f (args.map (Opd.ev env)) M
  | .callF f args => callOp call f (args.map fun x => ((x.ev env).frz M).shutD) (frzM M ((args.map (Opd.ev env)).flatMap AVal.ids))
  | .clearA sz zero x => match x.ev env with
    | .slice _ xs => match xs with | [] => some (.any, M) | _ => none
    | .aref id ver sz' lo hi => match nth M id with
      | some (.arr sz0 v xs) => if v = ver ∧ sz' = sz ∧ zero.length = sz ∧ zero.all AVal.plainCell = true then some (.any, setN M id (.arr sz0 ver (xs.take lo ++ (List.replicate (hi - lo) (.agg zero) ++ xs.drop hi)))) else none
      | _ => none
    | _ => none
  | .callV f args => match f.ev env with
    | .func g caps => callOp call g ((args.map fun x => (x.ev env).shutD) ++ caps) M
    | _ => none
  | .lenS x => match x.ev env with | .str s => some (.int .i64 s.length, M) | _ => none
  | .lenV x => match x.ev env with
    | .slice _ xs => some (.int .i64 xs.length, M)
    | .aref _ _ _ lo hi => some (.int .i64 (hi - lo : Nat), M)
    | _ => none
  | .append sz bytes x y =>
    match x.ev env, y.ev env with
    | .slice tk xs, .slice _ ys =>
      owhen (roomOk (xs.length + ys.length) bytes ∧ wid xs sz ∧ wid ys sz) (
        match tk with
        | .c0 => match xs with | [] => some (.slice (.own M.length) ys, M ++ [.tick sz ys.length]) | _ => none
        | .own k => match nth M k with
          | some (.tick sz' n) => owhen (sz' = sz ∧ n = xs.length) (some (.slice (.own k) (xs ++ ys), setN M k (.tick sz (xs.length + ys.length))))
          | _ => none
        | .sh => none)
    | _, _ => none
  | .minmax mx x y => match x.ev env, y.ev env with
    | .int k a, .int _ b => some (.int k (match mx with | true => if b > a then b else a | false => if b < a then b else a), M)
    | _, _ => none
  | .b2s x => match x.ev env with | .slice _ xs => obind (bytesOf xs) fun l => some (.str l, M) | _ => none
  | .mkMap => some (.mref M.length, M ++ [.map [] []])
  | .look fk zero ok m k => obind (mapOf M (m.ev env)) fun e => obind (mapGet fk (k.ev env) e.1 e.2) fun r => some (lookRes zero ok r, M)
  | .upd fk m k v => match m.ev env with
    | .mref id => match nth M id with
      | some (.map ks vs) => obind (mapPut fk (k.ev env) (v.ev env) ks vs) fun e => some (.any, setN M id (.map e.1 e.2))
      | _ => none
    | _ => none
  | .lenM m => obind (mapOf M (m.ev env)) fun e => some (.int .i64 e.1.length, M)
  | .rngS x => match x.ev env with | .str s => some (.iref M.length, M ++ [.siter s 0]) | _ => none
  | .nextS it => match it.ev env with
    | .iref id => match nth M id with
      | some (.siter s pos) => oif (decide (pos < s.length))
          (some (.tuple [.bool true, .int .i64 pos, .int .i32 (Utf8.decode ⟨s.toArray⟩ pos).1], setN M id (.siter s (pos + (Utf8.decode ⟨s.toArray⟩ pos).2))))
          (some (.tuple [.bool false], M))
      | _ => none
    | _ => none
def putS (env : Env) (dst : Option Nat) (v : AVal) : Env :=
  match dst with
  | some d => (d, v) :: env
  | none => env
def AOp.argIds (env : Env) : AOp → List Nat
  | .call _ args => (args.map fun x => (x.ev env).shutD).flatMap AVal.ids
  | .callV f args => match f.ev env with
    | .func _ caps => ((args.map fun x => (x.ev env).shutD) ++ caps).flatMap AVal.ids
    | _ => []
  | _ => []
def sepAll (env : Env) (M M' : AMem) : List Nat → Prop
  | [] => True
  | z :: r => (match getS env z with
    | .ptr id _ => nth M' id = nth M id
    | _ => False) ∧ sepAll env M M' r
noncomputable def astep (call : CallF) (o : AOper) (env : Env) (M : AMem) : Option (AVal × AMem) :=
  match o.nomem with
  | true => owhen (o.op.argIds env = []) (aop call env M o.op)
  | false => match o.grow with
    | false => aop call env M o.op
    | true => obind (aop call env M o.op) fun x => owhen (M <+: x.2 ∨ (o.sep ≠ [] ∧ sepAll env M x.2 o.sep)) (some x)
noncomputable def aregion (call : CallF) : List AOper → Env → AMem → Option (Env × AMem)
  | [], env, M => some (env, M)
  | o :: r, env, M =>
    match o.guard with
    | none => obind (astep call o env M) fun x => aregion call r (putS env o.dst x.1) x.2
    | some (t, want) => match getS env t with
      | .bool b => oif (b == want) (obind (astep call o env M) fun x => aregion call r (putS env o.dst x.1) x.2)
        (aregion call r (putS env o.dst (.tuple [])) M)
      | .tuple [] => aregion call r (putS env o.dst (.tuple [])) M
      | _ => none
def keepS (env : Env) (live : List Nat) : Env := live.map fun t => (t, getS env t)
open Classical in
noncomputable def lim {α : Type} (F : Nat → Option α) : Option α := if h : ∃ n, (F n).isSome = true then F (Classical.choose h) else none
structure Out where
  e : AExit
  env : Env
  mem : AMem
def goOn (o : Out) (k : Env → AMem → Option Out) : Option Out := match o.e with
  | .normal => k o.env o.mem
  | _ => some o
def outOf (id : Nat) (o : Out) : Out := match o.e with
  | .exit i => if i = id then ⟨.normal, o.env, o.mem⟩ else o
  | _ => o
def iter (f : Env → AMem → Option Out) (live : List Nat) : Nat → Env → AMem → Option Out
  | 0, _, _ => none
  | n + 1, env, M => obind (f (keepS env live) M) fun o => goOn o fun e m => iter f live n (backE M.length m (keepS e live)) (backM M.length m)
noncomputable def aexec (call : CallF) : ACode → Env → AMem → Option Out
  | .skip, env, M => some ⟨.normal, env, M⟩
  | .region ops _ live, env, M => obind (aregion call ops env M) fun x => some ⟨.normal, keepS x.1 live, x.2⟩
  | .seq a b, env, M => obind (aexec call a env M) fun o => goOn o (aexec call b)
  | .cond c x y, env, M => match c.ev env with
    | .bool t => oif t (aexec call x env M) (aexec call y env M)
    | _ => none
  | .block id c, env, M => obind (aexec call c env M) fun o => some (outOf id o)
  | .loop live c, env, M => lim fun n => iter (aexec call c) live n env M
  | .exit id, env, M => some ⟨.exit id, env, M⟩
  | .ret, env, M => some ⟨.ret, env, M⟩
inductive ARes where
  | tmp (t : Nat)
  | cellA (t n : Nat)
  | cell1 (t : Nat)
structure AFn where
  nparams : Nat
  results : List ARes
  body : ACode
def resOf (env : Env) (M : AMem) : ARes → Option AVal
  | .tmp t => some (getS env t)
  | .cellA t n => match getS env t with
    | .ptr id off => match nth M id with
      | some (.cells cs) => if off + n ≤ cs.length then some (.agg ((cs.drop off).take n)) else none
      | _ => none
    | _ => none
  | .cell1 t => match getS env t with
    | .ptr id off => match nth M id with
      | some (.cells cs) => nth cs off
      | _ => none
    | _ => none
def resAll (env : Env) (M : AMem) : List ARes → Option (List AVal)
  | [] => some []
  | r :: rs => obind (resOf env M r) fun v => obind (resAll env M rs) fun l => some (v :: l)
def one : List AVal → AVal
  | [v] => v
  | l => .tuple l
def parsFrom : Nat → List AVal → Env
  | _, [] => []
  | i, v :: r => (i, v) :: parsFrom (i + 1) r
def finish (res : List ARes) (base : Nat) (o : Out) : Option (AVal × AMem) :=
  match o.e with
  | .exit _ => none
  | _ => obind (resAll o.env o.mem res) fun l => some ((one l).backR base o.mem, backM base o.mem)
structure Tab where
  code : Nat → Option AFn
  prim : Nat → Option (List AVal → AMem → Option (AVal × AMem))
noncomputable def acallN (T : Tab) : Nat → CallF
  | 0, f, args, M => match T.prim f with
    | some g => g args M
    | none => none
  | n + 1, f, args, M => match T.prim f with
    | some g => g args M
    | none => match T.code f with
      | none => none
      | some fn => if args.length = fn.nparams then obind (aexec (acallN T n) fn.body (parsFrom 0 args) M) (finish fn.results M.length) else none
noncomputable def acall (T : Tab) : CallF := fun f args M => lim fun n => acallN T n f args M
end Go.Abs
namespace Go.Abs
open Go
theorem lim_some {α : Type} {F : Nat → Option α} (hm : ∀ n x, F n = some x → F (n + 1) = some x) {n : Nat} {x : α} (h : F n = some x) : lim F = some x := by
  have up : ∀ k n x, F n = some x → F (n + k) = some x := by
    intro k
    induction k with
    | zero => intro n x h; exact h
    | succ k ih => intro n x h; exact hm _ _ (ih n x h)
  unfold lim
  have hex : ∃ n, (F n).isSome = true := ⟨n, by simp [h]⟩
  rw [dif_pos hex]
  have hc := Classical.choose_spec hex
  generalize Classical.choose hex = m at *
  obtain ⟨y, hy⟩ := Option.isSome_iff_exists.1 hc
  rcases Nat.le_total n m with hle | hle
  · have := up (m - n) n x h
    rw [show n + (m - n) = m by omega] at this
    exact this
  · have := up (n - m) m y hy
    rw [show m + (n - m) = n by omega, h] at this
    rw [hy, this]
theorem lim_ex {α : Type} {F : Nat → Option α} {x : α} (h : lim F = some x) : ∃ n, F n = some x := by
  unfold lim at h
  split at h
  · exact ⟨_, h⟩
  · cases h
def CallLe (C C' : CallF) : Prop := ∀ f a M x, C f a M = some x → C' f a M = some x
theorem obind_inv {α β : Type} {x : Option α} {f : α → Option β} {y : β} (h : obind x f = some y) : ∃ a, x = some a ∧ f a = some y := by
  cases x with
  | none => cases h
  | some a => exact ⟨a, rfl, h⟩
theorem oif_inv {α : Type} {b : Bool} {x y : Option α} {z : α} (h : oif b x y = some z) : (b = true ∧ x = some z) ∨ (b = false ∧ y = some z) := by
  cases b
  · exact .inr ⟨rfl, h⟩
  · exact .inl ⟨rfl, h⟩
theorem owhen_inv {α : Type} {p : Prop} {x : Option α} {z : α} (h : owhen p x = some z) : p ∧ x = some z := by
  unfold owhen at h
  split at h
  · exact ⟨by assumption, h⟩
  · cases h
theorem callOp_inv {C : CallF} {f : Nat} {vs : List AVal} {M : AMem} {x : AVal × AMem} (h : callOp C f vs M = some x) :
    ∃ a B y, C f a B = some y ∧ ∀ C' : CallF, C' f a B = some y → callOp C' f vs M = some x := by
  unfold callOp at h
  split at h
  · rename_i hf
    obtain ⟨B, hB, h⟩ := obind_inv h
    split at h
    · rename_i hc
      obtain ⟨y, hy, h⟩ := obind_inv h
      refine ⟨_, B, y, hy, fun C' hC' => ?_⟩
      unfold callOp
      rw [if_pos hf, hB]
      simp only [obind_some]
      rw [if_pos hc, hC']
      exact h
    · cases h
  · cases h
theorem aop_inv {C : CallF} {env : Env} {M : AMem} {o : AOp} {x : AVal × AMem} (h : aop C env M o = some x) :
    (∀ C' : CallF, aop C' env M o = some x) ∨ ∃ f a B y, C f a B = some y ∧ ∀ C' : CallF, C' f a B = some y → aop C' env M o = some x := by
  cases o
  case call f args =>
    simp only [aop] at h ⊢
    obtain ⟨a, B, y, h1, h2⟩ := callOp_inv h
    exact .inr ⟨f, a, B, y, h1, h2⟩
  case callD f args => exact .inr ⟨f, _, _, _, h, fun _ h' => h'⟩
  case callF f args =>
    simp only [aop] at h ⊢
    obtain ⟨a, B, y, h1, h2⟩ := callOp_inv h
    exact .inr ⟨f, a, B, y, h1, h2⟩
  case callV f args =>
    simp only [aop] at h ⊢
    split at h
    · rename_i g caps hg
      obtain ⟨a, B, y, h1, h2⟩ := callOp_inv h
      exact .inr ⟨g, a, B, y, h1, h2⟩
    · cases h
  all_goals exact .inl fun _ => h
theorem aop_mono {C C' : CallF} (hC : CallLe C C') {env : Env} {M : AMem} {o : AOp} {x : AVal × AMem} (h : aop C env M o = some x) : aop C' env M o = some x := by
  rcases aop_inv h with h | ⟨f, a, B, y, h1, h2⟩
  · exact h C'
  · exact h2 C' (hC _ _ _ _ h1)
theorem astep_inv {C : CallF} {o : AOper} {env : Env} {M : AMem} {x : AVal × AMem} (h : astep C o env M = some x) :
    (o.nomem = true ∧ o.op.argIds env = [] ∧ aop C env M o.op = some x) ∨ (o.nomem = false ∧ o.grow = false ∧ aop C env M o.op = some x) ∨ (o.nomem = false ∧ o.grow = true ∧ (M <+: x.2 ∨ (o.sep ≠ [] ∧ sepAll env M x.2 o.sep)) ∧ aop C env M o.op = some x) := by
  unfold astep at h
  split at h
  · obtain ⟨h1, h2⟩ := owhen_inv h
    exact .inl ⟨by assumption, h1, h2⟩
  · split at h
    · exact .inr (.inl ⟨by assumption, by assumption, h⟩)
    · obtain ⟨y, hy, h⟩ := obind_inv h
      obtain ⟨h1, h2⟩ := owhen_inv h
      injection h2 with h2; subst h2
      exact .inr (.inr ⟨by assumption, by assumption, h1, hy⟩)
theorem astep_mono {C C' : CallF} (hC : CallLe C C') {env : Env} {M : AMem} {o : AOper} {x : AVal × AMem} (h : astep C o env M = some x) : astep C' o env M = some x := by
  rcases astep_inv h with ⟨hn, hi, h1⟩ | ⟨hn, hg, h1⟩ | ⟨hn, hg, hp, h1⟩
  · unfold astep; rw [hn, aop_mono hC h1]; exact owhen_pos hi
  · unfold astep; rw [hn, hg]; exact aop_mono hC h1
  · unfold astep; rw [hn, hg, aop_mono hC h1]; exact owhen_pos hp
theorem aregion_cons_inv {C : CallF} {o : AOper} {r : List AOper} {env : Env} {M : AMem} {x : Env × AMem} (h : aregion C (o :: r) env M = some x) :
    (∃ y, (∀ t want, o.guard = some (t, want) → getS env t = .bool want) ∧ astep C o env M = some y ∧ aregion C r (putS env o.dst y.1) y.2 = some x) ∨
    (∃ t want, o.guard = some (t, want) ∧ (getS env t = .bool (!want) ∨ getS env t = .tuple []) ∧ aregion C r (putS env o.dst (.tuple [])) M = some x) := by
  unfold aregion at h
  split at h
  · rename_i hg
    obtain ⟨y, hy, h⟩ := obind_inv h
    exact .inl ⟨y, fun t want h' => (by rw [hg] at h'; cases h'), hy, h⟩
  · rename_i t want hg
    split at h
    · rename_i b hb
      rcases oif_inv h with ⟨h1, h2⟩ | ⟨h1, h2⟩
      · obtain ⟨y, hy, h2⟩ := obind_inv h2
        refine .inl ⟨y, fun t' want' h' => ?_, hy, h2⟩
        rw [hg] at h'
        injection h' with h'
        injection h' with e1 e2
        subst e1; subst e2
        rw [hb]
        have : b = want := by simpa using h1
        rw [this]
      · refine .inr ⟨t, want, hg, .inl ?_, h2⟩
        rw [hb]
        cases b <;> cases want <;> simp_all
    · rename_i hb
      exact .inr ⟨t, want, hg, .inr hb, h⟩
    · cases h
theorem aregion_cons_yes {C : CallF} {o : AOper} {r : List AOper} {env : Env} {M : AMem} {y : AVal × AMem} (hg : ∀ t want, o.guard = some (t, want) → getS env t = .bool want)
    (hy : astep C o env M = some y) : aregion C (o :: r) env M = aregion C r (putS env o.dst y.1) y.2 := by
  rw [aregion]
  split
  · rw [hy]; rfl
  · rename_i t want h
    rw [hg t want h, hy]
    simp
theorem aregion_cons_no {C : CallF} {o : AOper} {r : List AOper} {env : Env} {M : AMem} {t : Nat} {want : Bool} (hg : o.guard = some (t, want))
    (hb : getS env t = .bool (!want) ∨ getS env t = .tuple []) : aregion C (o :: r) env M = aregion C r (putS env o.dst (.tuple [])) M := by
  rw [aregion]
  simp only [hg]
  rcases hb with hb | hb
  · rw [hb]; cases want <;> simp
  · rw [hb]
theorem aregion_mono {C C' : CallF} (hC : CallLe C C') : ∀ {ops : List AOper} {env : Env} {M : AMem} {x : Env × AMem}, aregion C ops env M = some x → aregion C' ops env M = some x
  | [], _, _, _, h => h
  | o :: r, env, M, x, h => by
    rcases aregion_cons_inv h with ⟨y, h1, h2, h3⟩ | ⟨t, want, h1, h2, h3⟩
    · rw [aregion_cons_yes h1 (astep_mono hC h2)]; exact aregion_mono hC h3
    · rw [aregion_cons_no h1 h2]; exact aregion_mono hC h3
theorem goOn_inv {o : Out} {k : Env → AMem → Option Out} {x : Out} (h : goOn o k = some x) : (o.e = .normal ∧ k o.env o.mem = some x) ∨ (o.e ≠ .normal ∧ x = o) := by
  unfold goOn at h
  split at h
  · exact .inl ⟨by assumption, h⟩
  · rename_i hn
    injection h with h
    exact .inr ⟨hn, h.symm⟩
theorem goOn_normal {o : Out} {k : Env → AMem → Option Out} (h : o.e = .normal) : goOn o k = k o.env o.mem := by unfold goOn; rw [h]
theorem goOn_out {o : Out} {k : Env → AMem → Option Out} (h : o.e ≠ .normal) : goOn o k = some o := by
  unfold goOn
  split
  · rename_i h'; exact absurd h' h
  · rfl
theorem goOn_mono {o : Out} {k k' : Env → AMem → Option Out} {x : Out} (hk : ∀ env M x, k env M = some x → k' env M = some x) (h : goOn o k = some x) : goOn o k' = some x := by
  rcases goOn_inv h with ⟨h1, h2⟩ | ⟨h1, h2⟩
  · rw [goOn_normal h1]; exact hk _ _ _ h2
  · rw [goOn_out h1, h2]
theorem iter_mono {f g : Env → AMem → Option Out} (hfg : ∀ env M x, f env M = some x → g env M = some x) (live : List Nat) : ∀ n {env M x}, iter f live n env M = some x → iter g live n env M = some x
  | 0, _, _, _, h => h
  | n + 1, env, M, x, h => by
    rw [iter] at *
    obtain ⟨a, ha, h⟩ := obind_inv h
    rw [hfg _ _ _ ha]
    exact goOn_mono (fun env M x h => iter_mono hfg live n h) h
theorem iter_up {f : Env → AMem → Option Out} (live : List Nat) : ∀ n {env M x}, iter f live n env M = some x → iter f live (n + 1) env M = some x
  | 0, _, _, _, h => by cases h
  | n + 1, env, M, x, h => by
    rw [iter] at h ⊢
    obtain ⟨a, ha, h⟩ := obind_inv h
    rw [ha]
    exact goOn_mono (fun env M x h => iter_up live n h) h
theorem aexec_mono {C C' : CallF} (hC : CallLe C C') : ∀ (c : ACode) {env : Env} {M : AMem} {x : Out}, aexec C c env M = some x → aexec C' c env M = some x
  | .skip, _, _, _, h => h
  | .exit _, _, _, _, h => h
  | .ret, _, _, _, h => h
  | .region ops d live, env, M, x, h => by
    simp only [aexec] at *
    obtain ⟨a, ha, h⟩ := obind_inv h
    rw [aregion_mono hC ha]; exact h
  | .seq a b, env, M, x, h => by
    simp only [aexec] at *
    obtain ⟨o, ho, h⟩ := obind_inv h
    rw [aexec_mono hC a ho]
    exact goOn_mono (fun env M x => aexec_mono hC b) h
  | .cond c a b, env, M, x, h => by
    simp only [aexec] at *
    split
    · rename_i t ht
      simp only [ht] at h
      rcases oif_inv h with ⟨rfl, h⟩ | ⟨rfl, h⟩
      · exact aexec_mono hC a h
      · exact aexec_mono hC b h
    · rename_i ht
      split at h
      · rename_i t ht'; exact absurd ht' (ht t)
      · cases h
  | .block id c, env, M, x, h => by
    simp only [aexec] at *
    obtain ⟨o, ho, h⟩ := obind_inv h
    rw [aexec_mono hC c ho]; exact h
  | .loop live c, env, M, x, h => by
    simp only [aexec] at *
    obtain ⟨n, hn⟩ := lim_ex h
    exact lim_some (fun n x => iter_up live n) (iter_mono (fun env M x => aexec_mono hC c) live n hn)
theorem acallN_up (T : Tab) : ∀ n, CallLe (acallN T n) (acallN T (n + 1))
  | 0, f, a, M, x, h => by
    unfold acallN at *
    split
    · rename_i g hg; simp only [hg] at h; exact h
    · rename_i hg; simp only [hg] at h; cases h
  | n + 1, f, a, M, x, h => by
    rw [acallN] at h ⊢
    split
    · rename_i g hg; simp only [hg] at h; exact h
    · rename_i hg
      simp only [hg] at h
      split
      · rename_i hf; simp only [hf] at h; cases h
      · rename_i fn hf
        simp only [hf] at h
        split
        · rename_i hl
          rw [if_pos hl] at h
          obtain ⟨o, ho, h⟩ := obind_inv h
          rw [aexec_mono (acallN_up T n) _ ho]
          exact h
        · rename_i hl; rw [if_neg hl] at h; cases h
theorem acallN_le (T : Tab) {n m : Nat} (h : n ≤ m) : CallLe (acallN T n) (acallN T m) := by
  obtain ⟨k, rfl⟩ := Nat.exists_eq_add_of_le h
  induction k with
  | zero => exact fun _ _ _ _ h => h
  | succ k ih => exact fun f a M x hx => acallN_up T (n + k) f a M x (ih (by omega) f a M x hx)
theorem astep_cont (T : Tab) {env : Env} {M : AMem} {o : AOper} {x : AVal × AMem} (h : astep (acall T) o env M = some x) : ∃ n, astep (acallN T n) o env M = some x := by
  have key : ∀ y, aop (acall T) env M o.op = some y → ∃ n, aop (acallN T n) env M o.op = some y := by
    intro y hy
    rcases aop_inv hy with h | ⟨f, a, B, z, h1, h2⟩
    · exact ⟨0, h _⟩
    · obtain ⟨n, hn⟩ := lim_ex h1
      exact ⟨n, h2 _ hn⟩
  rcases astep_inv h with ⟨hn, hi, h1⟩ | ⟨hn, hg, h1⟩ | ⟨hn, hg, hp, h1⟩ <;> obtain ⟨n, h2⟩ := key _ h1
  · exact ⟨n, by unfold astep; rw [hn, h2]; exact owhen_pos hi⟩
  · exact ⟨n, by unfold astep; rw [hn, hg]; exact h2⟩
  · exact ⟨n, by unfold astep; rw [hn, hg, h2]; exact owhen_pos hp⟩
theorem aregion_cont (T : Tab) : ∀ {ops : List AOper} {env : Env} {M : AMem} {x : Env × AMem}, aregion (acall T) ops env M = some x → ∃ n, aregion (acallN T n) ops env M = some x
  | [], _, _, _, h => ⟨0, h⟩
  | o :: r, env, M, x, h => by
    rcases aregion_cons_inv h with ⟨y, h1, h2, h3⟩ | ⟨t, want, h1, h2, h3⟩
    · obtain ⟨n, hn⟩ := astep_cont T h2
      obtain ⟨m, hm⟩ := aregion_cont T h3
      refine ⟨max n m, ?_⟩
      rw [aregion_cons_yes h1 (astep_mono (acallN_le T (Nat.le_max_left n m)) hn)]
      exact aregion_mono (acallN_le T (Nat.le_max_right n m)) hm
    · obtain ⟨m, hm⟩ := aregion_cont T h3
      exact ⟨m, by rw [aregion_cons_no h1 h2]; exact hm⟩
theorem aexec_cont (T : Tab) : ∀ (c : ACode) {env : Env} {M : AMem} {x : Out}, aexec (acall T) c env M = some x → ∃ n, aexec (acallN T n) c env M = some x
  | .skip, _, _, _, h => ⟨0, h⟩
  | .exit _, _, _, _, h => ⟨0, h⟩
  | .ret, _, _, _, h => ⟨0, h⟩
  | .region ops d live, env, M, x, h => by
    simp only [aexec] at *
    obtain ⟨a, ha, h⟩ := obind_inv h
    obtain ⟨n, hn⟩ := aregion_cont T ha
    exact ⟨n, by rw [hn]; exact h⟩
  | .seq a b, env, M, x, h => by
    simp only [aexec] at *
    obtain ⟨o, ho, h⟩ := obind_inv h
    obtain ⟨n, hn⟩ := aexec_cont T a ho
    rcases goOn_inv h with ⟨h1, h2⟩ | ⟨h1, h2⟩
    · obtain ⟨m, hm⟩ := aexec_cont T b h2
      refine ⟨max n m, ?_⟩
      rw [aexec_mono (acallN_le T (Nat.le_max_left n m)) a hn, obind_some, goOn_normal h1]
      exact aexec_mono (acallN_le T (Nat.le_max_right n m)) b hm
    · exact ⟨n, by rw [hn, obind_some, goOn_out h1, h2]⟩
  | .cond c a b, env, M, x, h => by
    simp only [aexec] at *
    split at h
    · rename_i t ht
      rcases oif_inv h with ⟨rfl, h⟩ | ⟨rfl, h⟩
      · obtain ⟨n, hn⟩ := aexec_cont T a h; exact ⟨n, hn⟩
      · obtain ⟨n, hn⟩ := aexec_cont T b h; exact ⟨n, hn⟩
    · cases h
  | .block id c, env, M, x, h => by
    simp only [aexec] at *
    obtain ⟨o, ho, h⟩ := obind_inv h
    obtain ⟨n, hn⟩ := aexec_cont T c ho
    exact ⟨n, by rw [hn]; exact h⟩
  | .loop live c, env, M, x, h => by
    simp only [aexec] at *
    obtain ⟨k, hk⟩ := lim_ex h
    have : ∀ k env M, iter (aexec (acall T) c) live k env M = some x → ∃ n, iter (aexec (acallN T n) c) live k env M = some x := by
      intro k
      induction k with
      | zero => intro env M h; cases h
      | succ k ih =>
        intro env M h
        rw [iter] at h
        obtain ⟨a, ha, h⟩ := obind_inv h
        obtain ⟨n, hn⟩ := aexec_cont T c ha
        rcases goOn_inv h with ⟨h1, h2⟩ | ⟨h1, h2⟩
        · obtain ⟨m, hm⟩ := ih _ _ h2
          refine ⟨max n m, ?_⟩
          rw [iter, aexec_mono (acallN_le T (Nat.le_max_left n m)) c hn, obind_some, goOn_normal h1]
          exact iter_mono (fun env M x => aexec_mono (acallN_le T (Nat.le_max_right n m)) c) live k hm
        · exact ⟨n, by rw [iter, hn, obind_some, goOn_out h1, h2]⟩
    obtain ⟨n, hn⟩ := this k env M hk
    exact ⟨n, lim_some (fun n x => iter_up live n) hn⟩
theorem aexec_loop (C : CallF) (live : List Nat) (c : ACode) (env : Env) (M : AMem) :
    aexec C (.loop live c) env M = obind (aexec C c (keepS env live) M) fun o => goOn o fun e m => aexec C (.loop live c) (backE M.length m (keepS e live)) (backM M.length m) := by
  apply Option.ext
  intro x
  constructor
  · intro h
    obtain ⟨n, hn⟩ := lim_ex (show lim (fun n => iter (aexec C c) live n env M) = some x from h)
    cases n with
    | zero => cases hn
    | succ n =>
      rw [iter] at hn
      obtain ⟨o, ho, hn⟩ := obind_inv hn
      rw [ho, obind_some]
      exact goOn_mono (fun env M x hx => lim_some (fun n x => iter_up live n) hx) hn
  · intro h
    obtain ⟨o, ho, h⟩ := obind_inv h
    rcases goOn_inv h with ⟨h1, h2⟩ | ⟨h1, h2⟩
    · obtain ⟨n, hn⟩ := lim_ex (show lim (fun n => iter (aexec C c) live n (backE M.length o.mem (keepS o.env live)) (backM M.length o.mem)) = some x from h2)
      refine lim_some (F := fun n => iter (aexec C c) live n env M) (n := n + 1) (fun n x => iter_up live n) ?_
      show iter (aexec C c) live (n + 1) env M = some x
      rw [iter, ho, obind_some, goOn_normal h1]
      exact hn
    · refine lim_some (F := fun n => iter (aexec C c) live n env M) (n := 1) (fun n x => iter_up live n) ?_
      show iter (aexec C c) live 1 env M = some x
      rw [iter, ho, obind_some, goOn_out h1, h2]
theorem acall_body {T : Tab} {f : Nat} {fn : AFn} {args : List AVal} {M : AMem} {x : AVal × AMem} (hp : T.prim f = none) (hc : T.code f = some fn) (hl : args.length = fn.nparams)
    (h : obind (aexec (acall T) fn.body (parsFrom 0 args) M) (finish fn.results M.length) = some x) : acall T f args M = some x := by
  obtain ⟨o, hb, hf⟩ := obind_inv h
  obtain ⟨n, hn⟩ := aexec_cont T fn.body hb
  refine lim_some (n := n + 1) (fun n x h => acallN_up T n f args M x h) ?_
  rw [acallN]
  simp only [hp, hc, if_pos hl, hn, obind_some]
  exact hf
theorem acall_prim {T : Tab} {f : Nat} {g : List AVal → AMem → Option (AVal × AMem)} {args : List AVal} {M : AMem} {x : AVal × AMem} (hp : T.prim f = some g) (hg : g args M = some x) : acall T f args M = some x := by
  refine lim_some (n := 0) (fun n x h => acallN_up T n f args M x h) ?_
  rw [acallN]
  simp only [hp, hg]
end Go.Abs
namespace Go.Abs
open Go Go.RowKit
def bs (s : List UInt8) : ByteArray := ⟨s.toArray⟩
structure J where
  f : Nat → Option Nat
  X : Nat → Nat → Prop
instance : CoeFun J (fun _ => Nat → Option Nat) := ⟨J.f⟩
structure Saf (j : J) (M : AMem) (w : World) (b off : Nat) : Prop where
  lt : b < w.heap.size
  ids : ∀ id, id < M.length → j id = some b → ∃ sz n, M[id]? = some (.tick sz n) ∧ off < n * sz
  nx : ¬ j.X b off
inductive RepP (w : World) (saf : Nat → Nat → Prop) : AVal → Value → Prop where
  | bool (b : Bool) : RepP w saf (.bool b) (.bool b)
  | int (k : IntKind) (n : Int) : RepP w saf (.int k n) (.int k n)
  | str (s : List UInt8) : RepP w saf (.str s) (.string (bs s))
  | raw (v : Value) (h1 : v.oneCell' = true) : RepP w saf (.raw v) v
  | slice (xs : List AVal) (A : Option Addr) (len cap b off sz : Nat) (vs : Nat → Value) (hl : len = xs.length) (hc : len ≤ cap)
      (ha : xs ≠ [] → A = some ⟨b, off, none⟩) (hz : ∀ x, x ∈ xs → x.cells.length = sz)
      (hs : ∀ (i : Nat) (x : AVal) (k : Nat) (c : AVal), xs[i]? = some x → x.cells[k]? = some c → w.cell? ⟨b, off + (i * sz + k), none⟩ = some (vs (i * sz + k)) ∧ saf b (off + (i * sz + k)))
      (hr : ∀ (i : Nat) (x : AVal) (k : Nat) (c : AVal), xs[i]? = some x → x.cells[k]? = some c → RepP w saf c (vs (i * sz + k))) : RepP w saf (.slice .sh xs) (.slice A len cap)
def TickV (j : J) (w : World) (k sz n : Nat) (v : Value) : Prop :=
  (j k = none ∧ n = 0 ∧ ∃ A, v = .slice A 0 0) ∨
  ∃ b cap vs t, j k = some b ∧ v = .slice (some ⟨b, 0, none⟩) n cap ∧ w.heap[b]? = some (.cells vs t (0, 0)) ∧ cap * sz ≤ vs.size ∧ n ≤ cap
def RepD (w : World) (saf : Nat → Nat → Prop) (x : AVal) (v : Value) : Prop :=
  match x with
  | .agg cs => ∃ us : Array Value, v = .agg us ∧ cs.length = us.size ∧ ∀ (i : Nat) (c : AVal) (u : Value), cs[i]? = some c → us[i]? = some u → RepP w saf c u
  | x => RepP w saf x v
inductive Rep (j : J) (M : AMem) (w : World) : AVal → Value → Prop where
  | plain {x : AVal} {v : Value} (h : RepP w (Saf j M w) x v) : Rep j M w x v
  | c0 (A : Option Addr) : Rep j M w (.slice .c0 []) (.slice A 0 0)
  | own {k : Nat} {xs : List AVal} {v : Value} {sz n : Nat} (hk : M[k]? = some (.tick sz n)) (hn : xs.length ≤ n) (h : RepP w (Saf j M w) (.slice .sh xs) v)
      (ht : xs.length = n → TickV j w k sz n v) : Rep j M w (.slice (.own k) xs) v
  | agg {cs : List AVal} {vs : Array Value} (hl : cs.length = vs.size) (h : ∀ (i : Nat) (c : AVal) (v : Value), cs[i]? = some c → vs[i]? = some v → Rep j M w c v) : Rep j M w (.agg cs) (.agg vs)
  | tuple {cs : List AVal} {vs : Array Value} (hl : cs.length = vs.size) (h : ∀ (i : Nat) (c : AVal) (v : Value), cs[i]? = some c → vs[i]? = some v → Rep j M w c v) : Rep j M w (.tuple cs) (.tuple vs)
  | ptr {id off b : Nat} (hid : id < M.length) (hc : ∃ cs, M[id]? = some (.cells cs)) (hj : j id = some b) : Rep j M w (.ptr id off) (.pointer (some ⟨b, off, none⟩))
  | rptr {cs : List AVal} {b off : Nat} {vs : Nat → Value} (h : ∀ (k : Nat) (c : AVal), cs[k]? = some c → w.cell? ⟨b, off + k, none⟩ = some (vs k) ∧ Saf j M w b (off + k) ∧ RepP w (Saf j M w) c (vs k)) :
      Rep j M w (.rptr cs) (.pointer (some ⟨b, off, none⟩))
  | func {f : Nat} {caps : List AVal} {vs : Array Value} (hl : caps.length = vs.size) (h : ∀ (i : Nat) (c : AVal) (v : Value), caps[i]? = some c → vs[i]? = some v → Rep j M w c v) :
      Rep j M w (.func f caps) (.func (.func f) #[] vs)
  | mref {id b : Nat} (hc : ∃ ks vs, M[id]? = some (.map ks vs)) (hj : j id = some b) : Rep j M w (.mref id) (.map (some b))
  | iref {id b : Nat} (hc : ∃ s p, M[id]? = some (.siter s p)) (hj : j id = some b) : Rep j M w (.iref id) (.pointer (some ⟨b, 0, none⟩))
  | fmap {ks vs : List AVal} {b : Nat} {es : Array MapEntry} {clock : Nat} (hb : b < w.heap.size) (hf : ∀ i, i < M.length → j i ≠ some b) (hx : ∀ off, ¬ j.X b off) (hw : w.heap[b]? = some (.map es clock)) (hk : ks.length = es.size) (hv : vs.length = es.size)
      (hks : ∀ (i : Nat) (k : AVal) (e : MapEntry), ks[i]? = some k → es[i]? = some e → RepP w (Saf j M w) k e.key) (hvs : ∀ (i : Nat) (v : AVal) (e : MapEntry), vs[i]? = some v → es[i]? = some e → RepD w (Saf j M w) v e.val) :
      Rep j M w (.fmap ks vs) (.map (some b))
  | aref {id ver sz lo hi : Nat} {v : Value} (h0 : ∃ b off c, v = .slice (some ⟨b, off, none⟩) (hi - lo) c ∧ hi - lo ≤ c) (hid : id < M.length) (hM : ∀ bx, M[id]? = some bx → bx.fixed = false)
      (hv : ∀ sz' v' xs, M[id]? = some (.arr sz' v' xs) → ver ≤ v' ∧ (v' = ver → sz' = sz ∧ lo ≤ hi ∧ hi ≤ xs.length ∧ ∃ b cap vs t, j id = some b ∧ v = .slice (some ⟨b, lo * sz, none⟩) (hi - lo) cap ∧ hi - lo ≤ cap ∧ w.heap[b]? = some (.cells vs t (0, 0)) ∧ (lo + cap) * sz ≤ vs.size)) :
      Rep j M w (.aref id ver sz lo hi) v
  | eptr {id ver i off : Nat} {v : Value} (h0 : ∃ b o, v = .pointer (some ⟨b, o, none⟩)) (hid : id < M.length) (hM : ∀ bx, M[id]? = some bx → bx.fixed = false)
      (hv : ∀ sz v' xs, M[id]? = some (.arr sz v' xs) → ver ≤ v' ∧ (v' = ver → i < xs.length ∧ ∃ b, j id = some b ∧ v = .pointer (some ⟨b, i * sz + off, none⟩))) :
      Rep j M w (.eptr id ver i off) v
  | any (v : Value) : Rep j M w .any v
def RC (j : J) (M : AMem) (w : World) (cs : List AVal) (vs : Array Value) : Prop :=
  cs.length = vs.size ∧ ∀ (i : Nat) (c : AVal) (v : Value), cs[i]? = some c → vs[i]? = some v → Rep j M w c v
def Holds (j : J) (M : AMem) (w : World) (b : Nat) : ABox → Prop
  | .cells cs => ∃ vs t, w.heap[b]? = some (.cells vs t (0, 0)) ∧ RC j M w cs vs
  | .tick _ _ => True
  | .map ks vs => ∃ es clock, w.heap[b]? = some (.map es clock) ∧ ks.length = es.size ∧ vs.length = es.size ∧ (∀ (i : Nat) (k : AVal) (e : MapEntry), ks[i]? = some k → es[i]? = some e → RepP w (Saf j M w) k e.key) ∧
      ∀ (i : Nat) (v : AVal) (e : MapEntry), vs[i]? = some v → es[i]? = some e → Rep j M w v e.val
  | .siter s pos => w.heap[b]? = some (.stringIter (bs s) pos)
  | .arr _ _ _ => True
structure Rel (j : J) (M : AMem) (w : World) : Prop where
  inj : ∀ i i' b, i < M.length → i' < M.length → j i = some b → j i' = some b → i = i'
  lt : ∀ i b, i < M.length → j i = some b → b < w.heap.size
  fix : ∀ i bx, M[i]? = some bx → bx.fixed = true → ∃ b, j i = some b ∧ Holds j M w b bx
  tick : ∀ i sz n b, M[i]? = some (.tick sz n) → j i = some b → ∃ vs t, w.heap[b]? = some (.cells vs t (0, 0))
  arr : ∀ i sz ver xs, M[i]? = some (.arr sz ver xs) → ∃ b vs t, j i = some b ∧ w.heap[b]? = some (.cells vs t (0, 0)) ∧ xs.length * sz ≤ vs.size ∧ (∀ x, x ∈ xs → x.cells.length = sz) ∧
    ∀ (q : Nat) (x : AVal) (k : Nat) (c : AVal), xs[q]? = some x → x.cells[k]? = some c → ∃ v, vs[q * sz + k]? = some v ∧ RepP w (Saf j M w) c v
  xdis : ∀ i b, i < M.length → j i = some b → ∀ off, ¬ j.X b off
  xlt : ∀ b off, j.X b off → b < w.heap.size
theorem Rel.box {j : J} {M : AMem} {w : World} (h : Rel j M w) (i : Nat) (cs : List AVal) (hi : M[i]? = some (.cells cs)) : ∃ b vs t, j i = some b ∧ w.heap[b]? = some (.cells vs t (0, 0)) ∧ cs.length = vs.size ∧
    ∀ (q : Nat) (c : AVal) (v : Value), cs[q]? = some c → vs[q]? = some v → Rep j M w c v := by
  obtain ⟨b, h1, vs, t, h2, h3⟩ := h.fix i _ hi rfl
  exact ⟨b, vs, t, h1, h2, h3.1, h3.2⟩
structure Ext (j : J) (M : AMem) (w : World) (j' : J) (M' : AMem) (w' : World) : Prop where
  len : M.length ≤ M'.length
  size : w.heap.size ≤ w'.heap.size
  os : w'.os = w.os
  tape : w'.tape = w.tape
  output : w'.output = w.output
  X : j'.X = j.X
  fix : ∀ i bx, M[i]? = some bx → bx.fixed = true → j' i = j i ∧ ∃ bx', M'[i]? = some bx' ∧ bx'.tag = bx.tag
  tick : ∀ i sz n, M[i]? = some (.tick sz n) → ∃ n', n ≤ n' ∧ M'[i]? = some (.tick sz n') ∧
    (n' = n → j' i = j i ∧ ∀ b vs t, j i = some b → w.heap[b]? = some (.cells vs t (0, 0)) → ∃ vs', w'.heap[b]? = some (.cells vs' t (0, 0)) ∧ vs'.size = vs.size)
  arr : ∀ i sz ver xs, M[i]? = some (.arr sz ver xs) → (∃ n', M'[i]? = some (.tick sz n')) ∨ ∃ ver' xs', M'[i]? = some (.arr sz ver' xs') ∧ ver ≤ ver' ∧
    (ver' = ver → j' i = j i ∧ xs'.length = xs.length ∧ ∀ b vs t, j i = some b → w.heap[b]? = some (.cells vs t (0, 0)) → ∃ vs', w'.heap[b]? = some (.cells vs' t (0, 0)) ∧ vs'.size = vs.size)
  saf : ∀ b off, Saf j M w b off → Saf j' M' w' b off ∧ w'.cell? ⟨b, off, none⟩ = w.cell? ⟨b, off, none⟩
  old : ∀ b, b < w.heap.size → (∀ i, i < M.length → j i ≠ some b) → w'.heap[b]? = w.heap[b]? ∧ ∀ i, i < M'.length → j' i ≠ some b
theorem tag_fixed {a b : ABox} (h : b.tag = a.tag) (ha : a.fixed = true) : b.fixed = true := by
  cases a <;> cases b <;> simp [ABox.tag, ABox.fixed] at * <;> omega
theorem tag_cells {b : ABox} (h : b.tag = 0) : ∃ cs, b = .cells cs := by cases b <;> simp [ABox.tag] at h; exact ⟨_, rfl⟩
theorem tag_map {b : ABox} (h : b.tag = 1) : ∃ ks vs, b = .map ks vs := by cases b <;> simp [ABox.tag] at h; exact ⟨_, _, rfl⟩
theorem tag_siter {b : ABox} (h : b.tag = 2) : ∃ s p, b = .siter s p := by cases b <;> simp [ABox.tag] at h; exact ⟨_, _, rfl⟩
theorem RepP.mono {w w' : World} {saf saf' : Nat → Nat → Prop} (h : ∀ b off, saf b off → saf' b off ∧ w'.cell? ⟨b, off, none⟩ = w.cell? ⟨b, off, none⟩)
    {x : AVal} {v : Value} (hr : RepP w saf x v) : RepP w' saf' x v := by
  induction hr with
  | bool b => exact .bool b
  | int k n => exact .int k n
  | str s => exact .str s
  | raw v h1 => exact .raw v h1
  | slice xs A len cap b off sz vs hl hc ha hz hs _ ih =>
    refine .slice xs A len cap b off sz vs hl hc ha hz (fun i x k c hx hk => ?_) ih
    obtain ⟨h1, h2⟩ := hs i x k c hx hk
    obtain ⟨h3, h4⟩ := h _ _ h2
    exact ⟨h4.trans h1, h3⟩
theorem RepD.mono {w w' : World} {saf saf' : Nat → Nat → Prop} (h : ∀ b off, saf b off → saf' b off ∧ w'.cell? ⟨b, off, none⟩ = w.cell? ⟨b, off, none⟩)
    {x : AVal} {v : Value} (hr : RepD w saf x v) : RepD w' saf' x v := by
  by_cases hag : ∃ cs, x = .agg cs
  · obtain ⟨cs, rfl⟩ := hag
    obtain ⟨us, h1, h2, h3⟩ := hr
    exact ⟨us, h1, h2, fun i c u hc hu => (h3 i c u hc hu).mono h⟩
  · cases x <;> first | exact absurd ⟨_, rfl⟩ hag | exact RepP.mono h hr
section
variable {j j' j'' : J} {M M' M'' : AMem} {w w' w'' : World}
theorem TickV.mono {k sz n : Nat} {v : Value} (h : TickV j w k sz n v) (hj : j' k = j k)
    (hb : ∀ b vs t, j k = some b → w.heap[b]? = some (.cells vs t (0, 0)) → ∃ vs', w'.heap[b]? = some (.cells vs' t (0, 0)) ∧ vs'.size = vs.size) : TickV j' w' k sz n v := by
  rcases h with ⟨h1, h2, h3⟩ | ⟨b, cap, vs, t, h1, h2, h3, h4, h5⟩
  · exact .inl ⟨hj.trans h1, h2, h3⟩
  · obtain ⟨vs', h6, h7⟩ := hb b vs t h1 h3
    exact .inr ⟨b, cap, vs', t, hj.trans h1, h2, h6, by omega, h5⟩
theorem Ext.loose (hx : Ext j M w j' M' w') {id : Nat} (hid : id < M.length) (hM : ∀ bx, M[id]? = some bx → bx.fixed = false) : (∀ bx, M'[id]? = some bx → bx.fixed = false) ∧
    ∀ sz v' xs, M'[id]? = some (.arr sz v' xs) → ∃ v0 xs0, M[id]? = some (.arr sz v0 xs0) ∧ v0 ≤ v' ∧
      (v' = v0 → j' id = j id ∧ xs.length = xs0.length ∧ ∀ b vs t, j id = some b → w.heap[b]? = some (.cells vs t (0, 0)) → ∃ vs', w'.heap[b]? = some (.cells vs' t (0, 0)) ∧ vs'.size = vs.size) := by
  have h0 := List.getElem?_eq_getElem hid
  have hf := hM _ h0
  generalize M[id] = bx at h0 hf
  cases bx with
  | cells => cases hf
  | map => cases hf
  | siter => cases hf
  | tick sz n =>
    obtain ⟨n', h1, h2, h3⟩ := hx.tick _ _ _ h0
    refine ⟨fun bx hb => ?_, fun sz v' xs h => ?_⟩
    · rw [h2] at hb; injection hb with hb; subst hb; rfl
    · rw [h2] at h; cases h
  | arr sz v xs =>
    rcases hx.arr _ _ _ _ h0 with ⟨n', h2⟩ | ⟨v1, xs1, h2, h3, h4⟩
    · refine ⟨fun bx hb => ?_, fun sz v' xs h => ?_⟩
      · rw [h2] at hb; injection hb with hb; subst hb; rfl
      · rw [h2] at h; cases h
    · refine ⟨fun bx hb => ?_, fun sz' v' xs' h => ?_⟩
      · rw [h2] at hb; injection hb with hb; subst hb; rfl
      · rw [h2] at h; injection h with h; injection h with e1 e2 e3
        subst e1; subst e2; subst e3
        exact ⟨v, xs, h0, h3, h4⟩
theorem Rep.mono (hx : Ext j M w j' M' w') {x : AVal} {v : Value} (hr : Rep j M w x v) : Rep j' M' w' x v := by
  induction hr with
  | plain h => exact .plain (h.mono hx.saf)
  | c0 A => exact .c0 A
  | own hk hn h ht =>
    obtain ⟨n', h1, h2, h3⟩ := hx.tick _ _ _ hk
    refine .own h2 (by omega) (h.mono hx.saf) (fun he => ?_)
    have : n' = _ := Nat.le_antisymm (by omega) h1
    obtain ⟨h4, h5⟩ := h3 this
    subst this
    exact (ht he).mono h4 h5
  | agg hl _ ih => exact .agg hl ih
  | tuple hl _ ih => exact .tuple hl ih
  | ptr hid hc hj =>
    obtain ⟨cs, hc⟩ := hc
    obtain ⟨h1, bx, h2, h3⟩ := hx.fix _ _ hc rfl
    obtain ⟨cs', rfl⟩ := tag_cells h3
    exact .ptr (Nat.lt_of_lt_of_le hid hx.len) ⟨_, h2⟩ (h1.trans hj)
  | @rptr cs b off vs h =>
    refine .rptr (vs := vs) fun k c hk => ?_
    obtain ⟨h1, h2, h3⟩ := h k c hk
    obtain ⟨h4, h5⟩ := hx.saf _ _ h2
    exact ⟨h5.trans h1, h4, h3.mono hx.saf⟩
  | func hl _ ih => exact .func hl ih
  | mref hc hj =>
    obtain ⟨ks, vs, hc⟩ := hc
    obtain ⟨h1, bx, h2, h3⟩ := hx.fix _ _ hc rfl
    obtain ⟨ks', vs', rfl⟩ := tag_map h3
    exact .mref ⟨_, _, h2⟩ (h1.trans hj)
  | iref hc hj =>
    obtain ⟨ks, vs, hc⟩ := hc
    obtain ⟨h1, bx, h2, h3⟩ := hx.fix _ _ hc rfl
    obtain ⟨ks', vs', rfl⟩ := tag_siter h3
    exact .iref ⟨_, _, h2⟩ (h1.trans hj)
  | fmap hb hf hxx hw hk hv hks hvs =>
    obtain ⟨h1, h2⟩ := hx.old _ hb hf
    exact .fmap (Nat.lt_of_lt_of_le hb hx.size) h2 (by rw [hx.X]; exact hxx) (h1.trans hw) hk hv (fun i k e h1 h2 => (hks i k e h1 h2).mono hx.saf) (fun i k e h1 h2 => (hvs i k e h1 h2).mono hx.saf)
  | aref hs hid hM hv =>
    obtain ⟨g1, g2⟩ := hx.loose hid hM
    refine .aref hs (Nat.lt_of_lt_of_le hid hx.len) g1 fun sz v' xs h => ?_
    obtain ⟨v0, xs0, h0, h1, h2⟩ := g2 sz v' xs h
    obtain ⟨h3, h4⟩ := hv sz v0 xs0 h0
    refine ⟨by omega, fun he => ?_⟩
    obtain ⟨h5, h6, h7⟩ := h2 (by omega)
    obtain ⟨l0, l1, l2, b, cap, vs, t, l3, l4, l5, l6, l7⟩ := h4 (by omega)
    obtain ⟨vs', l8, l9⟩ := h7 b vs t l3 l6
    exact ⟨l0, l1, by omega, b, cap, vs', t, h5.trans l3, l4, l5, l8, by omega⟩
  | eptr hs hid hM hv =>
    obtain ⟨g1, g2⟩ := hx.loose hid hM
    refine .eptr hs (Nat.lt_of_lt_of_le hid hx.len) g1 fun sz v' xs h => ?_
    obtain ⟨v0, xs0, h0, h1, h2⟩ := g2 sz v' xs h
    obtain ⟨h3, h4⟩ := hv sz v0 xs0 h0
    refine ⟨by omega, fun he => ?_⟩
    obtain ⟨h5, h6, h7⟩ := h2 (by omega)
    obtain ⟨l1, b, l3, l4⟩ := h4 (by omega)
    exact ⟨by omega, b, h5.trans l3, l4⟩
  | any v => exact .any v
theorem Holds.mono {b : Nat} {bx : ABox} (hx : Ext j M w j' M' w') (hb : w'.heap[b]? = w.heap[b]?) (h : Holds j M w b bx) : Holds j' M' w' b bx := by
  cases bx with
  | cells cs =>
    obtain ⟨vs, t, h1, h2, h3⟩ := h
    exact ⟨vs, t, hb.trans h1, h2, fun i c v hc hv => (h3 i c v hc hv).mono hx⟩
  | tick => trivial
  | map ks vs =>
    obtain ⟨es, clock, h1, h2, h3, h4, h5⟩ := h
    exact ⟨es, clock, hb.trans h1, h2, h3, fun i k e hk he => (h4 i k e hk he).mono hx.saf, fun i k e hk he => (h5 i k e hk he).mono hx⟩
  | siter s pos => exact hb.trans h
  | arr => trivial
theorem Holds.lt {b : Nat} {bx : ABox} (h : Holds j M w b bx) (hf : bx.fixed = true) : ∃ o, w.heap[b]? = some o := by
  cases bx with
  | cells cs => obtain ⟨vs, t, h1, _⟩ := h; exact ⟨_, h1⟩
  | tick => cases hf
  | map ks vs => obtain ⟨es, clock, h1, _⟩ := h; exact ⟨_, h1⟩
  | siter s pos => exact ⟨_, h⟩
  | arr => cases hf
theorem Ext.refl (j : J) (M : AMem) (w : World) : Ext j M w j M w where
  len := Nat.le_refl _
  size := Nat.le_refl _
  os := rfl
  tape := rfl
  output := rfl
  X := rfl
  fix := fun i bx h _ => ⟨rfl, bx, h, rfl⟩
  tick := fun i sz n h => ⟨n, Nat.le_refl _, h, fun _ => ⟨rfl, fun b vs t _ h => ⟨vs, h, rfl⟩⟩⟩
  arr := fun i sz v xs h => .inr ⟨v, xs, h, Nat.le_refl _, fun _ => ⟨rfl, rfl, fun b vs t _ h => ⟨vs, h, rfl⟩⟩⟩
  saf := fun b off h => ⟨h, rfl⟩
  old := fun b hb h => ⟨rfl, h⟩
theorem Ext.trans (h : Ext j M w j' M' w') (k : Ext j' M' w' j'' M'' w'') : Ext j M w j'' M'' w'' where
  len := Nat.le_trans h.len k.len
  size := Nat.le_trans h.size k.size
  os := k.os.trans h.os
  tape := k.tape.trans h.tape
  output := k.output.trans h.output
  X := k.X.trans h.X
  fix := fun i bx hi hf => by
    obtain ⟨h1, bx', h2, h3⟩ := h.fix i bx hi hf
    have hf' : bx'.fixed = true := tag_fixed h3 hf
    obtain ⟨h4, bx'', h5, h6⟩ := k.fix i bx' h2 hf'
    exact ⟨h4.trans h1, bx'', h5, h6.trans h3⟩
  tick := fun i sz n hi => by
    obtain ⟨n1, a1, a2, a3⟩ := h.tick i sz n hi
    obtain ⟨n2, b1, b2, b3⟩ := k.tick i sz n1 a2
    refine ⟨n2, by omega, b2, fun he => ?_⟩
    obtain ⟨c1, c2⟩ := a3 (by omega)
    obtain ⟨d1, d2⟩ := b3 (by omega)
    refine ⟨d1.trans c1, fun b vs t hb hv => ?_⟩
    obtain ⟨vs', e1, e2⟩ := c2 b vs t hb hv
    obtain ⟨vs'', f1, f2⟩ := d2 b vs' t (c1.trans hb) e1
    exact ⟨vs'', f1, by omega⟩
  arr := fun i sz v xs hi => by
    rcases h.arr i sz v xs hi with ⟨n1, a1⟩ | ⟨v1, xs1, a1, a2, a3⟩
    · obtain ⟨n2, _, b2, _⟩ := k.tick i sz n1 a1
      exact .inl ⟨n2, b2⟩
    · rcases k.arr i sz v1 xs1 a1 with ⟨n2, b1⟩ | ⟨v2, xs2, b1, b2, b3⟩
      · exact .inl ⟨n2, b1⟩
      · refine .inr ⟨v2, xs2, b1, by omega, fun he => ?_⟩
        obtain ⟨c1, c2, c3⟩ := a3 (by omega)
        obtain ⟨d1, d2, d3⟩ := b3 (by omega)
        refine ⟨d1.trans c1, by omega, fun b vs t hb hv => ?_⟩
        obtain ⟨vs', e1, e2⟩ := c3 b vs t hb hv
        obtain ⟨vs'', f1, f2⟩ := d3 b vs' t (c1.trans hb) e1
        exact ⟨vs'', f1, by omega⟩
  saf := fun b off hs => by
    obtain ⟨h1, h2⟩ := h.saf b off hs
    obtain ⟨h3, h4⟩ := k.saf b off h1
    exact ⟨h3, h4.trans h2⟩
  old := fun b hb hn => by
    obtain ⟨h1, h2⟩ := h.old b hb hn
    obtain ⟨h3, h4⟩ := k.old b (Nat.lt_of_lt_of_le hb h.size) h2
    exact ⟨h3.trans h1, h4⟩
theorem Ext.grow (hsz : w.heap.size ≤ w'.heap.size) (hos : w'.os = w.os) (ht : w'.tape = w.tape) (ho : w'.output = w.output)
    (hb : ∀ b, b < w.heap.size → w'.heap[b]? = w.heap[b]?) : Ext j M w j M w' where
  len := Nat.le_refl _
  size := hsz
  os := hos
  tape := ht
  output := ho
  X := rfl
  fix := fun i bx h _ => ⟨rfl, bx, h, rfl⟩
  tick := fun i sz n h => ⟨n, Nat.le_refl _, h, fun _ => ⟨rfl, fun b vs t _ hv => by
    have hlt : b < w.heap.size := by
      rcases Nat.lt_or_ge b w.heap.size with h | h
      · exact h
      · rw [Array.getElem?_eq_none h] at hv; cases hv
    exact ⟨vs, (hb b hlt).trans hv, rfl⟩⟩⟩
  arr := fun i sz v xs h => .inr ⟨v, xs, h, Nat.le_refl _, fun _ => ⟨rfl, rfl, fun b vs t _ hv => by
    have hlt : b < w.heap.size := by
      rcases Nat.lt_or_ge b w.heap.size with h | h
      · exact h
      · rw [Array.getElem?_eq_none h] at hv; cases hv
    exact ⟨vs, (hb b hlt).trans hv, rfl⟩⟩⟩
  saf := fun b off h => ⟨⟨Nat.lt_of_lt_of_le h.1 hsz, h.2, h.3⟩, World.cell?_of_block (w := w) (hb b h.1)⟩
  old := fun b hlt h => ⟨hb b hlt, h⟩
theorem Rel.grow (hr : Rel j M w) (hsz : w.heap.size ≤ w'.heap.size) (hos : w'.os = w.os) (ht : w'.tape = w.tape) (ho : w'.output = w.output)
    (hb : ∀ b, b < w.heap.size → w'.heap[b]? = w.heap[b]?) : Rel j M w' where
  inj := hr.inj
  lt := fun i b hi h => Nat.lt_of_lt_of_le (hr.lt i b hi h) hsz
  fix := fun i bx h hf => by
    obtain ⟨b, h1, h2⟩ := hr.fix i bx h hf
    have hi : i < M.length := (List.getElem?_eq_some_iff.1 h).1
    exact ⟨b, h1, h2.mono (Ext.grow hsz hos ht ho hb) (hb b (hr.lt i b hi h1))⟩
  tick := fun i sz n b h hj => by
    obtain ⟨vs, t, h1⟩ := hr.tick i sz n b h hj
    have hi : i < M.length := (List.getElem?_eq_some_iff.1 h).1
    exact ⟨vs, t, (hb b (hr.lt i b hi hj)).trans h1⟩
  arr := fun i sz v xs h => by
    obtain ⟨b, vs, t, h1, h2, h3, h4, h5⟩ := hr.arr i sz v xs h
    have hi : i < M.length := (List.getElem?_eq_some_iff.1 h).1
    refine ⟨b, vs, t, h1, (hb b (hr.lt i b hi h1)).trans h2, h3, h4, fun q x k c hx hk => ?_⟩
    obtain ⟨u, h6, h7⟩ := h5 q x k c hx hk
    exact ⟨u, h6, h7.mono (Ext.grow (j := j) (M := M) hsz hos ht ho hb).saf⟩
  xdis := hr.xdis
  xlt := fun b off h => Nat.lt_of_lt_of_le (hr.xlt b off h) hsz
end
def EnvRep (j : J) (M : AMem) (w : World) (env : Env) (a : Act) : Prop := ∀ t, Rep j M w (getS env t) (a.tmps.getD t undef)
theorem EnvRep.mono {j j' : J} {M M' : AMem} {w w' : World} {env : Env} {a : Act} (h : EnvRep j M w env a) (hx : Ext j M w j' M' w') : EnvRep j' M' w' env a :=
  fun t => (h t).mono hx
theorem EnvRep.put {j : J} {M : AMem} {w : World} {env : Env} {a : Act} {n : Nat} (h : EnvRep j M w env a) (hs : a.tmps.size = n) {dst : Option Nat} (hd : ∀ d, dst = some d → d < n)
    {x : AVal} {v : Value} (hv : Rep j M w x v) : EnvRep j M w (putS env dst x) (a.put dst v) := by
  intro t
  cases dst with
  | none => exact h t
  | some d =>
    have hd' := hd d rfl
    simp only [putS, getS, Act.put]
    by_cases he : d = t
    · subst he
      rw [if_pos rfl]
      simpa [Array.getD_eq_getD_getElem?, Array.getElem?_setIfInBounds_self, hs, hd'] using hv
    · rw [if_neg he]
      have := h t
      simpa [Array.getD_eq_getD_getElem?, Array.getElem?_setIfInBounds_ne he] using this
theorem getS_keepS (env : Env) (live : List Nat) (t : Nat) : getS (keepS env live) t = if t ∈ live then getS env t else .any := by
  induction live with
  | nil => simp [keepS, getS]
  | cons l r ih =>
    simp only [keepS, List.map_cons, getS] at *
    by_cases h : l = t
    · subst h; simp
    · rw [if_neg h, ih]
      have : (t ∈ l :: r) ↔ t ∈ r := by simp [Ne.symm h]
      simp only [this]
theorem EnvRep.keep {j : J} {M : AMem} {w : World} {env : Env} {a : Act} (h : EnvRep j M w env a) (live : List Nat) : EnvRep j M w (keepS env live) a := by
  intro t
  rw [getS_keepS]
  split
  · exact h t
  · exact .any _
theorem EnvRep.opd {j : J} {M : AMem} {w : World} {env : Env} {a : Act} (h : EnvRep j M w env a) (t : Nat) : Rep j M w ((Opd.tmp t).ev env) (a.eval (.tmp t)) := h t
end Go.Abs
namespace Go.Abs
open Go
def absV : Value → Option AVal
  | .bool b => some (.bool b)
  | .int k n => some (.int k n)
  | .string s => some (.str s.data.toList)
  | .slice none 0 0 => some (.slice .c0 [])
  | .pointer none => some (.raw (.pointer none))
  | .nilFunc => some (.raw .nilFunc)
  | .nilIface => some (.raw .nilIface)
  | .map none => some (.raw (.map none))
  | _ => none
def absL : List Value → Option (List AVal)
  | [] => some []
  | v :: r => (absV v).bind fun x => (absL r).bind fun l => some (x :: l)
def absT : Value → Option AVal
  | .agg vs => (absL vs.toList).bind fun l => some (.agg l)
  | v => absV v
def cOpd : Operand → Option Opd
  | .tmp t => some (.tmp t)
  | .const v => (absT v).bind fun x => some (.cst x)
  | .func f => some (.cst (.func f []))
  | .global _ => none
def cOpds : List Operand → Option (List Opd)
  | [] => some []
  | x :: r => (cOpd x).bind fun y => (cOpds r).bind fun l => some (y :: l)
def cOpt : Option Operand → Option (Option Opd)
  | none => some none
  | some x => (cOpd x).bind fun y => some (some y)
def szOf (P : Program) (t : TypeId) : Option Nat := (P.info? t).bind fun i => some i.size
def aggQ (P : Program) (t : TypeId) : Option Bool := (P.underlying t).bind fun d => some (match d with | .struct _ | .array _ _ => true | _ => false)
def cParts (P : Program) (fs : Array Field) : List (Nat × Operand) → Option (List (Nat × Nat × Opd))
  | [] => some []
  | (i, x) :: r => (fs[i]?).bind fun f => (szOf P f.type).bind fun n => (cOpd x).bind fun y => (cParts P fs r).bind fun l => some ((f.offset, n, y) :: l)
def cRow : Nat → List (Nat × Operand) → Option (List Opd)
  | _, [] => some []
  | k, (i, x) :: r => if i = k then (cOpd x).bind fun y => (cRow (k + 1) r).bind fun l => some (y :: l) else none
def fkOf (P : Program) (f : Field) : Option FK := if f.name = "_" then none else match P.underlying f.type with
  | some .bool => some .b
  | some (.int _) => some .i
  | some .string => some .s
  | _ => none
def fksOf (P : Program) : Nat → List Field → Option (List FK)
  | _, [] => some []
  | k, f :: r => if f.offset = k then (fkOf P f).bind fun x => (fksOf P (k + 1) r).bind fun l => some (x :: l) else none
def keyFK (P : Program) (t : TypeId) : Option FK := match P.underlying t with
  | some .bool => some .b
  | some (.int _) => some .i
  | some .string => some .s
  | _ => none
def cBin : BinOp → Option ABin
  | .add => some .add | .sub => some .sub | .mul => some .mul | .quo => some .quo | .rem => some .rem
  | .eql => some .eql | .neq => some .neq | .lss => some .lss | .leq => some .leq | .gtr => some .gtr | .geq => some .geq
  | .shl => some .shl | .shr => some .shr
  | _ => none
def enterable (P : Program) (f : Nat) : Bool := match P.funcs[f]? with | some fn => fn.name != "runtime.NumGoroutine" && fn.body.isSome | none => false
def cCall (P : Program) (own : List Nat) (type : TypeId) (c : Call) : Option AOp :=
  match c.callee with
  | .value (.func f) => if enterable P f then (cOpds c.args.toList).bind fun l => some (if own.contains (1000000 + f) then .callD f l else if own.contains (2000000 + f) then .callF f l else .call f l) else none
  | .value (.tmp t) => (cOpds c.args.toList).bind fun l => some (.callV (.tmp t) l)
  | .builtin .len => match c.args.toList, (c.argTypes[0]?).bind P.underlying with
    | [x], some .string => (cOpd x).bind fun y => some (.lenS y)
    | [x], some (.slice _) => (cOpd x).bind fun y => some (.lenV y)
    | [x], some (.map _ _) => (cOpd x).bind fun y => some (.lenM y)
    | _, _ => none
  | .builtin .append => match c.args.toList, c.argTypes.toList with
    | [x, y], [t, t'] => match P.underlying t, P.underlying t' with
      | some (.slice e), some (.slice _) => (P.info? e).bind fun i => (cOpd x).bind fun x => (cOpd y).bind fun y =>
        if decide ((i.zero.map fun z => z.cells.size) = some i.size) && decide (0 < i.size) && decide (0 < i.bytes) && decide (i.bytes ≤ 2 ^ 20) then some (.append i.size i.bytes x y) else none
      | _, _ => none
    | _, _ => none
  | .builtin .clear => match c.args.toList, c.argTypes.toList with
    | [x], [t] => match P.underlying t with
      | some (.slice e) => (P.info? e).bind fun i => i.zero.bind fun z => (absL z.cells.toList).bind fun l => (cOpd x).bind fun x =>
        if l.length = i.size ∧ 0 < i.size then some (.clearA i.size (l.map AVal.shut) x) else none
      | _ => none
    | _, _ => none
  | .builtin .max => match c.args.toList with | [x, y] => (cOpd x).bind fun x => (cOpd y).bind fun y => some (.minmax true x y) | _ => none
  | .builtin .min => match c.args.toList with | [x, y] => (cOpd x).bind fun x => (cOpd y).bind fun y => some (.minmax false x y) | _ => none
  | _ => none
def cOp (P : Program) (own : List Nat) (o : Oper) : Option AOp :=
  match o.op with
  | .move x => (cOpd x).bind fun x => some (.mv x)
  | .assign x => (cOpd x).bind fun x =>
    match o.dst with
    | some d => if own.contains d then match P.underlying o.type with
        | some (.slice e) => (szOf P e).bind fun n => match x with
          | .cst (.slice .c0 []) => some (.own n x)
          | _ => some (.mv x)
        | _ => none
      else some (.mv x)
    | none => some (.mv x)
  | .pick c a b => (cOpd c).bind fun c => (cOpd a).bind fun a => (cOpd b).bind fun b => some (.pick c a b)
  | .alloc t => (P.info? t).bind fun i => i.zero.bind fun z => (absL z.cells.toList).bind fun l => some (.box0 l)
  | .box _ x => (cOpd x).bind fun x => some (.box x)
  | .build t parts => match P.underlying t with
    | some (.struct fs) => (P.info? t).bind fun i => i.zero.bind fun z => (absL z.cells.toList).bind fun l => (cParts P fs parts.toList).bind fun ps =>
      if fs.all (fun f => (P.info? f.type).isSome) then some (.build l ps) else none
    | _ => none
  | .buildSlice t len parts => match P.underlying t with
    | some (.slice e) => (P.info? e).bind fun i => (cRow 0 parts.toList).bind fun l =>
      if l.length = len ∧ len * i.size ≤ 2 ^ 24 ∧ (i.zero.map fun z => z.cells.size) = some i.size ∧ 0 < i.size then some (match o.dst with | some d => if own.contains d then .litsO i.size l else .lits i.size l | none => .lits i.size l) else none
    | _ => none
  | .load t x => (aggQ P t).bind fun g => (szOf P t).bind fun n => (cOpd x).bind fun x => some (if g then .loadA n x else .load1 x)
  | .store t a x => (szOf P t).bind fun n => (cOpd a).bind fun a => (cOpd x).bind fun x => some (.store n a x)
  | .nilCheck x => (cOpd x).bind fun x => some (.chk x)
  | .binOp op t x y _ => (cOpd x).bind fun x => (cOpd y).bind fun y => match P.underlying t with
    | some (.int _) | some .string => (cBin op).bind fun b => some (.bin b x y)
    | some .bool => match op with
      | .eql => some (.eqB false x y)
      | .neq => some (.eqB true x y)
      | _ => none
    | some (.struct fs) => if P.stoodInHeld t then none else (fksOf P 0 fs.toList).bind fun ks => match op with
      | .eql => some (.eqA ks false x y)
      | .neq => some (.eqA ks true x y)
      | _ => none
    | _ => none
  | .unOp .not _ x => (cOpd x).bind fun x => some (.not x)
  | .unOp .neg _ x => (cOpd x).bind fun x => some (.neg x)
  | .convert s d x => (cOpd x).bind fun x => match P.underlying s, P.underlying d with
    | some (.int _), some (.int k) => some (.conv k x)
    | some .string, some .string => some (.same x)
    | some (.slice e), some .string => match P.underlying e with | some (.int .u8) => some (.b2s x) | _ => none
    | _, _ => none
  | .makeFunc (.func f) first caps => if first.isEmpty then (cOpds caps.toList).bind fun l => some (.fn f l) else none
  | .slice t x lo hi mx => (cOpd x).bind fun x => (cOpt lo).bind fun lo => (cOpt hi).bind fun hi => (cOpt mx).bind fun mx => match P.underlying t with
    | some .string => if mx.isNone then some (.sliceS x lo hi) else none
    | some (.slice e) => (szOf P e).bind fun n => if 0 < n ∧ (mx.isNone ∨ hi.isSome) then some (.sliceV n x lo hi mx) else none
    | _ => none
  | .fieldAddr s x f => match P.underlying s with
    | some (.struct fs) => (fs[f]?).bind fun f => (szOf P f.type).bind fun n => (cOpd x).bind fun x => if 0 < n then some (.faddr f.offset x) else none
    | _ => none
  | .field s x f => match P.underlying s with
    | some (.struct fs) => (fs[f]?).bind fun f => (aggQ P f.type).bind fun g => (szOf P f.type).bind fun n => (cOpd x).bind fun x => some (if g then .fieldA f.offset n x else .field1 f.offset x)
    | _ => none
  | .indexAddr t x i => match P.underlying t with
    | some (.slice e) => (szOf P e).bind fun n => (cOpd x).bind fun x => (cOpd i).bind fun i => if 0 < n then some (.iaddr n x i) else none
    | _ => none
  | .index t x i => match P.underlying t with
    | some .string => (cOpd x).bind fun x => (cOpd i).bind fun i => some (.indexS x i)
    | _ => none
  | .extract x i => (cOpd x).bind fun x => some (.extract x i)
  | .call c => cCall P own o.type c
  | .makeMap _ none => some .mkMap
  | .lookup t x i ok => match P.underlying t with
    | some (.map k e) => (keyFK P k).bind fun fk => (P.info? e).bind fun ie => ie.zero.bind fun zv => (absT zv).bind fun z => (cOpd x).bind fun x => (cOpd i).bind fun i => some (.look fk z ok x i)
    | _ => none
  | .mapUpdate t m k v => match P.underlying t with
    | some (.map kt _) => (keyFK P kt).bind fun fk => (cOpd m).bind fun m => (cOpd k).bind fun k => (cOpd v).bind fun v => some (.upd fk m k v)
    | _ => none
  | .range t x => match P.underlying t with
    | some .string => (cOpd x).bind fun x => some (.rngS x)
    | _ => none
  | .next it true => (cOpd it).bind fun it => some (.nextS it)
  | _ => none
structure Ann where
  n : Nat
  own : List Nat := []
  lv : List (Nat × List Nat)
  lp : List (Nat × List Nat) := []
def find (l : List (Nat × List Nat)) (k : Nat) : List Nat := match l with
  | [] => []
  | (i, x) :: r => if i = k then x else find r k
def dstOk (n : Nat) : Option Nat → Bool
  | some d => decide (d < n)
  | none => true
def cOper (P : Program) (A : Ann) (ops : Array Oper) (grow : Bool) (o : Oper) : Option AOper :=
  (cOp P A.own o).bind fun op =>
    if dstOk A.n o.dst then
      match o.guard with
      | none => some { dst := o.dst, op, guard := none, grow }
      | some (k, want) => ((ops[k]?).bind (·.dst)).bind fun t => if t < A.n then some { dst := o.dst, op, guard := some (t, want), grow } else none
    else none
def cOpers (P : Program) (A : Ann) (ops : Array Oper) (grow : List Bool) : List Oper → Option (List AOper)
  | [] => some []
  | o :: r => (cOper P A ops (grow.headD false) o).bind fun x => (cOpers P A ops grow.tail r).bind fun l => some (x :: l)
def firstRegion : Code → Nat
  | .region id _ _ => id
  | .seq a _ => firstRegion a
  | .block _ c => firstRegion c
  | .loop c => firstRegion c
  | .cond _ a _ => firstRegion a
  | _ => 0
def Opd.slots : Opd → List Nat
  | .tmp t => [t]
  | .cst _ => []
def oslots : Option Opd → List Nat
  | some x => x.slots
  | none => []
def AOp.slots : AOp → List Nat
  | .mv x | .own _ x | .box x | .loadA _ x | .load1 x | .chk x | .not x | .neg x | .conv _ x | .same x | .faddr _ x | .fieldA _ _ x | .field1 _ x | .extract x _ | .lenS x | .lenV x | .b2s x | .lenM x | .rngS x | .nextS x | .clearA _ _ x => x.slots
  | .pick c a b => c.slots ++ (a.slots ++ b.slots)
  | .box0 _ | .mkMap => []
  | .build _ ps => ps.flatMap fun p => p.2.2.slots
  | .lits _ ps | .litsO _ ps => ps.flatMap Opd.slots
  | .store _ a x => a.slots ++ x.slots
  | .upd _ m k v => m.slots ++ (k.slots ++ v.slots)
  | .bin _ x y | .look _ _ _ x y | .eqA _ _ x y | .eqB _ x y | .iaddr _ x y | .indexS x y | .append _ _ x y | .minmax _ x y => x.slots ++ y.slots
  | .fn _ l => l.flatMap Opd.slots
  | .sliceS x l h => x.slots ++ (oslots l ++ oslots h)
  | .sliceV _ x l h m => x.slots ++ (oslots l ++ (oslots h ++ oslots m))
  | .call _ l | .callD _ l | .callF _ l => l.flatMap Opd.slots
  | .callV f l => f.slots ++ l.flatMap Opd.slots
def AOp.isE : AOp → Bool
  | .own .. | .litsO .. | .box0 _ | .box _ | .store .. | .call .. | .callV .. | .callD .. | .callF .. | .clearA .. | .append .. | .mkMap | .look .. | .upd .. | .lenM _ | .rngS _ | .nextS _ => true
  | _ => false
def AOp.isL : AOp → Bool
  | .loadA .. | .load1 _ => true
  | _ => false
def AOper.reads (o : AOper) : List Nat := o.op.slots ++ (match o.guard with | some (t, _) => [t] | none => [])
def maskOf (acc : List Nat) : List Edge → Nat
  | [] => 0
  | e :: r => if Region.binds .any e then maskOf acc r ||| (2 ^ e.on ||| (nth acc e.on).getD 0) else maskOf acc r
def befGo : List Oper → List Nat → List Nat
  | [], acc => acc
  | o :: r, acc => befGo r (acc ++ [maskOf acc o.after.toList])
def befs (ops : List Oper) : List Nat := befGo ops []
def ahead (bs : List Nat) (i k : Nat) : Bool := ((nth bs k).getD 0).testBit i
def meet (x y : AOper) : Bool :=
  (match x.dst with | some d => y.reads.contains d || y.dst == some d | none => false) || (match y.dst with | some d => x.reads.contains d | none => false)
def fenced (bs : List Nat) (l : List AOper) (k : Nat) : Bool := (List.range l.length).all fun i => match nth l i with
  | some x => !x.op.isL || (if i < k then ahead bs i k else i == k || ahead bs k i)
  | none => true
def AOp.isCall : AOp → Bool
  | .call .. | .callV .. => true
  | _ => false
def ordered (bs : List Nat) (i k : Nat) : Bool := i == k || (if i < k then ahead bs i k else ahead bs k i)
def alone (bs : List Nat) (l : List AOper) (k : Nat) : Bool := (List.range l.length).any fun i => match nth l i with
  | some x => x.op.isE && !x.op.isCall && !ordered bs i k
  | none => false
def AOp.slotL : AOp → Option Nat
  | .load1 (.tmp z) => some z
  | .loadA _ (.tmp z) => some z
  | _ => none
def AOp.isSt : AOp → Bool
  | .store .. => true
  | .append .. => true
  | _ => false
def noWr (l : List AOper) (i k z : Nat) : Bool := (List.range k).all fun p => decide (p < i) || match nth l p with | some x => x.dst != some z | none => true
def sepList (bs : List Nat) (l : List AOper) (k : Nat) : List Nat := (List.range k).filterMap fun i => match nth l i with
  | some x => if x.op.isL && !ahead bs i k then x.op.slotL else none
  | none => none
def sepGood (bs : List Nat) (l : List AOper) (k : Nat) (sep : List Nat) : Bool := (List.range l.length).all fun i => match nth l i with
  | some x => !x.op.isL || i == k || (if i < k then (ahead bs i k || match x.op.slotL with | some z => sep.contains z && noWr l i k z | none => false) else ahead bs k i)
  | none => true
def withFlags (bs : List Nat) (l : List AOper) : Nat → List AOper → List AOper
  | _, [] => []
  | k, x :: r => { x with grow := x.op.isE && !(x.op.isCall && alone bs l k) && !fenced bs l k, nomem := x.op.isCall && alone bs l k, sep := if x.op.isSt && !fenced bs l k && sepGood bs l k (sepList bs l k) then sepList bs l k else [] } :: withFlags bs l (k + 1) r
def AOper.isE' (x : AOper) : Bool := x.op.isE && !x.nomem
def okLoad : AOp → Bool
  | .load1 (.cst _) | .loadA _ (.cst _) => false
  | _ => true
def orderOk (ops : Array Oper) (bs : List Nat) (l : List AOper) : Bool := (List.range l.length).all fun k => match nth l k, ops[k]? with
  | some y, some o => o.after.toList.all (fun e => !Region.binds .any e || decide (e.on < k)) && ((!y.nomem || y.op.isCall) && okLoad y.op) && ((!(y.isE' && !y.grow) || fenced bs l k) && (y.sep.isEmpty || sepGood bs l k y.sep)) &&
    (List.range k).all fun i => match nth l i with
      | some x => (!meet x y || ahead bs i k) && (!(x.isE' && y.isE') || ahead bs i k)
      | none => false
  | _, _ => false
def openOrder (ops : Array Oper) (l : List AOper) : Option (List AOper) :=
  if orderOk ops (befs ops.toList) (withFlags (befs ops.toList) l 0 l) then some (withFlags (befs ops.toList) l 0 l) else none
def comp (P : Program) (A : Ann) : Code → Option ACode
  | .skip => some .skip
  | .region id ops draw => if draw then
      (cOpers P { A with own := A.own.filter (1000000 ≤ ·) } ops [] ops.toList).bind fun l0 => (openOrder ops l0).bind fun l => some (.region l true (find A.lv id))
    else (cOpers P A ops [] ops.toList).bind fun l => some (.region l false (find A.lv id))
  | .seq a b => (comp P A a).bind fun x => (comp P A b).bind fun y => some (.seq x y)
  | .cond c a b => (cOpd c).bind fun c => (comp P A a).bind fun x => (comp P A b).bind fun y => some (.cond c x y)
  | .block id c => (comp P A c).bind fun x => some (.block id x)
  | .loop c => (comp P A c).bind fun x => some (.loop (find A.lp (firstRegion c)) x)
  | .exit id => some (.exit id)
  | .ret => some .ret
  | _ => none
def cRes (P : Program) : List ResultVar → Option (List ARes)
  | [] => some []
  | .tmp t :: r => (cRes P r).bind fun l => some (.tmp t :: l)
  | .cell a t :: r => (aggQ P t).bind fun g => (szOf P t).bind fun n => (cRes P r).bind fun l => some ((if g then .cellA a n else .cell1 a) :: l)
def compFn (P : Program) (A : Ann) (fn : Func) : Option AFn :=
  match fn.body with
  | none => none
  | some c => if fn.name != "runtime.NumGoroutine" ∧ A.n = fn.ntmps ∧ fn.params.size + fn.nfree ≤ fn.ntmps then
      (comp P A c).bind fun b => (cRes P fn.results.toList).bind fun r => some { nparams := fn.params.size + fn.nfree, results := r, body := b }
    else none
end Go.Abs
namespace Go.Abs
open Go
inductive K where
  | seq (c : ACode)
  | block (id : Nat)
  | loop (live : List Nat) (n : Nat) (c : ACode)
noncomputable def kr (C : CallF) (fn : List ARes) (base : Nat) : List K → Out → Option (AVal × AMem)
  | [], o => finish fn base o
  | .seq c :: k, o => obind (goOn o (aexec C c)) (kr C fn base k)
  | .block id :: k, o => kr C fn base k (outOf id o)
  | .loop live n c :: k, o => obind (goOn o fun e m => aexec C (.loop live c) (backE n m (keepS e live)) (backM n m)) (kr C fn base k)
noncomputable def exK (C : CallF) (fn : List ARes) (base : Nat) (k : List K) (c : ACode) (env : Env) (M : AMem) : Option (AVal × AMem) := obind (aexec C c env M) (kr C fn base k)
noncomputable def opsK (C : CallF) (fn : List ARes) (base : Nat) (k : List K) (live : List Nat) (ops : List AOper) (env : Env) (M : AMem) : Option (AVal × AMem) :=
  obind (aregion C ops env M) fun x => kr C fn base k ⟨.normal, keepS x.1 live, x.2⟩
noncomputable def opK (C : CallF) (fn : List ARes) (base : Nat) (k : List K) (live : List Nat) (dst : Option Nat) (r : List AOper) (env : Env) (y : Option (AVal × AMem)) : Option (AVal × AMem) :=
  obind y fun x => opsK C fn base k live r (putS env dst x.1) x.2
noncomputable def gK (C : CallF) (fn : List ARes) (base : Nat) (k : List K) (live : List Nat) (g : AVal) (want : Bool) (o : AOper) (r : List AOper) (env : Env) (M : AMem) : Option (AVal × AMem) :=
  match g with
  | .bool b => oif (b == want) (opK C fn base k live o.dst r env (astep C o env M)) (opsK C fn base k live r (putS env o.dst (.tuple [])) M)
  | .tuple [] => opsK C fn base k live r (putS env o.dst (.tuple [])) M
  | _ => none
noncomputable def forkK (C : CallF) (fn : List ARes) (base : Nat) (k : List K) (v : AVal) (x y : ACode) (env : Env) (M : AMem) : Option (AVal × AMem) :=
  match v with
  | .bool t => oif t (exK C fn base k x env M) (exK C fn base k y env M)
  | _ => none
theorem obind_assoc {α β γ : Type} (x : Option α) (f : α → Option β) (g : β → Option γ) : obind (obind x f) g = obind x fun a => obind (f a) g := by cases x <;> rfl
section
variable (C : CallF) (fn : List ARes) (base : Nat) (k : List K) (env : Env) (M : AMem)
theorem exK_skip : exK C fn base k .skip env M = kr C fn base k ⟨.normal, env, M⟩ := rfl
theorem exK_exit (id : Nat) : exK C fn base k (.exit id) env M = kr C fn base k ⟨.exit id, env, M⟩ := rfl
theorem exK_ret : exK C fn base k .ret env M = kr C fn base k ⟨.ret, env, M⟩ := rfl
theorem exK_seq (a b : ACode) : exK C fn base k (.seq a b) env M = exK C fn base (.seq b :: k) a env M := by
  unfold exK
  rw [aexec, obind_assoc]
  rfl
theorem exK_block (id : Nat) (c : ACode) : exK C fn base k (.block id c) env M = exK C fn base (.block id :: k) c env M := by
  unfold exK
  rw [aexec, obind_assoc]
  rfl
theorem exK_cond (c : Opd) (x y : ACode) : exK C fn base k (.cond c x y) env M = forkK C fn base k (c.ev env) x y env M := by
  unfold exK forkK
  rw [aexec]
  cases c.ev env <;> simp [exK]
theorem exK_region (ops : List AOper) (d : Bool) (live : List Nat) : exK C fn base k (.region ops d live) env M = opsK C fn base k live ops env M := by
  unfold exK opsK
  rw [aexec, obind_assoc]
  rfl
theorem exK_loop (live : List Nat) (c : ACode) : exK C fn base k (.loop live c) env M = exK C fn base (.loop live M.length c :: k) c (keepS env live) M := by
  unfold exK
  rw [aexec_loop, obind_assoc]
  rfl
theorem opsK_nil (live : List Nat) : opsK C fn base k live [] env M = kr C fn base k ⟨.normal, keepS env live, M⟩ := rfl
theorem opsK_none (live : List Nat) (d : Option Nat) (op : AOp) (g m : Bool) (s : List Nat) (r : List AOper) :
    opsK C fn base k live (⟨d, op, none, g, m, s⟩ :: r) env M = opK C fn base k live d r env (astep C ⟨d, op, none, g, m, s⟩ env M) := by
  unfold opsK opK
  rw [aregion, obind_assoc]
  rfl
theorem opsK_some (live : List Nat) (d : Option Nat) (op : AOp) (t : Nat) (w g m : Bool) (s : List Nat) (r : List AOper) :
    opsK C fn base k live (⟨d, op, some (t, w), g, m, s⟩ :: r) env M = gK C fn base k live (getS env t) w ⟨d, op, some (t, w), g, m, s⟩ r env M := by
  unfold opsK gK
  rw [aregion]
  simp only
  generalize getS env t = v
  split
  · rw [obind_oif, obind_assoc]; rfl
  · rfl
  · rename_i h1 h2
    first
      | rfl
      | (split
         · rename_i b; exact absurd rfl (h1 b)
         · exact absurd rfl h2
         · rfl)
theorem opK_some (live : List Nat) (d : Option Nat) (r : List AOper) (v : AVal) (M' : AMem) : opK C fn base k live d r env (some (v, M')) = opsK C fn base k live r (putS env d v) M' := rfl
theorem gK_tt (live : List Nat) (o : AOper) (r : List AOper) : gK C fn base k live (.bool true) true o r env M = opK C fn base k live o.dst r env (astep C o env M) := rfl
theorem gK_ff (live : List Nat) (o : AOper) (r : List AOper) : gK C fn base k live (.bool false) false o r env M = opK C fn base k live o.dst r env (astep C o env M) := rfl
theorem gK_tf (live : List Nat) (o : AOper) (r : List AOper) : gK C fn base k live (.bool true) false o r env M = opsK C fn base k live r (putS env o.dst (.tuple [])) M := rfl
theorem gK_ft (live : List Nat) (o : AOper) (r : List AOper) : gK C fn base k live (.bool false) true o r env M = opsK C fn base k live r (putS env o.dst (.tuple [])) M := rfl
theorem gK_un (live : List Nat) (w : Bool) (o : AOper) (r : List AOper) : gK C fn base k live (.tuple []) w o r env M = opsK C fn base k live r (putS env o.dst (.tuple [])) M := rfl
theorem forkK_t (x y : ACode) : forkK C fn base k (.bool true) x y env M = exK C fn base k x env M := rfl
theorem forkK_f (x y : ACode) : forkK C fn base k (.bool false) x y env M = exK C fn base k y env M := rfl
theorem kr_seq (c : ACode) : kr C fn base (.seq c :: k) ⟨.normal, env, M⟩ = exK C fn base k c env M := rfl
theorem kr_seq_exit (c : ACode) (i : Nat) : kr C fn base (.seq c :: k) ⟨.exit i, env, M⟩ = kr C fn base k ⟨.exit i, env, M⟩ := rfl
theorem kr_seq_ret (c : ACode) : kr C fn base (.seq c :: k) ⟨.ret, env, M⟩ = kr C fn base k ⟨.ret, env, M⟩ := rfl
theorem kr_block (id : Nat) : kr C fn base (.block id :: k) ⟨.normal, env, M⟩ = kr C fn base k ⟨.normal, env, M⟩ := rfl
theorem kr_block_exit (id i : Nat) : kr C fn base (.block id :: k) ⟨.exit i, env, M⟩ = if i = id then kr C fn base k ⟨.normal, env, M⟩ else kr C fn base k ⟨.exit i, env, M⟩ := by
  rw [kr]; simp only [outOf]; split <;> rfl
theorem kr_block_ret (id : Nat) : kr C fn base (.block id :: k) ⟨.ret, env, M⟩ = kr C fn base k ⟨.ret, env, M⟩ := rfl
theorem kr_loop (live : List Nat) (n : Nat) (c : ACode) : kr C fn base (.loop live n c :: k) ⟨.normal, env, M⟩ = exK C fn base k (.loop live c) (backE n M (keepS env live)) (backM n M) := rfl
theorem kr_loop_exit (live : List Nat) (n : Nat) (c : ACode) (i : Nat) : kr C fn base (.loop live n c :: k) ⟨.exit i, env, M⟩ = kr C fn base k ⟨.exit i, env, M⟩ := rfl
theorem kr_loop_ret (live : List Nat) (n : Nat) (c : ACode) : kr C fn base (.loop live n c :: k) ⟨.ret, env, M⟩ = kr C fn base k ⟨.ret, env, M⟩ := rfl
theorem kr_nil (o : Out) : kr C fn base [] o = finish fn base o := rfl
end
theorem exK_head {q body : ACode} (h : q = body) (C : CallF) (fn : List ARes) (base : Nat) (k : List K) (env : Env) (M : AMem) : exK C fn base k q env M = exK C fn base k body env M := by rw [h]
theorem acall_ex {T : Tab} {f : Nat} {fn : AFn} {args : List AVal} {M : AMem} {x : AVal × AMem} (hp : T.prim f = none) (hc : T.code f = some fn) (hl : args.length = fn.nparams)
    (h : exK (acall T) fn.results M.length [] fn.body (parsFrom 0 args) M = some x) : acall T f args M = some x :=
  acall_body hp hc hl (by
    unfold exK at h
    obtain ⟨o, h1, h2⟩ := obind_inv h
    rw [h1]; exact h2)
end Go.Abs
set_option linter.defProp false
namespace Go.Proofs.YtnapockikkbkcaaGreat
open Go Go.Abs
def q11_0 : ACode :=
 (.seq (.region [
 ob 0 (.mv (.cst (.bool false)))] false [0]) (.ret))
def q11_1 : ACode :=
 (.seq (.region [
 ob 82 (.mv (.tmp 2)),
 ob 83 (.bin .eql (.tmp 82) (.cst (.int .i64 2))),
 ob 84 (.mv (.tmp 83)),
 og 85 84 true (.mv (.tmp 3)),
 og 86 84 true (.bin .eql (.tmp 85) (.cst (.int .i64 0))),
 ob 87 (.pick (.tmp 84) (.tmp 86) (.cst (.bool false))),
 ob 88 (.mv (.tmp 87)),
 og 89 88 true (.mv (.tmp 4)),
 og 90 88 true (.bin .eql (.tmp 89) (.cst (.int .i64 3))),
 ob 91 (.pick (.tmp 88) (.tmp 90) (.cst (.bool false))),
 ob 92 (.mv (.tmp 91)),
 og 93 92 true (.mv (.tmp 5)),
 og 94 92 true (.bin .eql (.tmp 93) (.cst (.int .i64 0))),
 ob 95 (.pick (.tmp 92) (.tmp 94) (.cst (.bool false))),
 ob 96 (.mv (.tmp 95)),
 og 97 96 true (.mv (.tmp 6)),
 og 98 96 true (.bin .eql (.tmp 97) (.cst (.int .i64 0))),
 ob 99 (.pick (.tmp 96) (.tmp 98) (.cst (.bool false))),
 ob 100 (.mv (.tmp 99)),
 og 101 100 true (.mv (.tmp 9)),
 og 102 100 true (.bin .eql (.tmp 101) (.cst (.int .i64 75))),
 ob 103 (.pick (.tmp 100) (.tmp 102) (.cst (.bool false))),
 ob 104 (.mv (.tmp 103)),
 og 105 104 true (.mv (.tmp 10)),
 og 106 104 true (.iaddr 3 (.tmp 105) (.cst (.int .i64 0))),
 og 107 104 true (.loadA 3 (.tmp 106)),
 og 108 104 true (.build [(.str []), (.int .i64 0), (.int .i64 0)] [(0, 1, (.cst (.str [97]))), (1, 1, (.cst (.int .i64 2))), (2, 1, (.cst (.int .i64 1)))]),
 og 109 104 true (.eqA [.s, .i, .i] false (.tmp 107) (.tmp 108)),
 ob 110 (.pick (.tmp 104) (.tmp 109) (.cst (.bool false))),
 ob 111 (.mv (.tmp 110)),
 og 112 111 true (.mv (.tmp 11)),
 og 113 111 true (.bin .eql (.tmp 112) (.cst (.int .i64 2))),
 ob 114 (.pick (.tmp 111) (.tmp 113) (.cst (.bool false))),
 ob 115 (.mv (.tmp 114)),
 og 116 115 true (.mv (.tmp 12)),
 og 117 115 true (.bin .eql (.tmp 116) (.cst (.int .i64 0))),
 ob 118 (.pick (.tmp 115) (.tmp 117) (.cst (.bool false))),
 ob 119 (.mv (.tmp 118)),
 og 120 119 true (.mv (.tmp 14)),
 og 121 119 true (.bin .eql (.tmp 120) (.cst (.int .i64 3))),
 ob 122 (.pick (.tmp 119) (.tmp 121) (.cst (.bool false))),
 ob 123 (.mv (.tmp 122)),
 og 124 123 true (.mv (.tmp 15)),
 og 125 123 true (.bin .eql (.tmp 124) (.cst (.int .i64 0))),
 ob 126 (.pick (.tmp 123) (.tmp 125) (.cst (.bool false))),
 ob 127 (.mv (.tmp 126)),
 og 128 127 true (.faddr 2 (.tmp 16)),
 og 129 127 true (.load1 (.tmp 128)),
 og 130 127 true (.bin .eql (.tmp 129) (.cst (.int .i64 1))),
 ob 131 (.pick (.tmp 127) (.tmp 130) (.cst (.bool false))),
 ob 132 (.mv (.tmp 131)),
 og 133 132 true (.mv (.tmp 17)),
 ob 134 (.pick (.tmp 132) (.tmp 133) (.cst (.bool false))),
 ob 135 (.mv (.tmp 134)),
 og 136 135 true (.mv (.tmp 18)),
 og 137 135 true (.bin .eql (.tmp 136) (.cst (.int .i64 3))),
 ob 138 (.pick (.tmp 135) (.tmp 137) (.cst (.bool false))),
 ob 139 (.mv (.tmp 138)),
 og 140 139 true (.mv (.tmp 19)),
 og 141 139 true (.bin .eql (.tmp 140) (.cst (.int .i64 0))),
 ob 142 (.pick (.tmp 139) (.tmp 141) (.cst (.bool false))),
 ob 143 (.mv (.tmp 142)),
 og 144 143 true (.mv (.tmp 22)),
 og 145 143 true (.bin .eql (.tmp 144) (.cst (.int .i64 74))),
 ob 146 (.pick (.tmp 143) (.tmp 145) (.cst (.bool false))),
 ob 147 (.mv (.tmp 146)),
 og 148 147 true (.loadA 3 (.tmp 1)),
 og 149 147 true (.call 32 [(.tmp 148)]),
 ob 150 (.pick (.tmp 147) (.tmp 149) (.cst (.bool false))),
 ob 151 (.mv (.tmp 150)),
 og 152 151 true (.build [(.slice .c0 []), (.int .i64 0), (.int .i64 0)] []),
 og 153 151 true (.call 32 [(.tmp 152)]),
 og 154 151 true (.not (.tmp 153)),
 ob 155 (.pick (.tmp 151) (.tmp 154) (.cst (.bool false))),
 ob 156 (.mv (.tmp 155)),
 og 157 156 true (.loadA 3 (.tmp 1)),
 og 158 156 true (.loadA 3 (.tmp 13)),
 og 159 156 true (.call 18 [(.tmp 157), (.tmp 158)]),
 og 160 156 true (.not (.tmp 159)),
 ob 161 (.pick (.tmp 156) (.tmp 160) (.cst (.bool false))),
 ob 0 (.mv (.tmp 161))] false [0]) (.ret))
def q11_2 : ACode :=
 (.seq (.seq (.region [
 ob 79 (.mv (.tmp 10)),
 ob 80 (.lenV (.tmp 79)),
 ob 81 (.bin .neq (.tmp 80) (.cst (.int .i64 1)))] false [1, 2, 3, 4, 5, 6, 9, 10, 11, 12, 13, 14, 15, 16, 17, 18, 19, 22, 81]) (.cond (.tmp 81) q11_0 (.skip))) q11_1)
def q11_3 : ACode :=
 (.seq (.region [
 ob 74 (.loadA 3 (.tmp 1)),
 ob 75 (.call 38 [(.tmp 74), (.cst (.int .i64 1)), (.cst (.str [97]))]),
 ob 73 (.mv (.tmp 75)),
 ob 76 (.extract (.tmp 73) 0),
 ob 77 (.extract (.tmp 73) 1),
 ob 78 (.extract (.tmp 73) 2),
 ob 20 (.box0 [(.slice .c0 []), (.int .i64 0), (.int .i64 0)]),
 ox (.store 3 (.tmp 20) (.tmp 76)),
 ob 21 (.mv (.tmp 77)),
 ob 22 (.mv (.tmp 78))] false [1, 2, 3, 4, 5, 6, 9, 10, 11, 12, 13, 14, 15, 16, 17, 18, 19, 22]) q11_2)
def q11_4 : ACode :=
 (.seq (.region [
 ob 69 (.loadA 3 (.tmp 1)),
 ob 70 (.call 27 [(.tmp 69), (.cst (.str [47, 97, 47, 102]))]),
 ob 68 (.mv (.tmp 70)),
 ob 71 (.extract (.tmp 68) 0),
 ob 72 (.extract (.tmp 68) 1),
 ob 18 (.mv (.tmp 71)),
 ob 19 (.mv (.tmp 72))] false [1, 2, 3, 4, 5, 6, 9, 10, 11, 12, 13, 14, 15, 16, 17, 18, 19]) q11_3)
def q11_5 : ACode :=
 (.seq (.region [
 ob 63 (.loadA 3 (.tmp 13)),
 ob 64 (.mv (.tmp 4)),
 ob 65 (.call 19 [(.tmp 63), (.tmp 64)]),
 ob 62 (.mv (.tmp 65)),
 ob 66 (.extract (.tmp 62) 0),
 ob 67 (.extract (.tmp 62) 1),
 ob 16 (.box0 [(.int .i64 0), (.int .i64 0), (.int .i64 0), (.slice .c0 []), (.slice .c0 []), (.int .i64 0)]),
 ox (.store 6 (.tmp 16) (.tmp 66)),
 ob 17 (.mv (.tmp 67))] false [1, 2, 3, 4, 5, 6, 9, 10, 11, 12, 13, 14, 15, 16, 17]) q11_4)
def q11_6 : ACode :=
 (.seq (.region [
 ob 56 (.loadA 3 (.tmp 1)),
 ob 57 (.mv (.tmp 2)),
 ob 58 (.call 38 [(.tmp 56), (.tmp 57), (.cst (.str [102]))]),
 ob 55 (.mv (.tmp 58)),
 ob 59 (.extract (.tmp 55) 0),
 ob 60 (.extract (.tmp 55) 1),
 ob 61 (.extract (.tmp 55) 2),
 ob 13 (.box0 [(.slice .c0 []), (.int .i64 0), (.int .i64 0)]),
 ox (.store 3 (.tmp 13) (.tmp 59)),
 ob 14 (.mv (.tmp 60)),
 ob 15 (.mv (.tmp 61))] false [1, 2, 3, 4, 5, 6, 9, 10, 11, 12, 13, 14, 15]) q11_5)
def q11_7 : ACode :=
 (.seq (.region [
 ob 50 (.loadA 3 (.tmp 1)),
 ob 51 (.call 24 [(.tmp 50), (.cst (.int .i64 1)), (.cst (.int .i64 0)), (.cst (.int .i64 1))]),
 ob 49 (.mv (.tmp 51)),
 ob 52 (.extract (.tmp 49) 0),
 ob 53 (.extract (.tmp 49) 1),
 ob 54 (.extract (.tmp 49) 2),
 ob 10 (.mv (.tmp 52)),
 ob 11 (.mv (.tmp 53)),
 ob 12 (.mv (.tmp 54))] false [1, 2, 3, 4, 5, 6, 9, 10, 11, 12]) q11_6)
def q11_8 : ACode :=
 (.seq (.region [
 ob 43 (.loadA 3 (.tmp 1)),
 ob 44 (.mv (.tmp 2)),
 ob 45 (.call 17 [(.tmp 43), (.cst (.int .i64 1)), (.cst (.str [97])), (.tmp 44), (.cst (.str [120]))]),
 ob 42 (.mv (.tmp 45)),
 ob 46 (.extract (.tmp 42) 0),
 ob 47 (.extract (.tmp 42) 1),
 ob 48 (.extract (.tmp 42) 2),
 ob 7 (.box0 [(.slice .c0 []), (.int .i64 0), (.int .i64 0)]),
 ox (.store 3 (.tmp 7) (.tmp 46)),
 ob 8 (.mv (.tmp 47)),
 ob 9 (.mv (.tmp 48))] false [1, 2, 3, 4, 5, 6, 9]) q11_7)
def q11_9 : ACode :=
 (.seq (.region [
 ob 37 (.loadA 3 (.tmp 1)),
 ob 38 (.mv (.tmp 4)),
 ob 39 (.call 37 [(.tmp 37), (.tmp 38), (.cst (.int .i64 1)), (.cst (.str [103]))]),
 ob 36 (.mv (.tmp 39)),
 ob 40 (.extract (.tmp 36) 0),
 ob 41 (.extract (.tmp 36) 1),
 ox (.store 3 (.tmp 1) (.tmp 40)),
 ob 6 (.mv (.tmp 41))] false [1, 2, 3, 4, 5, 6]) q11_8)
def q11_10 : ACode :=
 (.seq (.region [
 ob 30 (.loadA 3 (.tmp 1)),
 ob 31 (.mv (.tmp 2)),
 ob 32 (.call 28 [(.tmp 30), (.tmp 31), (.cst (.str [102])), (.cst (.int .i64 1))]),
 ob 29 (.mv (.tmp 32)),
 ob 33 (.extract (.tmp 29) 0),
 ob 34 (.extract (.tmp 29) 1),
 ob 35 (.extract (.tmp 29) 2),
 ox (.store 3 (.tmp 1) (.tmp 33)),
 ob 4 (.mv (.tmp 34)),
 ob 5 (.mv (.tmp 35))] false [1, 2, 3, 4, 5]) q11_9)
def q11_11 : ACode :=
 (.seq (.region [
 ob 24 (.call 36 []),
 ob 25 (.call 28 [(.tmp 24), (.cst (.int .i64 1)), (.cst (.str [97])), (.cst (.int .i64 2))]),
 ob 23 (.mv (.tmp 25)),
 ob 26 (.extract (.tmp 23) 0),
 ob 27 (.extract (.tmp 23) 1),
 ob 28 (.extract (.tmp 23) 2),
 ob 1 (.box0 [(.slice .c0 []), (.int .i64 0), (.int .i64 0)]),
 ox (.store 3 (.tmp 1) (.tmp 26)),
 ob 2 (.mv (.tmp 27)),
 ob 3 (.mv (.tmp 28))] false [1, 2, 3]) q11_10)
def E11 := And.intro (exK_head q11_0.eq_1) (And.intro (exK_head q11_1.eq_1) (And.intro (exK_head q11_2.eq_1) (And.intro (exK_head q11_3.eq_1) (And.intro (exK_head q11_4.eq_1) (And.intro (exK_head q11_5.eq_1) (And.intro (exK_head q11_6.eq_1) (And.intro (exK_head q11_7.eq_1) (And.intro (exK_head q11_8.eq_1) (And.intro (exK_head q11_9.eq_1) (And.intro (exK_head q11_10.eq_1) (exK_head q11_11.eq_1)))))))))))
def ann11 : Ann := { n := 162, own := [], lv := [(0, []), (1, [1, 2, 3]), (2, [1, 2, 3, 4, 5]), (3, [1, 2, 3, 4, 5, 6]), (4, [1, 2, 3, 4, 5, 6, 9]), (5, [1, 2, 3, 4, 5, 6, 9, 10, 11, 12]), (6, [1, 2, 3, 4, 5, 6, 9, 10, 11, 12, 13, 14, 15]), (7, [1, 2, 3, 4, 5, 6, 9, 10, 11, 12, 13, 14, 15, 16, 17]), (8, [1, 2, 3, 4, 5, 6, 9, 10, 11, 12, 13, 14, 15, 16, 17, 18, 19]), (9, [1, 2, 3, 4, 5, 6, 9, 10, 11, 12, 13, 14, 15, 16, 17, 18, 19, 22]), (10, [1, 2, 3, 4, 5, 6, 9, 10, 11, 12, 13, 14, 15, 16, 17, 18, 19, 22, 81]), (11, [0]), (12, [0])], lp := [] }
def fn11 : AFn := AFn.mk 0 [.tmp 0]
  (.seq (.region [
  ob 0 (.mv (.cst (.bool false)))] false []) q11_11)
theorem ok11 : compFn Tryz.prog ann11 Tryz.f11 = some fn11 := by kernel_rfl
def q12_0 : ACode :=
 (.seq (.region [
 ob 2 (.mv (.cst (.bool true)))] false [2]) (.ret))
def q12_1 : ACode :=
 (.seq (.region [
 ob 2 (.mv (.cst (.bool true)))] false [2]) (.ret))
def q12_2 : ACode :=
 (.region [
 ob 11 (.mv (.tmp 3)),
 ob 12 (.bin .add (.tmp 11) (.cst (.int .i64 1))),
 ob 3 (.mv (.tmp 12))] false [0, 3])
def q12_3 : ACode :=
 (.seq (.block 1 (.seq (.region [
 ob 13 (.mv (.tmp 0)),
 ob 14 (.mv (.tmp 3)),
 ob 15 (.iaddr 6 (.tmp 13) (.tmp 14)),
 ob 16 (.faddr 5 (.tmp 15)),
 ob 17 (.load1 (.tmp 16)),
 ob 18 (.lenV (.tmp 17)),
 ob 19 (.bin .gtr (.tmp 18) (.cst (.int .i64 5000)))] false [0, 3, 19]) (.cond (.tmp 19) q12_1 (.skip)))) q12_2)
def lb12_0 : ACode :=
 (.seq (.seq (.region [
 ob 7 (.mv (.tmp 3)),
 ob 8 (.mv (.tmp 0)),
 ob 9 (.lenV (.tmp 8)),
 ob 10 (.bin .lss (.tmp 7) (.tmp 9))] false [0, 3, 10]) (.cond (.tmp 10) (.skip) (.exit 0))) q12_3)
def q12_4 : ACode :=
 (.seq (.region [
 ob 2 (.mv (.cst (.bool false)))] false [2]) (.ret))
def q12_5 : ACode :=
 (.seq (.seq (.region [
 ob 3 (.mv (.cst (.int .i64 0)))] false [0, 3]) (.block 0 (.loop [0, 3] lb12_0))) q12_4)
def q12_6 : ACode :=
 (.seq (.seq (.region [
 ob 4 (.mv (.tmp 0)),
 ob 5 (.lenV (.tmp 4)),
 ob 6 (.bin .gtr (.tmp 5) (.cst (.int .i64 60)))] false [0, 6]) (.cond (.tmp 6) q12_0 (.skip))) q12_5)
def E12 := And.intro (exK_head q12_0.eq_1) (And.intro (exK_head q12_1.eq_1) (And.intro (exK_head q12_2.eq_1) (And.intro (exK_head q12_3.eq_1) (And.intro (exK_head lb12_0.eq_1) (And.intro (exK_head q12_4.eq_1) (And.intro (exK_head q12_5.eq_1) (exK_head q12_6.eq_1)))))))
def ann12 : Ann := { n := 20, own := [], lv := [(0, [0]), (1, [0, 6]), (2, [2]), (3, [0, 3]), (4, [0, 3, 10]), (5, [0, 3]), (6, [0, 3, 19]), (7, [2]), (8, [2])], lp := [(4, [0, 3])] }
def fn12 : AFn := AFn.mk 1 [.tmp 2]
  (.seq (.region [
  ob 2 (.mv (.cst (.bool false)))] false [0]) q12_6)
theorem ok12 : compFn Tryz.prog ann12 Tryz.f12 = some fn12 := by kernel_rfl
def q13_0 : ACode :=
 (.region [
 ob 25 (.loadA 3 (.tmp 5)),
 ox (.store 3 (.tmp 3) (.tmp 25))] false [0, 2, 3, 4])
def q13_1 : ACode :=
 (.region [
 ob 13 (.mv (.tmp 4)),
 ob 14 (.bin .add (.tmp 13) (.cst (.int .i64 1))),
 ob 4 (.mv (.tmp 14))] false [0, 2, 3, 4])
def q13_2 : ACode :=
 (.seq (.block 1 (.seq (.region [
 ob 16 (.loadA 3 (.tmp 3)),
 ob 17 (.mv (.tmp 0)),
 ob 18 (.mv (.tmp 4)),
 ob 19 (.iaddr 6 (.tmp 17) (.tmp 18)),
 ob 20 (.loadA 6 (.tmp 19)),
 ⟨(some 21), .call 25 [(.tmp 16), (.tmp 20)], none, false, true, []⟩,
 ob 15 (.mv (.tmp 21)),
 ob 22 (.extract (.tmp 15) 0),
 ob 23 (.extract (.tmp 15) 1),
 ob 24 (.extract (.tmp 15) 2),
 ⟨(some 5), .box0 [(.slice .c0 []), (.int .i64 0), (.int .i64 0)], none, true, false, []⟩,
 ox (.store 3 (.tmp 5) (.tmp 22)),
 ob 6 (.mv (.tmp 23)),
 ob 7 (.mv (.tmp 24))] true [0, 2, 3, 4, 5]) q13_0)) q13_1)
def lb13_0 : ACode :=
 (.seq (.seq (.region [
 ob 9 (.mv (.tmp 4)),
 ob 10 (.mv (.tmp 0)),
 ob 11 (.lenV (.tmp 10)),
 ob 12 (.bin .lss (.tmp 9) (.tmp 11))] false [0, 2, 3, 4, 12]) (.cond (.tmp 12) (.skip) (.exit 0))) q13_2)
def q13_3 : ACode :=
 (.seq (.region [
 ob 26 (.loadA 3 (.tmp 3)),
 ox (.store 3 (.tmp 2) (.tmp 26))] false [2]) (.ret))
def q13_4 : ACode :=
 (.seq (.seq (.region [
 ob 4 (.mv (.cst (.int .i64 0)))] false [0, 2, 3, 4]) (.block 0 (.loop [0, 2, 3, 4] lb13_0))) q13_3)
def q13_5 : ACode :=
 (.seq (.region [
 ob 8 (.call 39 []),
 ob 3 (.box0 [(.slice .c0 []), (.int .i64 0), (.int .i64 0)]),
 ox (.store 3 (.tmp 3) (.tmp 8))] false [0, 2, 3]) q13_4)
def E13 := And.intro (exK_head q13_0.eq_1) (And.intro (exK_head q13_1.eq_1) (And.intro (exK_head q13_2.eq_1) (And.intro (exK_head lb13_0.eq_1) (And.intro (exK_head q13_3.eq_1) (And.intro (exK_head q13_4.eq_1) (exK_head q13_5.eq_1))))))
def ann13 : Ann := { n := 27, own := [], lv := [(0, [0, 2]), (1, [0, 2, 3]), (2, [0, 2, 3, 4]), (3, [0, 2, 3, 4, 12]), (4, [0, 2, 3, 4]), (5, [0, 2, 3, 4, 5]), (6, [0, 2, 3, 4]), (7, [2])], lp := [(3, [0, 2, 3, 4])] }
def fn13 : AFn := AFn.mk 1 [.cellA 2 3]
  (.seq (.region [
  ob 2 (.box0 [(.slice .c0 []), (.int .i64 0), (.int .i64 0)])] false [0, 2]) q13_5)
theorem ok13 : compFn Tryz.prog ann13 Tryz.f13 = some fn13 := by kernel_rfl
def q14_0 : ACode :=
 (.seq (.region [
 ob 18 (.faddr 0 (.tmp 2)),
 ob 19 (.load1 (.tmp 18)),
 ob 20 (.mv (.tmp 5)),
 ob 21 (.iaddr 6 (.tmp 19) (.tmp 20)),
 ob 22 (.faddr 0 (.tmp 21)),
 ob 23 (.load1 (.tmp 22)),
 ob 4 (.mv (.tmp 23))] false [4]) (.ret))
def q14_1 : ACode :=
 (.seq (.region [
 ob 24 (.faddr 1 (.tmp 2)),
 ob 25 (.load1 (.tmp 24)),
 ob 4 (.mv (.tmp 25))] false [4]) (.ret))
def q14_2 : ACode :=
 (.seq (.seq (.region [
 ob 13 (.mv (.tmp 5)),
 ob 14 (.faddr 0 (.tmp 2)),
 ob 15 (.load1 (.tmp 14)),
 ob 16 (.lenV (.tmp 15)),
 ob 17 (.bin .lss (.tmp 13) (.tmp 16))] false [2, 5, 17]) (.cond (.tmp 17) q14_0 (.skip))) q14_1)
def q14_3 : ACode :=
 (.seq (.region [
 ob 6 (.mv (.tmp 1)),
 ob 7 (.conv .i64 (.tmp 6)),
 ob 8 (.faddr 0 (.tmp 2)),
 ob 9 (.load1 (.tmp 8)),
 ob 10 (.lenV (.tmp 9)),
 ob 11 (.bin .add (.tmp 10) (.cst (.int .i64 1))),
 ob 12 (.bin .rem (.tmp 7) (.tmp 11)),
 ob 5 (.mv (.tmp 12))] false [2, 5]) q14_2)
def E14 := And.intro (exK_head q14_0.eq_1) (And.intro (exK_head q14_1.eq_1) (And.intro (exK_head q14_2.eq_1) (exK_head q14_3.eq_1)))
def ann14 : Ann := { n := 26, own := [], lv := [(0, [1, 2]), (1, [2, 5]), (2, [2, 5, 17]), (3, [4]), (4, [4])], lp := [] }
def fn14 : AFn := AFn.mk 2 [.tmp 4]
  (.seq (.region [
  ob 2 (.box (.tmp 0)),
  ob 4 (.mv (.cst (.int .i64 0)))] false [1, 2]) q14_3)
theorem ok14 : compFn Tryz.prog ann14 Tryz.f14 = some fn14 := by kernel_rfl
def q15_0 : ACode :=
 (.seq (.region [
 ob 22 (.mv (.tmp 9)),
 ob 6 (.mv (.cst (.int .i64 0))),
 ob 7 (.mv (.tmp 22))] false [6, 7]) (.ret))
def q15_1 : ACode :=
 (.seq (.region [
 ob 6 (.mv (.cst (.int .i64 0))),
 ob 7 (.mv (.cst (.int .i64 60)))] false [6, 7]) (.ret))
def q15_2 : ACode :=
 (.seq (.region [
 ob 6 (.mv (.cst (.int .i64 0))),
 ob 7 (.mv (.cst (.int .i64 70)))] false [6, 7]) (.ret))
def q15_3 : ACode :=
 (.seq (.region [
 ob 34 (.faddr 4 (.tmp 8)),
 ob 35 (.load1 (.tmp 34)),
 ob 36 (.mv (.tmp 10)),
 ob 37 (.iaddr 3 (.tmp 35) (.tmp 36)),
 ob 38 (.faddr 1 (.tmp 37)),
 ob 39 (.load1 (.tmp 38)),
 ob 6 (.mv (.tmp 39)),
 ob 7 (.mv (.cst (.int .i64 0)))] false [6, 7]) (.ret))
def q15_4 : ACode :=
 (.seq (.seq (.region [
 ob 32 (.mv (.tmp 11)),
 ob 33 (.not (.tmp 32))] false [8, 10, 33]) (.cond (.tmp 33) q15_2 (.skip))) q15_3)
def q15_5 : ACode :=
 (.seq (.region [
 ob 27 (.loadA 6 (.tmp 8)),
 ob 28 (.mv (.tmp 2)),
 ob 29 (.call 42 [(.tmp 27), (.tmp 28)]),
 ob 26 (.mv (.tmp 29)),
 ob 30 (.extract (.tmp 26) 0),
 ob 31 (.extract (.tmp 26) 1),
 ob 10 (.mv (.tmp 30)),
 ob 11 (.mv (.tmp 31))] false [8, 10, 11]) q15_4)
def q15_6 : ACode :=
 (.seq (.seq (.region [
 ob 23 (.mv (.tmp 2)),
 ob 24 (.call 41 [(.tmp 23)]),
 ob 25 (.not (.tmp 24))] false [2, 8, 25]) (.cond (.tmp 25) q15_1 (.skip))) q15_5)
def q15_7 : ACode :=
 (.seq (.seq (.region [
 ob 20 (.mv (.tmp 9)),
 ob 21 (.bin .neq (.tmp 20) (.cst (.int .i64 0)))] false [2, 8, 9, 21]) (.cond (.tmp 21) q15_0 (.skip))) q15_6)
def q15_8 : ACode :=
 (.seq (.region [
 ob 13 (.loadA 3 (.tmp 3)),
 ob 14 (.build [(.slice .c0 []), (.int .i64 0), (.int .i64 0)] [(0, 3, (.tmp 13))]),
 ob 15 (.box (.tmp 14)),
 ob 16 (.mv (.tmp 1)),
 ob 17 (.call 40 [(.tmp 15), (.tmp 16)]),
 ob 12 (.mv (.tmp 17)),
 ob 18 (.extract (.tmp 12) 0),
 ob 19 (.extract (.tmp 12) 1),
 ob 8 (.box0 [(.int .i64 0), (.int .i64 0), (.int .i64 0), (.slice .c0 []), (.slice .c0 []), (.int .i64 0)]),
 ox (.store 6 (.tmp 8) (.tmp 18)),
 ob 9 (.mv (.tmp 19))] false [2, 8, 9]) q15_7)
def E15 := And.intro (exK_head q15_0.eq_1) (And.intro (exK_head q15_1.eq_1) (And.intro (exK_head q15_2.eq_1) (And.intro (exK_head q15_3.eq_1) (And.intro (exK_head q15_4.eq_1) (And.intro (exK_head q15_5.eq_1) (And.intro (exK_head q15_6.eq_1) (And.intro (exK_head q15_7.eq_1) (exK_head q15_8.eq_1))))))))
def ann15 : Ann := { n := 40, own := [], lv := [(0, [1, 2, 3]), (1, [2, 8, 9]), (2, [2, 8, 9, 21]), (3, [6, 7]), (4, [2, 8, 25]), (5, [6, 7]), (6, [8, 10, 11]), (7, [8, 10, 33]), (8, [6, 7]), (9, [6, 7])], lp := [] }
def fn15 : AFn := AFn.mk 3 [.tmp 6, .tmp 7]
  (.seq (.region [
  ob 3 (.box (.tmp 0)),
  ob 6 (.mv (.cst (.int .i64 0))),
  ob 7 (.mv (.cst (.int .i64 0)))] false [1, 2, 3]) q15_8)
theorem ok15 : compFn Tryz.prog ann15 Tryz.f15 = some fn15 := by kernel_rfl
def q16_0 : ACode :=
 (.seq (.region [
 ob 5 (.mv (.tmp 3)),
 ob 6 (.mv (.tmp 0)),
 ob 7 (.conv .i64 (.tmp 6)),
 ob 8 (.bin .rem (.tmp 7) (.cst (.int .i64 6))),
 ob 9 (.iaddr 1 (.tmp 5) (.tmp 8)),
 ob 10 (.load1 (.tmp 9)),
 ob 2 (.mv (.tmp 10))] false [2]) (.ret))
def q16_1 : ACode :=
 (.seq (.region [
 ob 4 (.lits 1 [(.cst (.str [97])), (.cst (.str [98])), (.cst (.str [99])), (.cst (.str [100])), (.cst (.str [101])), (.cst (.str [46, 46]))]),
 ob 3 (.mv (.tmp 4))] false [0, 3]) q16_0)
def E16 := And.intro (exK_head q16_0.eq_1) (exK_head q16_1.eq_1)
def ann16 : Ann := { n := 11, own := [], lv := [(0, [0]), (1, [0, 3]), (2, [2])], lp := [] }
def fn16 : AFn := AFn.mk 1 [.tmp 2]
  (.seq (.region [
  ob 2 (.mv (.cst (.str [])))] false [0]) q16_1)
theorem ok16 : compFn Tryz.prog ann16 Tryz.f16 = some fn16 := by kernel_rfl
def q17_0 : ACode :=
 (.seq (.region [
 ob 34 (.loadA 3 (.tmp 5)),
 ob 35 (.mv (.tmp 14)),
 ox (.store 3 (.tmp 10) (.tmp 34)),
 ob 11 (.mv (.cst (.int .i64 0))),
 ob 12 (.mv (.tmp 35))] false [10, 11, 12]) (.ret))
def q17_1 : ACode :=
 (.seq (.region [
 ob 47 (.loadA 3 (.tmp 5)),
 ob 48 (.mv (.tmp 14)),
 ox (.store 3 (.tmp 10) (.tmp 47)),
 ob 11 (.mv (.cst (.int .i64 0))),
 ob 12 (.mv (.tmp 48))] false [10, 11, 12]) (.ret))
def q17_2 : ACode :=
 (.seq (.region [
 ob 52 (.loadA 3 (.tmp 5)),
 ox (.store 3 (.tmp 10) (.tmp 52)),
 ob 11 (.mv (.cst (.int .i64 0))),
 ob 12 (.mv (.cst (.int .i64 60)))] false [10, 11, 12]) (.ret))
def q17_3 : ACode :=
 (.region [
 ob 67 (.mv (.tmp 15)),
 ob 68 (.faddr 4 (.tmp 16)),
 ob 69 (.load1 (.tmp 68)),
 ob 70 (.mv (.tmp 20)),
 ob 71 (.iaddr 3 (.tmp 69) (.tmp 70)),
 ob 72 (.faddr 1 (.tmp 71)),
 ob 73 (.load1 (.tmp 72)),
 ob 74 (.call 43 [(.tmp 67), (.tmp 73)]),
 ob 66 (.mv (.tmp 74)),
 ob 75 (.extract (.tmp 66) 0),
 ob 76 (.extract (.tmp 66) 1),
 ox (.store 6 (.tmp 19) (.tmp 75))] false [1, 2, 3, 4, 5, 10, 13, 15, 16, 17, 19, 21])
def q17_4 : ACode :=
 (.seq (.region [
 ob 81 (.loadA 3 (.tmp 5)),
 ox (.store 3 (.tmp 10) (.tmp 81)),
 ob 11 (.mv (.cst (.int .i64 0))),
 ob 12 (.mv (.cst (.int .i64 0)))] false [10, 11, 12]) (.ret))
def q17_5 : ACode :=
 (.seq (.region [
 ob 93 (.loadA 3 (.tmp 5)),
 ox (.store 3 (.tmp 10) (.tmp 93)),
 ob 11 (.mv (.cst (.int .i64 0))),
 ob 12 (.mv (.cst (.int .i64 75)))] false [10, 11, 12]) (.ret))
def q17_6 : ACode :=
 (.seq (.region [
 ob 100 (.loadA 3 (.tmp 5)),
 ob 101 (.mv (.tmp 23)),
 ox (.store 3 (.tmp 10) (.tmp 100)),
 ob 11 (.mv (.cst (.int .i64 0))),
 ob 12 (.mv (.tmp 101))] false [10, 11, 12]) (.ret))
def q17_7 : ACode :=
 (.seq (.region [
 ob 98 (.mv (.tmp 23)),
 ob 99 (.bin .neq (.tmp 98) (.cst (.int .i64 0)))] false [1, 2, 3, 4, 5, 10, 13, 15, 16, 17, 19, 21, 22, 23, 99]) (.cond (.tmp 99) q17_6 (.skip)))
def q17_8 : ACode :=
 (.seq (.region [
 ob 95 (.loadA 6 (.tmp 17)),
 ob 96 (.loadA 6 (.tmp 19)),
 ob 97 (.call 46 [(.tmp 95), (.tmp 96)]),
 ob 23 (.mv (.tmp 97))] false [1, 2, 3, 4, 5, 10, 13, 15, 16, 17, 19, 21, 22, 23]) q17_7)
def q17_9 : ACode :=
 (.seq (.region [
 ob 141 (.loadA 3 (.tmp 5)),
 ox (.store 3 (.tmp 10) (.tmp 141)),
 ob 11 (.mv (.cst (.int .i64 0))),
 ob 12 (.mv (.cst (.int .i64 76)))] false [10, 11, 12]) (.ret))
def q17_10 : ACode :=
 (.region [
 ob 151 (.mv (.tmp 15)),
 ob 152 (.loadA 6 (.tmp 19)),
 ob 153 (.call 49 [(.tmp 151), (.tmp 152)])] false [3, 4, 10, 13, 15, 17, 19])
def q17_11 : ACode :=
 (.seq (.region [
 ob 147 (.mv (.tmp 15)),
 ob 148 (.mv (.tmp 3)),
 ob 149 (.mv (.tmp 4)),
 ob 150 (.call 48 [(.tmp 147), (.tmp 148), (.tmp 149)])] false [3, 4, 10, 13, 15, 17, 19]) q17_10)
def q17_12 : ACode :=
 (.region [
 ob 159 (.mv (.tmp 15)),
 ob 160 (.loadA 6 (.tmp 17)),
 ob 161 (.call 50 [(.tmp 159), (.tmp 160)])] false [3, 4, 10, 13, 15, 19])
def q17_13 : ACode :=
 (.seq (.region [
 ob 157 (.mv (.tmp 3)),
 ob 158 (.faddr 5 (.tmp 17)),
 ox (.store 1 (.tmp 158) (.tmp 157))] false [3, 4, 10, 13, 15, 17, 19]) q17_12)
def q17_14 : ACode :=
 (.seq (.region [
 ob 167 (.mv (.tmp 15)),
 ob 168 (.chk (.tmp 167)),
 ob 169 (.faddr 0 (.tmp 168)),
 ob 170 (.loadA 3 (.tmp 169)),
 ob 171 (.faddr 0 (.tmp 19)),
 ob 172 (.load1 (.tmp 171)),
 ⟨none, .store 3 (.tmp 10) (.tmp 170), none, true, false, [171]⟩,
 ob 11 (.mv (.tmp 172)),
 ob 12 (.mv (.cst (.int .i64 0)))] true [10, 11, 12]) (.ret))
def q17_15 : ACode :=
 (.seq (.region [
 ob 162 (.mv (.tmp 15)),
 ob 163 (.mv (.tmp 3)),
 ob 164 (.mv (.tmp 4)),
 ob 165 (.mv (.tmp 13)),
 ob 166 (.call 51 [(.tmp 162), (.tmp 163), (.tmp 164), (.tmp 165)])] false [10, 15, 19]) q17_14)
def q17_16 : ACode :=
 (.seq (.seq (.region [
 ob 154 (.faddr 1 (.tmp 17)),
 ob 155 (.load1 (.tmp 154)),
 ob 156 (.bin .eql (.tmp 155) (.cst (.int .i64 2)))] false [3, 4, 10, 13, 15, 17, 19, 156]) (.cond (.tmp 156) q17_13 (.skip))) q17_15)
def q17_17 : ACode :=
 (.seq (.seq (.region [
 ob 146 (.mv (.tmp 21))] false [3, 4, 10, 13, 15, 17, 19, 146]) (.cond (.tmp 146) q17_11 (.skip))) q17_16)
def q17_18 : ACode :=
 (.seq (.region [
 ob 142 (.mv (.tmp 15)),
 ob 143 (.mv (.tmp 1)),
 ob 144 (.mv (.tmp 2)),
 ob 145 (.call 48 [(.tmp 142), (.tmp 143), (.tmp 144)])] false [3, 4, 10, 13, 15, 17, 19, 21]) q17_17)
def q17_19 : ACode :=
 (.seq (.seq (.region [
 ob 115 (.mv (.tmp 24)),
 ob 116 (.mv (.tmp 115)),
 og 117 116 false (.mv (.tmp 22)),
 og 118 116 false (.lenV (.tmp 117)),
 og 119 116 false (.bin .gtr (.tmp 118) (.cst (.int .i64 12))),
 ob 120 (.pick (.tmp 116) (.cst (.bool true)) (.tmp 119)),
 ob 121 (.mv (.tmp 120)),
 og 122 121 false (.faddr 1 (.tmp 17)),
 og 123 121 false (.load1 (.tmp 122)),
 og 124 121 false (.bin .eql (.tmp 123) (.cst (.int .i64 2))),
 og 125 121 false (.mv (.tmp 124)),
 og 126 125 true (.mv (.tmp 15)),
 og 127 125 true (.mv (.tmp 13)),
 og 128 125 true (.mv (.tmp 22)),
 og 129 125 true (.lenV (.tmp 128)),
 og 130 125 true (.call 47 [(.tmp 126), (.tmp 127), (.tmp 129)]),
 og 131 121 false (.pick (.tmp 125) (.tmp 130) (.cst (.bool false))),
 ob 132 (.pick (.tmp 121) (.cst (.bool true)) (.tmp 131)),
 ob 133 (.mv (.tmp 132)),
 og 134 133 false (.mv (.tmp 15)),
 og 135 133 false (.chk (.tmp 134)),
 og 136 133 false (.faddr 0 (.tmp 135)),
 og 137 133 false (.faddr 2 (.tmp 136)),
 og 138 133 false (.load1 (.tmp 137)),
 og 139 133 false (.bin .geq (.tmp 138) (.cst (.int .i64 1099511627776))),
 ob 140 (.pick (.tmp 133) (.cst (.bool true)) (.tmp 139))] false [1, 2, 3, 4, 5, 10, 13, 15, 17, 19, 21, 140]) (.cond (.tmp 140) q17_9 (.skip))) q17_18)
def q17_20 : ACode :=
 (.seq (.region [
 ob 102 (.mv (.tmp 21)),
 ob 103 (.not (.tmp 102)),
 ob 104 (.mv (.tmp 103)),
 og 105 104 true (.mv (.tmp 3)),
 og 106 104 true (.mv (.tmp 1)),
 og 107 104 true (.bin .neq (.tmp 105) (.tmp 106)),
 ob 108 (.pick (.tmp 104) (.tmp 107) (.cst (.bool false))),
 ob 109 (.mv (.tmp 108)),
 og 110 109 true (.faddr 4 (.tmp 16)),
 og 111 109 true (.load1 (.tmp 110)),
 og 112 109 true (.lenV (.tmp 111)),
 og 113 109 true (.bin .geq (.tmp 112) (.cst (.int .i64 64))),
 ob 114 (.pick (.tmp 109) (.tmp 113) (.cst (.bool false))),
 ob 24 (.mv (.tmp 114))] false [1, 2, 3, 4, 5, 10, 13, 15, 17, 19, 21, 22, 24]) q17_19)
def q17_21 : ACode :=
 (.seq (.seq (.region [
 ob 94 (.mv (.tmp 21))] false [1, 2, 3, 4, 5, 10, 13, 15, 16, 17, 19, 21, 22, 94]) (.cond (.tmp 94) q17_8 (.skip))) q17_20)
def q17_22 : ACode :=
 (.seq (.seq (.region [
 ob 85 (.faddr 1 (.tmp 17)),
 ob 86 (.load1 (.tmp 85)),
 ob 87 (.bin .eql (.tmp 86) (.cst (.int .i64 2))),
 ob 88 (.mv (.tmp 87)),
 og 89 88 true (.mv (.tmp 22)),
 og 90 88 true (.mv (.tmp 13)),
 og 91 88 true (.call 45 [(.tmp 89), (.tmp 90)]),
 ob 92 (.pick (.tmp 88) (.tmp 91) (.cst (.bool false)))] false [1, 2, 3, 4, 5, 10, 13, 15, 16, 17, 19, 21, 22, 92]) (.cond (.tmp 92) q17_5 (.skip))) q17_21)
def q17_23 : ACode :=
 (.seq (.region [
 ob 82 (.mv (.tmp 15)),
 ob 83 (.mv (.tmp 3)),
 ob 84 (.call 44 [(.tmp 82), (.tmp 83)]),
 ob 22 (.mv (.tmp 84))] false [1, 2, 3, 4, 5, 10, 13, 15, 16, 17, 19, 21, 22]) q17_22)
def q17_24 : ACode :=
 (.seq (.seq (.region [
 ob 77 (.faddr 0 (.tmp 19)),
 ob 78 (.load1 (.tmp 77)),
 ob 79 (.mv (.tmp 13)),
 ob 80 (.bin .eql (.tmp 78) (.tmp 79))] false [1, 2, 3, 4, 5, 10, 13, 15, 16, 17, 19, 21, 80]) (.cond (.tmp 80) q17_4 (.skip))) q17_23)
def q17_25 : ACode :=
 (.seq (.seq (.region [
 ob 65 (.mv (.tmp 21))] false [1, 2, 3, 4, 5, 10, 13, 15, 16, 17, 19, 20, 21, 65]) (.cond (.tmp 65) q17_3 (.skip))) q17_24)
def q17_26 : ACode :=
 (.seq (.region [
 ob 60 (.loadA 6 (.tmp 16)),
 ob 61 (.mv (.tmp 4)),
 ob 62 (.call 42 [(.tmp 60), (.tmp 61)]),
 ob 59 (.mv (.tmp 62)),
 ob 63 (.extract (.tmp 59) 0),
 ob 64 (.extract (.tmp 59) 1),
 ob 20 (.mv (.tmp 63)),
 ob 21 (.mv (.tmp 64))] false [1, 2, 3, 4, 5, 10, 13, 15, 16, 17, 19, 20, 21]) q17_25)
def q17_27 : ACode :=
 (.seq (.region [
 ob 19 (.box0 [(.int .i64 0), (.int .i64 0), (.int .i64 0), (.slice .c0 []), (.slice .c0 []), (.int .i64 0)])] false [1, 2, 3, 4, 5, 10, 13, 15, 16, 17, 19]) q17_26)
def q17_28 : ACode :=
 (.seq (.region [
 ob 54 (.mv (.tmp 15)),
 ob 55 (.mv (.tmp 13)),
 ob 56 (.call 43 [(.tmp 54), (.tmp 55)]),
 ob 53 (.mv (.tmp 56)),
 ob 57 (.extract (.tmp 53) 0),
 ob 58 (.extract (.tmp 53) 1),
 ob 17 (.box0 [(.int .i64 0), (.int .i64 0), (.int .i64 0), (.slice .c0 []), (.slice .c0 []), (.int .i64 0)]),
 ox (.store 6 (.tmp 17) (.tmp 57)),
 ob 18 (.mv (.tmp 58))] false [1, 2, 3, 4, 5, 10, 13, 15, 16, 17]) q17_27)
def q17_29 : ACode :=
 (.seq (.seq (.region [
 ob 49 (.mv (.tmp 4)),
 ob 50 (.call 41 [(.tmp 49)]),
 ob 51 (.not (.tmp 50))] false [1, 2, 3, 4, 5, 10, 13, 15, 16, 51]) (.cond (.tmp 51) q17_2 (.skip))) q17_28)
def q17_30 : ACode :=
 (.seq (.seq (.region [
 ob 45 (.mv (.tmp 14)),
 ob 46 (.bin .neq (.tmp 45) (.cst (.int .i64 0)))] false [1, 2, 3, 4, 5, 10, 13, 14, 15, 16, 46]) (.cond (.tmp 46) q17_1 (.skip))) q17_29)
def q17_31 : ACode :=
 (.seq (.region [
 ob 40 (.mv (.tmp 15)),
 ob 41 (.mv (.tmp 3)),
 ob 42 (.call 40 [(.tmp 40), (.tmp 41)]),
 ob 39 (.mv (.tmp 42)),
 ob 43 (.extract (.tmp 39) 0),
 ob 44 (.extract (.tmp 39) 1),
 ob 16 (.box0 [(.int .i64 0), (.int .i64 0), (.int .i64 0), (.slice .c0 []), (.slice .c0 []), (.int .i64 0)]),
 ox (.store 6 (.tmp 16) (.tmp 43)),
 ob 14 (.mv (.tmp 44))] false [1, 2, 3, 4, 5, 10, 13, 14, 15, 16]) q17_30)
def q17_32 : ACode :=
 (.seq (.region [
 ob 36 (.loadA 3 (.tmp 5)),
 ob 37 (.build [(.slice .c0 []), (.int .i64 0), (.int .i64 0)] [(0, 3, (.tmp 36))]),
 ob 38 (.box (.tmp 37)),
 ob 15 (.mv (.tmp 38))] false [1, 2, 3, 4, 5, 10, 13, 15]) q17_31)
def q17_33 : ACode :=
 (.seq (.seq (.region [
 ob 32 (.mv (.tmp 14)),
 ob 33 (.bin .neq (.tmp 32) (.cst (.int .i64 0)))] false [1, 2, 3, 4, 5, 10, 13, 14, 33]) (.cond (.tmp 33) q17_0 (.skip))) q17_32)
def q17_34 : ACode :=
 (.seq (.region [
 ob 26 (.loadA 3 (.tmp 5)),
 ob 27 (.mv (.tmp 1)),
 ob 28 (.mv (.tmp 2)),
 ob 29 (.call 15 [(.tmp 26), (.tmp 27), (.tmp 28)]),
 ob 25 (.mv (.tmp 29)),
 ob 30 (.extract (.tmp 25) 0),
 ob 31 (.extract (.tmp 25) 1),
 ob 13 (.mv (.tmp 30)),
 ob 14 (.mv (.tmp 31))] false [1, 2, 3, 4, 5, 10, 13, 14]) q17_33)
def E17 := And.intro (exK_head q17_0.eq_1) (And.intro (exK_head q17_1.eq_1) (And.intro (exK_head q17_2.eq_1) (And.intro (exK_head q17_3.eq_1) (And.intro (exK_head q17_4.eq_1) (And.intro (exK_head q17_5.eq_1) (And.intro (exK_head q17_6.eq_1) (And.intro (exK_head q17_7.eq_1) (And.intro (exK_head q17_8.eq_1) (And.intro (exK_head q17_9.eq_1) (And.intro (exK_head q17_10.eq_1) (And.intro (exK_head q17_11.eq_1) (And.intro (exK_head q17_12.eq_1) (And.intro (exK_head q17_13.eq_1) (And.intro (exK_head q17_14.eq_1) (And.intro (exK_head q17_15.eq_1) (And.intro (exK_head q17_16.eq_1) (And.intro (exK_head q17_17.eq_1) (And.intro (exK_head q17_18.eq_1) (And.intro (exK_head q17_19.eq_1) (And.intro (exK_head q17_20.eq_1) (And.intro (exK_head q17_21.eq_1) (And.intro (exK_head q17_22.eq_1) (And.intro (exK_head q17_23.eq_1) (And.intro (exK_head q17_24.eq_1) (And.intro (exK_head q17_25.eq_1) (And.intro (exK_head q17_26.eq_1) (And.intro (exK_head q17_27.eq_1) (And.intro (exK_head q17_28.eq_1) (And.intro (exK_head q17_29.eq_1) (And.intro (exK_head q17_30.eq_1) (And.intro (exK_head q17_31.eq_1) (And.intro (exK_head q17_32.eq_1) (And.intro (exK_head q17_33.eq_1) (exK_head q17_34.eq_1))))))))))))))))))))))))))))))))))
def ann17 : Ann := { n := 173, own := [], lv := [(0, [1, 2, 3, 4, 5, 10]), (1, [1, 2, 3, 4, 5, 10, 13, 14]), (2, [1, 2, 3, 4, 5, 10, 13, 14, 33]), (3, [10, 11, 12]), (4, [1, 2, 3, 4, 5, 10, 13, 15]), (5, [1, 2, 3, 4, 5, 10, 13, 14, 15, 16]), (6, [1, 2, 3, 4, 5, 10, 13, 14, 15, 16, 46]), (7, [10, 11, 12]), (8, [1, 2, 3, 4, 5, 10, 13, 15, 16, 51]), (9, [10, 11, 12]), (10, [1, 2, 3, 4, 5, 10, 13, 15, 16, 17]), (11, [1, 2, 3, 4, 5, 10, 13, 15, 16, 17, 19]), (12, [1, 2, 3, 4, 5, 10, 13, 15, 16, 17, 19, 20, 21]), (13, [1, 2, 3, 4, 5, 10, 13, 15, 16, 17, 19, 20, 21, 65]), (14, [1, 2, 3, 4, 5, 10, 13, 15, 16, 17, 19, 21]), (15, [1, 2, 3, 4, 5, 10, 13, 15, 16, 17, 19, 21, 80]), (16, [10, 11, 12]), (17, [1, 2, 3, 4, 5, 10, 13, 15, 16, 17, 19, 21, 22]), (18, [1, 2, 3, 4, 5, 10, 13, 15, 16, 17, 19, 21, 22, 92]), (19, [10, 11, 12]), (20, [1, 2, 3, 4, 5, 10, 13, 15, 16, 17, 19, 21, 22, 94]), (21, [1, 2, 3, 4, 5, 10, 13, 15, 16, 17, 19, 21, 22, 23]), (22, [1, 2, 3, 4, 5, 10, 13, 15, 16, 17, 19, 21, 22, 23, 99]), (23, [10, 11, 12]), (24, [1, 2, 3, 4, 5, 10, 13, 15, 17, 19, 21, 22, 24]), (25, [1, 2, 3, 4, 5, 10, 13, 15, 17, 19, 21, 140]), (26, [10, 11, 12]), (27, [3, 4, 10, 13, 15, 17, 19, 21]), (28, [3, 4, 10, 13, 15, 17, 19, 146]), (29, [3, 4, 10, 13, 15, 17, 19]), (30, [3, 4, 10, 13, 15, 17, 19]), (31, [3, 4, 10, 13, 15, 17, 19, 156]), (32, [3, 4, 10, 13, 15, 17, 19]), (33, [3, 4, 10, 13, 15, 19]), (34, [10, 15, 19]), (35, [10, 11, 12])], lp := [] }
def fn17 : AFn := AFn.mk 5 [.cellA 10 3, .tmp 11, .tmp 12]
  (.seq (.region [
  ob 5 (.box (.tmp 0)),
  ob 10 (.box0 [(.slice .c0 []), (.int .i64 0), (.int .i64 0)]),
  ob 11 (.mv (.cst (.int .i64 0))),
  ob 12 (.mv (.cst (.int .i64 0)))] false [1, 2, 3, 4, 5, 10]) q17_34)
theorem ok17 : compFn Tryz.prog ann17 Tryz.f17 = some fn17 := by kernel_rfl
def q18_0 : ACode :=
 (.seq (.region [
 ob 6 (.faddr 1 (.tmp 2)),
 ob 7 (.load1 (.tmp 6)),
 ob 8 (.faddr 1 (.tmp 3)),
 ob 9 (.load1 (.tmp 8)),
 ob 10 (.bin .eql (.tmp 7) (.tmp 9)),
 ob 11 (.mv (.tmp 10)),
 og 12 11 true (.faddr 2 (.tmp 2)),
 og 13 11 true (.load1 (.tmp 12)),
 og 14 11 true (.faddr 2 (.tmp 3)),
 og 15 11 true (.load1 (.tmp 14)),
 og 16 11 true (.bin .eql (.tmp 13) (.tmp 15)),
 ob 17 (.pick (.tmp 11) (.tmp 16) (.cst (.bool false))),
 ob 18 (.mv (.tmp 17)),
 og 19 18 true (.faddr 0 (.tmp 2)),
 og 20 18 true (.load1 (.tmp 19)),
 og 21 18 true (.faddr 0 (.tmp 3)),
 og 22 18 true (.load1 (.tmp 21)),
 og 23 18 true (.mv (.tmp 5)),
 og 24 18 true (.call 55 [(.tmp 20), (.tmp 22), (.tmp 23)]),
 ob 25 (.pick (.tmp 18) (.tmp 24) (.cst (.bool false))),
 ob 4 (.mv (.tmp 25))] false [4]) (.ret))
def q18_1 : ACode :=
 (.seq (.region [
 ob 5 (.mv (.cst (.func 52 [])))] false [2, 3, 5]) q18_0)
def E18 := And.intro (exK_head q18_0.eq_1) (exK_head q18_1.eq_1)
def ann18 : Ann := { n := 26, own := [], lv := [(0, [2, 3]), (1, [2, 3, 5]), (2, [4])], lp := [] }
def fn18 : AFn := AFn.mk 2 [.tmp 4]
  (.seq (.region [
  ob 2 (.box (.tmp 0)),
  ob 3 (.box (.tmp 1)),
  ob 4 (.mv (.cst (.bool false)))] false [2, 3]) q18_1)
theorem ok18 : compFn Tryz.prog ann18 Tryz.f18 = some fn18 := by kernel_rfl
def q19_0 : ACode :=
 (.seq (.region [
 ob 6 (.loadA 3 (.tmp 2)),
 ob 7 (.build [(.slice .c0 []), (.int .i64 0), (.int .i64 0)] [(0, 3, (.tmp 6))]),
 ob 8 (.box (.tmp 7)),
 ob 9 (.mv (.tmp 1)),
 ob 10 (.call 43 [(.tmp 8), (.tmp 9)]),
 ob 11 (.extract (.tmp 10) 0),
 ob 12 (.extract (.tmp 10) 1),
 ox (.store 6 (.tmp 4) (.tmp 11)),
 ob 5 (.mv (.tmp 12))] false [4, 5]) (.ret))
def E19 := exK_head q19_0.eq_1
def ann19 : Ann := { n := 13, own := [], lv := [(0, [1, 2, 4]), (1, [4, 5])], lp := [] }
def fn19 : AFn := AFn.mk 2 [.cellA 4 6, .tmp 5]
  (.seq (.region [
  ob 2 (.box (.tmp 0)),
  ob 4 (.box0 [(.int .i64 0), (.int .i64 0), (.int .i64 0), (.slice .c0 []), (.slice .c0 []), (.int .i64 0)]),
  ob 5 (.mv (.cst (.bool false)))] false [1, 2, 4]) q19_0)
theorem ok19 : compFn Tryz.prog ann19 Tryz.f19 = some fn19 := by kernel_rfl
def q22_0 : ACode :=
 (.seq (.region [
 ob 2 (.mv (.cst (.bool false)))] false [2]) (.ret))
def q22_1 : ACode :=
 (.seq (.region [
 ob 2 (.mv (.cst (.bool false)))] false [2]) (.ret))
def q22_2 : ACode :=
 (.region [
 ob 24 (.mv (.tmp 3)),
 ob 25 (.bin .add (.tmp 24) (.cst (.int .i64 1))),
 ob 3 (.mv (.tmp 25))] false [0, 3])
def q22_3 : ACode :=
 (.seq (.block 1 (.seq (.region [
 ob 26 (.mv (.tmp 0)),
 ob 27 (.mv (.tmp 3)),
 ob 28 (.indexS (.tmp 26) (.tmp 27)),
 ob 29 (.bin .lss (.tmp 28) (.cst (.int .u8 32))),
 ob 30 (.mv (.tmp 29)),
 og 31 30 false (.mv (.tmp 0)),
 og 32 30 false (.mv (.tmp 3)),
 og 33 30 false (.indexS (.tmp 31) (.tmp 32)),
 og 34 30 false (.bin .eql (.tmp 33) (.cst (.int .u8 47))),
 ob 35 (.pick (.tmp 30) (.cst (.bool true)) (.tmp 34))] false [0, 3, 35]) (.cond (.tmp 35) q22_1 (.skip)))) q22_2)
def lb22_0 : ACode :=
 (.seq (.seq (.region [
 ob 20 (.mv (.tmp 3)),
 ob 21 (.mv (.tmp 0)),
 ob 22 (.lenS (.tmp 21)),
 ob 23 (.bin .lss (.tmp 20) (.tmp 22))] false [0, 3, 23]) (.cond (.tmp 23) (.skip) (.exit 0))) q22_3)
def q22_4 : ACode :=
 (.seq (.region [
 ob 2 (.mv (.cst (.bool true)))] false [2]) (.ret))
def q22_5 : ACode :=
 (.seq (.seq (.region [
 ob 3 (.mv (.cst (.int .i64 0)))] false [0, 3]) (.block 0 (.loop [0, 3] lb22_0))) q22_4)
def q22_6 : ACode :=
 (.seq (.seq (.region [
 ob 4 (.mv (.tmp 0)),
 ob 5 (.lenS (.tmp 4)),
 ob 6 (.bin .lss (.tmp 5) (.cst (.int .i64 1))),
 ob 7 (.mv (.tmp 6)),
 og 8 7 false (.mv (.tmp 0)),
 og 9 7 false (.lenS (.tmp 8)),
 og 10 7 false (.bin .gtr (.tmp 9) (.cst (.int .i64 32))),
 ob 11 (.pick (.tmp 7) (.cst (.bool true)) (.tmp 10)),
 ob 12 (.mv (.tmp 11)),
 og 13 12 false (.mv (.tmp 0)),
 og 14 12 false (.bin .eql (.tmp 13) (.cst (.str [46]))),
 ob 15 (.pick (.tmp 12) (.cst (.bool true)) (.tmp 14)),
 ob 16 (.mv (.tmp 15)),
 og 17 16 false (.mv (.tmp 0)),
 og 18 16 false (.bin .eql (.tmp 17) (.cst (.str [46, 46]))),
 ob 19 (.pick (.tmp 16) (.cst (.bool true)) (.tmp 18))] false [0, 19]) (.cond (.tmp 19) q22_0 (.skip))) q22_5)
def E22 := And.intro (exK_head q22_0.eq_1) (And.intro (exK_head q22_1.eq_1) (And.intro (exK_head q22_2.eq_1) (And.intro (exK_head q22_3.eq_1) (And.intro (exK_head lb22_0.eq_1) (And.intro (exK_head q22_4.eq_1) (And.intro (exK_head q22_5.eq_1) (exK_head q22_6.eq_1)))))))
def ann22 : Ann := { n := 36, own := [], lv := [(0, [0]), (1, [0, 19]), (2, [2]), (3, [0, 3]), (4, [0, 3, 23]), (5, [0, 3]), (6, [0, 3, 35]), (7, [2]), (8, [2])], lp := [(4, [0, 3])] }
def fn22 : AFn := AFn.mk 1 [.tmp 2]
  (.seq (.region [
  ob 2 (.mv (.cst (.bool false)))] false [0]) q22_6)
theorem ok22 : compFn Tryz.prog ann22 Tryz.f22 = some fn22 := by kernel_rfl
def q23_0 : ACode :=
 (.seq (.region [
 ob 6 (.mv (.cst (.bool true)))] false [6]) (.ret))
def q23_1 : ACode :=
 (.seq (.region [
 ob 6 (.mv (.cst (.bool false)))] false [6]) (.ret))
def q23_2 : ACode :=
 (.region [
 ob 32 (.faddr 5 (.tmp 8)),
 ob 33 (.load1 (.tmp 32)),
 ob 1 (.mv (.tmp 33))] false [1, 2, 3, 7])
def q23_3 : ACode :=
 (.seq (.seq (.region [
 ob 26 (.mv (.tmp 9)),
 ob 27 (.not (.tmp 26)),
 ob 28 (.mv (.tmp 27)),
 og 29 28 false (.mv (.tmp 1)),
 og 30 28 false (.bin .eql (.tmp 29) (.cst (.int .i64 1))),
 ob 31 (.pick (.tmp 28) (.cst (.bool true)) (.tmp 30))] false [2, 3, 7, 8, 31]) (.cond (.tmp 31) q23_1 (.skip))) q23_2)
def q23_4 : ACode :=
 (.seq (.region [
 ob 21 (.loadA 3 (.tmp 3)),
 ob 22 (.mv (.tmp 1)),
 ob 23 (.call 56 [(.tmp 21), (.tmp 22)]),
 ob 20 (.mv (.tmp 23)),
 ob 24 (.extract (.tmp 20) 0),
 ob 25 (.extract (.tmp 20) 1),
 ob 8 (.box0 [(.int .i64 0), (.int .i64 0), (.int .i64 0), (.slice .c0 []), (.slice .c0 []), (.int .i64 0)]),
 ox (.store 6 (.tmp 8) (.tmp 24)),
 ob 9 (.mv (.tmp 25))] false [1, 2, 3, 7, 8, 9]) q23_3)
def q23_5 : ACode :=
 (.region [
 ob 15 (.mv (.tmp 7)),
 ob 16 (.bin .add (.tmp 15) (.cst (.int .i64 1))),
 ob 7 (.mv (.tmp 16))] false [1, 2, 3, 7])
def q23_6 : ACode :=
 (.seq (.block 1 (.seq (.seq (.region [
 ob 17 (.mv (.tmp 1)),
 ob 18 (.mv (.tmp 2)),
 ob 19 (.bin .eql (.tmp 17) (.tmp 18))] false [1, 2, 3, 7, 19]) (.cond (.tmp 19) q23_0 (.skip))) q23_4)) q23_5)
def lb23_0 : ACode :=
 (.seq (.seq (.region [
 ob 10 (.mv (.tmp 7)),
 ob 11 (.faddr 0 (.tmp 3)),
 ob 12 (.load1 (.tmp 11)),
 ob 13 (.lenV (.tmp 12)),
 ob 14 (.bin .leq (.tmp 10) (.tmp 13))] false [1, 2, 3, 7, 14]) (.cond (.tmp 14) (.skip) (.exit 0))) q23_6)
def q23_7 : ACode :=
 (.seq (.region [
 ob 6 (.mv (.cst (.bool false)))] false [6]) (.ret))
def q23_8 : ACode :=
 (.seq (.seq (.region [
 ob 7 (.mv (.cst (.int .i64 0)))] false [1, 2, 3, 7]) (.block 0 (.loop [1, 2, 3, 7] lb23_0))) q23_7)
def E23 := And.intro (exK_head q23_0.eq_1) (And.intro (exK_head q23_1.eq_1) (And.intro (exK_head q23_2.eq_1) (And.intro (exK_head q23_3.eq_1) (And.intro (exK_head q23_4.eq_1) (And.intro (exK_head q23_5.eq_1) (And.intro (exK_head q23_6.eq_1) (And.intro (exK_head lb23_0.eq_1) (And.intro (exK_head q23_7.eq_1) (exK_head q23_8.eq_1)))))))))
def ann23 : Ann := { n := 34, own := [], lv := [(0, [1, 2, 3]), (1, [1, 2, 3, 7]), (2, [1, 2, 3, 7, 14]), (3, [1, 2, 3, 7]), (4, [1, 2, 3, 7, 19]), (5, [6]), (6, [1, 2, 3, 7, 8, 9]), (7, [2, 3, 7, 8, 31]), (8, [6]), (9, [1, 2, 3, 7]), (10, [6])], lp := [(2, [1, 2, 3, 7])] }
def fn23 : AFn := AFn.mk 3 [.tmp 6]
  (.seq (.region [
  ob 3 (.box (.tmp 0)),
  ob 6 (.mv (.cst (.bool false)))] false [1, 2, 3]) q23_8)
theorem ok23 : compFn Tryz.prog ann23 Tryz.f23 = some fn23 := by kernel_rfl
def q24_0 : ACode :=
 (.seq (.region [
 ob 8 (.mv (.cst (.slice .c0 []))),
 ob 9 (.mv (.cst (.int .i64 0))),
 ob 10 (.mv (.cst (.int .i64 1)))] false [8, 9, 10]) (.ret))
def q24_1 : ACode :=
 (.seq (.region [
 ob 34 (.mv (.tmp 12)),
 ob 8 (.mv (.cst (.slice .c0 []))),
 ob 9 (.mv (.cst (.int .i64 0))),
 ob 10 (.mv (.tmp 34))] false [8, 9, 10]) (.ret))
def q24_2 : ACode :=
 (.seq (.region [
 ob 46 (.mv (.tmp 13)),
 ob 8 (.mv (.tmp 46)),
 ob 9 (.mv (.cst (.int .i64 0))),
 ob 10 (.mv (.cst (.int .i64 0)))] false [8, 9, 10]) (.ret))
def q24_3 : ACode :=
 (.seq (.region [
 ob 47 (.mv (.tmp 13)),
 ob 48 (.mv (.tmp 3)),
 ob 49 (.mv (.tmp 3)),
 ob 50 (.sliceV 3 (.tmp 47) none (some (.tmp 48)) (some (.tmp 49))),
 ob 51 (.mv (.tmp 13)),
 ob 52 (.mv (.tmp 3)),
 ob 53 (.bin .sub (.tmp 52) (.cst (.int .i64 1))),
 ob 54 (.iaddr 3 (.tmp 51) (.tmp 53)),
 ob 55 (.faddr 2 (.tmp 54)),
 ob 56 (.load1 (.tmp 55)),
 ob 57 (.bin .add (.tmp 56) (.cst (.int .i64 1))),
 ob 8 (.mv (.tmp 50)),
 ob 9 (.mv (.tmp 57)),
 ob 10 (.mv (.cst (.int .i64 0)))] true [8, 9, 10]) (.ret))
def q24_4 : ACode :=
 (.seq (.seq (.region [
 ob 42 (.mv (.tmp 13)),
 ob 43 (.lenV (.tmp 42)),
 ob 44 (.mv (.tmp 3)),
 ob 45 (.bin .leq (.tmp 43) (.tmp 44))] false [3, 13, 45]) (.cond (.tmp 45) q24_2 (.skip))) q24_3)
def q24_5 : ACode :=
 (.seq (.region [
 ob 40 (.mv (.tmp 13)),
 ob 41 (.call 60 [(.tmp 40), (.cst (.func 61 []))])] false [3, 13]) q24_4)
def q24_6 : ACode :=
 (.seq (.region [
 ob 35 (.faddr 4 (.tmp 11)),
 ob 36 (.load1 (.tmp 35)),
 ob 37 (.callD 58 [(.tmp 36)]),
 ob 38 (.fn 59 [(.tmp 6)]),
 ob 39 (.call 57 [(.tmp 37), (.tmp 38)]),
 ob 13 (.mv (.tmp 39))] false [3, 13]) q24_5)
def q24_7 : ACode :=
 (.seq (.seq (.region [
 ob 32 (.mv (.tmp 12)),
 ob 33 (.bin .neq (.tmp 32) (.cst (.int .i64 0)))] false [3, 6, 11, 12, 33]) (.cond (.tmp 33) q24_1 (.skip))) q24_6)
def q24_8 : ACode :=
 (.seq (.region [
 ob 25 (.loadA 3 (.tmp 4)),
 ob 26 (.build [(.slice .c0 []), (.int .i64 0), (.int .i64 0)] [(0, 3, (.tmp 25))]),
 ob 27 (.box (.tmp 26)),
 ob 28 (.mv (.tmp 1)),
 ob 29 (.call 40 [(.tmp 27), (.tmp 28)]),
 ob 24 (.mv (.tmp 29)),
 ob 30 (.extract (.tmp 24) 0),
 ob 31 (.extract (.tmp 24) 1),
 ob 11 (.box0 [(.int .i64 0), (.int .i64 0), (.int .i64 0), (.slice .c0 []), (.slice .c0 []), (.int .i64 0)]),
 ox (.store 6 (.tmp 11) (.tmp 30)),
 ob 12 (.mv (.tmp 31))] false [3, 6, 11, 12]) q24_7)
def q24_9 : ACode :=
 (.seq (.seq (.region [
 ob 14 (.load1 (.tmp 6)),
 ob 15 (.bin .lss (.tmp 14) (.cst (.int .i64 0))),
 ob 16 (.mv (.tmp 15)),
 og 17 16 false (.mv (.tmp 3)),
 og 18 16 false (.bin .lss (.tmp 17) (.cst (.int .i64 1))),
 ob 19 (.pick (.tmp 16) (.cst (.bool true)) (.tmp 18)),
 ob 20 (.mv (.tmp 19)),
 og 21 20 false (.mv (.tmp 3)),
 og 22 20 false (.bin .gtr (.tmp 21) (.cst (.int .i64 64))),
 ob 23 (.pick (.tmp 20) (.cst (.bool true)) (.tmp 22))] false [1, 3, 4, 6, 23]) (.cond (.tmp 23) q24_0 (.skip))) q24_8)
def E24 := And.intro (exK_head q24_0.eq_1) (And.intro (exK_head q24_1.eq_1) (And.intro (exK_head q24_2.eq_1) (And.intro (exK_head q24_3.eq_1) (And.intro (exK_head q24_4.eq_1) (And.intro (exK_head q24_5.eq_1) (And.intro (exK_head q24_6.eq_1) (And.intro (exK_head q24_7.eq_1) (And.intro (exK_head q24_8.eq_1) (exK_head q24_9.eq_1)))))))))
def ann24 : Ann := { n := 58, own := [1000058], lv := [(0, [1, 3, 4, 6]), (1, [1, 3, 4, 6, 23]), (2, [8, 9, 10]), (3, [3, 6, 11, 12]), (4, [3, 6, 11, 12, 33]), (5, [8, 9, 10]), (6, [3, 13]), (7, [3, 13]), (8, [3, 13, 45]), (9, [8, 9, 10]), (10, [8, 9, 10])], lp := [] }
def fn24 : AFn := AFn.mk 4 [.tmp 8, .tmp 9, .tmp 10]
  (.seq (.region [
  ob 4 (.box (.tmp 0)),
  ob 6 (.box (.tmp 2)),
  ob 8 (.mv (.cst (.slice .c0 []))),
  ob 9 (.mv (.cst (.int .i64 0))),
  ob 10 (.mv (.cst (.int .i64 0)))] false [1, 3, 4, 6]) q24_9)
theorem ok24 : compFn Tryz.prog ann24 Tryz.f24 = some fn24 := by kernel_rfl
def q25_0 : ACode :=
 (.region [
 ob 45 (.bin .eql (.tmp 42) (.cst (.int .u8 1))),
 ob 43 (.mv (.tmp 45))] false [2, 3, 4, 7, 8, 9, 10, 42, 43])
def q25_1 : ACode :=
 (.seq (.region [
 ob 59 (.loadA 3 (.tmp 11)),
 ob 60 (.mv (.tmp 12)),
 ob 61 (.mv (.tmp 13)),
 ox (.store 3 (.tmp 4) (.tmp 59)),
 ob 5 (.mv (.tmp 60)),
 ob 6 (.mv (.tmp 61))] false [4, 5, 6]) (.ret))
def q25_2 : ACode :=
 (.seq (.region [
 ob 47 (.loadA 3 (.tmp 2)),
 ob 48 (.mv (.tmp 7)),
 ob 49 (.mv (.tmp 9)),
 ob 50 (.faddr 4 (.tmp 3)),
 ob 51 (.load1 (.tmp 50)),
 ob 52 (.conv .i64 (.tmp 51)),
 ob 53 (.bin .rem (.tmp 52) (.cst (.int .i64 2))),
 ob 54 (.bin .add (.tmp 53) (.cst (.int .i64 1))),
 ob 55 (.call 63 [(.tmp 47), (.tmp 48), (.tmp 49), (.tmp 54)]),
 ob 46 (.mv (.tmp 55)),
 ob 56 (.extract (.tmp 46) 0),
 ob 57 (.extract (.tmp 46) 1),
 ob 58 (.extract (.tmp 46) 2),
 ob 11 (.box0 [(.slice .c0 []), (.int .i64 0), (.int .i64 0)]),
 ox (.store 3 (.tmp 11) (.tmp 56)),
 ob 12 (.mv (.tmp 57)),
 ob 13 (.mv (.tmp 58))] false [4, 11, 12, 13]) q25_1)
def q25_3 : ACode :=
 (.seq (.region [
 ob 72 (.loadA 3 (.tmp 14)),
 ob 73 (.mv (.tmp 15)),
 ox (.store 3 (.tmp 4) (.tmp 72)),
 ob 5 (.mv (.cst (.int .i64 0))),
 ob 6 (.mv (.tmp 73))] false [4, 5, 6]) (.ret))
def q25_4 : ACode :=
 (.seq (.region [
 ob 65 (.loadA 3 (.tmp 2)),
 ob 66 (.mv (.tmp 8)),
 ob 67 (.mv (.tmp 7)),
 ob 68 (.mv (.tmp 9)),
 ob 69 (.call 64 [(.tmp 65), (.tmp 66), (.tmp 67), (.tmp 68)]),
 ob 64 (.mv (.tmp 69)),
 ob 70 (.extract (.tmp 64) 0),
 ob 71 (.extract (.tmp 64) 1),
 ob 14 (.box0 [(.slice .c0 []), (.int .i64 0), (.int .i64 0)]),
 ox (.store 3 (.tmp 14) (.tmp 70)),
 ob 15 (.mv (.tmp 71))] false [4, 14, 15]) q25_3)
def q25_5 : ACode :=
 (.seq (.region [
 ob 84 (.loadA 3 (.tmp 16)),
 ob 85 (.mv (.tmp 17)),
 ob 86 (.mv (.tmp 18)),
 ox (.store 3 (.tmp 4) (.tmp 84)),
 ob 5 (.mv (.tmp 85)),
 ob 6 (.mv (.tmp 86))] false [4, 5, 6]) (.ret))
def q25_6 : ACode :=
 (.seq (.region [
 ob 77 (.loadA 3 (.tmp 2)),
 ob 78 (.mv (.tmp 7)),
 ob 79 (.mv (.tmp 9)),
 ob 80 (.call 65 [(.tmp 77), (.tmp 78), (.tmp 79)]),
 ob 76 (.mv (.tmp 80)),
 ob 81 (.extract (.tmp 76) 0),
 ob 82 (.extract (.tmp 76) 1),
 ob 83 (.extract (.tmp 76) 2),
 ob 16 (.box0 [(.slice .c0 []), (.int .i64 0), (.int .i64 0)]),
 ox (.store 3 (.tmp 16) (.tmp 81)),
 ob 17 (.mv (.tmp 82)),
 ob 18 (.mv (.tmp 83))] false [4, 16, 17, 18]) q25_5)
def q25_7 : ACode :=
 (.region [
 ob 89 (.bin .eql (.tmp 42) (.cst (.int .u8 5))),
 ob 87 (.mv (.tmp 89))] false [2, 3, 4, 7, 8, 9, 10, 42, 87])
def q25_8 : ACode :=
 (.seq (.region [
 ob 100 (.loadA 3 (.tmp 19)),
 ob 101 (.mv (.tmp 20)),
 ob 102 (.mv (.tmp 21)),
 ox (.store 3 (.tmp 4) (.tmp 100)),
 ob 5 (.mv (.tmp 101)),
 ob 6 (.mv (.tmp 102))] false [4, 5, 6]) (.ret))
def q25_9 : ACode :=
 (.seq (.region [
 ob 91 (.loadA 3 (.tmp 2)),
 ob 92 (.mv (.tmp 7)),
 ob 93 (.mv (.tmp 9)),
 ob 94 (.mv (.tmp 8)),
 ob 95 (.mv (.tmp 10)),
 ob 96 (.call 66 [(.tmp 91), (.tmp 92), (.tmp 93), (.tmp 94), (.tmp 95)]),
 ob 90 (.mv (.tmp 96)),
 ob 97 (.extract (.tmp 90) 0),
 ob 98 (.extract (.tmp 90) 1),
 ob 99 (.extract (.tmp 90) 2),
 ob 19 (.box0 [(.slice .c0 []), (.int .i64 0), (.int .i64 0)]),
 ox (.store 3 (.tmp 19) (.tmp 97)),
 ob 20 (.mv (.tmp 98)),
 ob 21 (.mv (.tmp 99))] false [4, 19, 20, 21]) q25_8)
def q25_10 : ACode :=
 (.seq (.region [
 ob 113 (.loadA 3 (.tmp 22)),
 ob 114 (.mv (.tmp 23)),
 ox (.store 3 (.tmp 4) (.tmp 113)),
 ob 5 (.mv (.cst (.int .i64 0))),
 ob 6 (.mv (.tmp 114))] false [4, 5, 6]) (.ret))
def q25_11 : ACode :=
 (.seq (.region [
 ob 106 (.loadA 3 (.tmp 2)),
 ob 107 (.mv (.tmp 7)),
 ob 108 (.faddr 5 (.tmp 3)),
 ob 109 (.load1 (.tmp 108)),
 ob 110 (.call 67 [(.tmp 106), (.tmp 107), (.tmp 109)]),
 ob 105 (.mv (.tmp 110)),
 ob 111 (.extract (.tmp 105) 0),
 ob 112 (.extract (.tmp 105) 1),
 ob 22 (.box0 [(.slice .c0 []), (.int .i64 0), (.int .i64 0)]),
 ox (.store 3 (.tmp 22) (.tmp 111)),
 ob 23 (.mv (.tmp 112))] false [4, 22, 23]) q25_10)
def q25_12 : ACode :=
 (.seq (.region [
 ob 104 (.bin .eql (.tmp 42) (.cst (.int .u8 6))),
 ob 103 (.mv (.tmp 104))] false [2, 3, 4, 7, 103]) (.cond (.tmp 103) q25_11 (.skip)))
def q25_13 : ACode :=
 (.seq (.seq (.region [
 ob 88 (.bin .eql (.tmp 42) (.cst (.int .u8 4))),
 ob 87 (.mv (.tmp 88))] false [2, 3, 4, 7, 8, 9, 10, 42, 87]) (.cond (.tmp 87) (.skip) q25_7)) (.cond (.tmp 87) q25_9 q25_12))
def q25_14 : ACode :=
 (.seq (.region [
 ob 75 (.bin .eql (.tmp 42) (.cst (.int .u8 3))),
 ob 74 (.mv (.tmp 75))] false [2, 3, 4, 7, 8, 9, 10, 42, 74]) (.cond (.tmp 74) q25_6 q25_13))
def q25_15 : ACode :=
 (.seq (.region [
 ob 63 (.bin .eql (.tmp 42) (.cst (.int .u8 2))),
 ob 62 (.mv (.tmp 63))] false [2, 3, 4, 7, 8, 9, 10, 42, 62]) (.cond (.tmp 62) q25_4 q25_14))
def q25_16 : ACode :=
 (.block 0 (.seq (.seq (.region [
 ob 44 (.bin .eql (.tmp 42) (.cst (.int .u8 0))),
 ob 43 (.mv (.tmp 44))] false [2, 3, 4, 7, 8, 9, 10, 42, 43]) (.cond (.tmp 43) (.skip) q25_0)) (.cond (.tmp 43) q25_2 q25_15)))
def q25_17 : ACode :=
 (.seq (.region [
 ob 121 (.loadA 3 (.tmp 24)),
 ob 122 (.mv (.tmp 25)),
 ox (.store 3 (.tmp 4) (.tmp 121)),
 ob 5 (.mv (.cst (.int .i64 0))),
 ob 6 (.mv (.tmp 122))] false [4, 5, 6]) (.ret))
def q25_18 : ACode :=
 (.seq (.region [
 ob 116 (.loadA 3 (.tmp 2)),
 ob 117 (.mv (.tmp 7)),
 ob 118 (.call 68 [(.tmp 116), (.tmp 117)]),
 ob 115 (.mv (.tmp 118)),
 ob 119 (.extract (.tmp 115) 0),
 ob 120 (.extract (.tmp 115) 1),
 ob 24 (.box0 [(.slice .c0 []), (.int .i64 0), (.int .i64 0)]),
 ox (.store 3 (.tmp 24) (.tmp 119)),
 ob 25 (.mv (.tmp 120))] false [4, 24, 25]) q25_17)
def q25_19 : ACode :=
 (.seq (.seq (.region [
 ob 40 (.faddr 0 (.tmp 3)),
 ob 41 (.load1 (.tmp 40)),
 ob 42 (.bin .rem (.tmp 41) (.cst (.int .u8 8)))] false [2, 3, 4, 7, 8, 9, 10, 42]) q25_16) q25_18)
def q25_20 : ACode :=
 (.seq (.region [
 ob 37 (.faddr 4 (.tmp 3)),
 ob 38 (.load1 (.tmp 37)),
 ob 39 (.call 16 [(.tmp 38)]),
 ob 10 (.mv (.tmp 39))] false [2, 3, 4, 7, 8, 9, 10]) q25_19)
def q25_21 : ACode :=
 (.seq (.region [
 ob 34 (.faddr 3 (.tmp 3)),
 ob 35 (.load1 (.tmp 34)),
 ob 36 (.call 16 [(.tmp 35)]),
 ob 9 (.mv (.tmp 36))] false [2, 3, 4, 7, 8, 9]) q25_20)
def q25_22 : ACode :=
 (.seq (.region [
 ob 30 (.loadA 3 (.tmp 2)),
 ob 31 (.faddr 2 (.tmp 3)),
 ob 32 (.load1 (.tmp 31)),
 ob 33 (.call 14 [(.tmp 30), (.tmp 32)]),
 ob 8 (.mv (.tmp 33))] false [2, 3, 4, 7, 8]) q25_21)
def q25_23 : ACode :=
 (.seq (.region [
 ob 26 (.loadA 3 (.tmp 2)),
 ob 27 (.faddr 1 (.tmp 3)),
 ob 28 (.load1 (.tmp 27)),
 ob 29 (.call 14 [(.tmp 26), (.tmp 28)]),
 ob 7 (.mv (.tmp 29))] false [2, 3, 4, 7]) q25_22)
def E25 := And.intro (exK_head q25_0.eq_1) (And.intro (exK_head q25_1.eq_1) (And.intro (exK_head q25_2.eq_1) (And.intro (exK_head q25_3.eq_1) (And.intro (exK_head q25_4.eq_1) (And.intro (exK_head q25_5.eq_1) (And.intro (exK_head q25_6.eq_1) (And.intro (exK_head q25_7.eq_1) (And.intro (exK_head q25_8.eq_1) (And.intro (exK_head q25_9.eq_1) (And.intro (exK_head q25_10.eq_1) (And.intro (exK_head q25_11.eq_1) (And.intro (exK_head q25_12.eq_1) (And.intro (exK_head q25_13.eq_1) (And.intro (exK_head q25_14.eq_1) (And.intro (exK_head q25_15.eq_1) (And.intro (exK_head q25_16.eq_1) (And.intro (exK_head q25_17.eq_1) (And.intro (exK_head q25_18.eq_1) (And.intro (exK_head q25_19.eq_1) (And.intro (exK_head q25_20.eq_1) (And.intro (exK_head q25_21.eq_1) (And.intro (exK_head q25_22.eq_1) (exK_head q25_23.eq_1)))))))))))))))))))))))
def ann25 : Ann := { n := 123, own := [], lv := [(0, [2, 3, 4]), (1, [2, 3, 4, 7]), (2, [2, 3, 4, 7, 8]), (3, [2, 3, 4, 7, 8, 9]), (4, [2, 3, 4, 7, 8, 9, 10]), (5, [2, 3, 4, 7, 8, 9, 10, 42]), (6, [2, 3, 4, 7, 8, 9, 10, 42, 43]), (7, [2, 3, 4, 7, 8, 9, 10, 42, 43]), (8, [4, 11, 12, 13]), (9, [4, 5, 6]), (10, [2, 3, 4, 7, 8, 9, 10, 42, 62]), (11, [4, 14, 15]), (12, [4, 5, 6]), (13, [2, 3, 4, 7, 8, 9, 10, 42, 74]), (14, [4, 16, 17, 18]), (15, [4, 5, 6]), (16, [2, 3, 4, 7, 8, 9, 10, 42, 87]), (17, [2, 3, 4, 7, 8, 9, 10, 42, 87]), (18, [4, 19, 20, 21]), (19, [4, 5, 6]), (20, [2, 3, 4, 7, 103]), (21, [4, 22, 23]), (22, [4, 5, 6]), (23, [4, 24, 25]), (24, [4, 5, 6])], lp := [] }
def fn25 : AFn := AFn.mk 2 [.cellA 4 3, .tmp 5, .tmp 6]
  (.seq (.region [
  ob 2 (.box (.tmp 0)),
  ob 3 (.box (.tmp 1)),
  ob 4 (.box0 [(.slice .c0 []), (.int .i64 0), (.int .i64 0)]),
  ob 5 (.mv (.cst (.int .i64 0))),
  ob 6 (.mv (.cst (.int .i64 0)))] false [2, 3, 4]) q25_23)
theorem ok25 : compFn Tryz.prog ann25 Tryz.f25 = some fn25 := by kernel_rfl
def q27_0 : ACode :=
 (.seq (.region [
 ob 18 (.mv (.tmp 7)),
 ob 4 (.mv (.cst (.int .i64 0))),
 ob 5 (.mv (.tmp 18))] false [4, 5]) (.ret))
def q27_1 : ACode :=
 (.seq (.region [
 ob 34 (.mv (.tmp 7)),
 ob 4 (.mv (.cst (.int .i64 0))),
 ob 5 (.mv (.tmp 34))] false [4, 5]) (.ret))
def q27_2 : ACode :=
 (.seq (.region [
 ob 32 (.mv (.tmp 7)),
 ob 33 (.bin .neq (.tmp 32) (.cst (.int .i64 0)))] false [2, 7, 8, 19, 20, 21, 33]) (.cond (.tmp 33) q27_1 (.skip)))
def q27_3 : ACode :=
 (.seq (.region [
 ob 26 (.loadA 3 (.tmp 2)),
 ob 27 (.mv (.tmp 8)),
 ob 28 (.mv (.tmp 10)),
 ob 29 (.call 15 [(.tmp 26), (.tmp 27), (.tmp 28)]),
 ob 25 (.mv (.tmp 29)),
 ob 30 (.extract (.tmp 25) 0),
 ob 31 (.extract (.tmp 25) 1),
 ob 8 (.mv (.tmp 30)),
 ob 7 (.mv (.tmp 31))] false [2, 7, 8, 19, 20, 21]) q27_2)
def q27_4 : ACode :=
 (.region [
 ob 35 (.bin .add (.tmp 21) (.cst (.int .i64 1))),
 ob 21 (.mv (.tmp 35))] false [2, 8, 19, 20, 21])
def q27_5 : ACode :=
 (.seq (.block 1 (.seq (.region [
 ob 23 (.iaddr 1 (.tmp 19) (.tmp 21)),
 ob 24 (.load1 (.tmp 23)),
 ob 10 (.mv (.tmp 24))] false [2, 8, 10, 19, 20, 21]) q27_3)) q27_4)
def q27_6 : ACode :=
 (.seq (.cond (.tmp 22) (.skip) (.exit 0)) q27_5)
def lb27_0 : ACode :=
 (.seq (.region [
 ob 22 (.bin .lss (.tmp 21) (.tmp 20))] false [2, 8, 19, 20, 21, 22]) q27_6)
def q27_7 : ACode :=
 (.block 0 (.loop [2, 8, 19, 20, 21] lb27_0))
def q27_8 : ACode :=
 (.seq (.region [
 ob 36 (.mv (.tmp 8)),
 ob 4 (.mv (.tmp 36)),
 ob 5 (.mv (.cst (.int .i64 0)))] false [4, 5]) (.ret))
def q27_9 : ACode :=
 (.seq (.seq (.region [
 ob 19 (.mv (.tmp 6)),
 ob 20 (.lenV (.tmp 19)),
 ob 21 (.mv (.cst (.int .i64 0)))] false [2, 8, 19, 20, 21]) q27_7) q27_8)
def q27_10 : ACode :=
 (.seq (.region [
 ob 8 (.mv (.cst (.int .i64 1)))] false [2, 6, 8]) q27_9)
def q27_11 : ACode :=
 (.seq (.seq (.region [
 ob 16 (.mv (.tmp 7)),
 ob 17 (.bin .neq (.tmp 16) (.cst (.int .i64 0)))] false [2, 6, 7, 17]) (.cond (.tmp 17) q27_0 (.skip))) q27_10)
def q27_12 : ACode :=
 (.seq (.region [
 ob 12 (.mv (.tmp 1)),
 ob 13 (.call 69 [(.tmp 12)]),
 ob 11 (.mv (.tmp 13)),
 ob 14 (.extract (.tmp 11) 0),
 ob 15 (.extract (.tmp 11) 1),
 ob 6 (.mv (.tmp 14)),
 ob 7 (.mv (.tmp 15))] false [2, 6, 7]) q27_11)
def E27 := And.intro (exK_head q27_0.eq_1) (And.intro (exK_head q27_1.eq_1) (And.intro (exK_head q27_2.eq_1) (And.intro (exK_head q27_3.eq_1) (And.intro (exK_head q27_4.eq_1) (And.intro (exK_head q27_5.eq_1) (And.intro (exK_head q27_6.eq_1) (And.intro (exK_head lb27_0.eq_1) (And.intro (exK_head q27_7.eq_1) (And.intro (exK_head q27_8.eq_1) (And.intro (exK_head q27_9.eq_1) (And.intro (exK_head q27_10.eq_1) (And.intro (exK_head q27_11.eq_1) (exK_head q27_12.eq_1)))))))))))))
def ann27 : Ann := { n := 37, own := [], lv := [(0, [1, 2]), (1, [2, 6, 7]), (2, [2, 6, 7, 17]), (3, [4, 5]), (4, [2, 6, 8]), (5, [2, 8, 19, 20, 21]), (6, [2, 8, 19, 20, 21, 22]), (7, [2, 8, 10, 19, 20, 21]), (8, [2, 7, 8, 19, 20, 21]), (9, [2, 7, 8, 19, 20, 21, 33]), (10, [4, 5]), (11, [2, 8, 19, 20, 21]), (12, [4, 5])], lp := [(6, [2, 8, 19, 20, 21])] }
def fn27 : AFn := AFn.mk 2 [.tmp 4, .tmp 5]
  (.seq (.region [
  ob 2 (.box (.tmp 0)),
  ob 4 (.mv (.cst (.int .i64 0))),
  ob 5 (.mv (.cst (.int .i64 0)))] false [1, 2]) q27_12)
theorem ok27 : compFn Tryz.prog ann27 Tryz.f27 = some fn27 := by kernel_rfl
def q28_0 : ACode :=
 (.seq (.region [
 ob 20 (.loadA 3 (.tmp 4)),
 ox (.store 3 (.tmp 8) (.tmp 20)),
 ob 9 (.mv (.cst (.int .i64 0))),
 ob 10 (.mv (.cst (.int .i64 1)))] false [8, 9, 10]) (.ret))
def q28_1 : ACode :=
 (.seq (.region [
 ob 30 (.loadA 3 (.tmp 4)),
 ob 31 (.mv (.tmp 12)),
 ox (.store 3 (.tmp 8) (.tmp 30)),
 ob 9 (.mv (.cst (.int .i64 0))),
 ob 10 (.mv (.tmp 31))] false [8, 9, 10]) (.ret))
def q28_2 : ACode :=
 (.seq (.region [
 ob 28 (.mv (.tmp 12)),
 ob 29 (.bin .neq (.tmp 28) (.cst (.int .i64 0)))] false [1, 2, 3, 4, 8, 11, 12, 29]) (.cond (.tmp 29) q28_1 (.skip)))
def q28_3 : ACode :=
 (.seq (.region [
 ob 47 (.loadA 3 (.tmp 4)),
 ox (.store 3 (.tmp 8) (.tmp 47)),
 ob 9 (.mv (.cst (.int .i64 0))),
 ob 10 (.mv (.cst (.int .i64 76)))] false [8, 9, 10]) (.ret))
def q28_4 : ACode :=
 (.region [
 ob 57 (.mv (.tmp 1)),
 ob 58 (.faddr 5 (.tmp 13)),
 ox (.store 1 (.tmp 58) (.tmp 57))] false [1, 2, 8, 11, 13])
def q28_5 : ACode :=
 (.seq (.region [
 ob 77 (.mv (.tmp 11)),
 ob 78 (.chk (.tmp 77)),
 ob 79 (.faddr 0 (.tmp 78)),
 ob 80 (.loadA 3 (.tmp 79)),
 ob 81 (.faddr 0 (.tmp 13)),
 ob 82 (.load1 (.tmp 81)),
 ⟨none, .store 3 (.tmp 8) (.tmp 80), none, true, false, [81]⟩,
 ob 9 (.mv (.tmp 82)),
 ob 10 (.mv (.cst (.int .i64 0)))] true [8, 9, 10]) (.ret))
def q28_6 : ACode :=
 (.seq (.region [
 ob 71 (.mv (.tmp 11)),
 ob 72 (.mv (.tmp 1)),
 ob 73 (.mv (.tmp 2)),
 ob 74 (.faddr 0 (.tmp 13)),
 ob 75 (.load1 (.tmp 74)),
 ob 76 (.call 51 [(.tmp 71), (.tmp 72), (.tmp 73), (.tmp 75)])] false [8, 11, 13]) q28_5)
def q28_7 : ACode :=
 (.seq (.region [
 ob 68 (.mv (.tmp 11)),
 ob 69 (.loadA 6 (.tmp 13)),
 ob 70 (.call 50 [(.tmp 68), (.tmp 69)])] false [1, 2, 8, 11, 13]) q28_6)
def q28_8 : ACode :=
 (.seq (.region [
 ob 59 (.mv (.tmp 11)),
 ob 60 (.chk (.tmp 59)),
 ob 61 (.faddr 0 (.tmp 60)),
 ob 62 (.faddr 1 (.tmp 61)),
 ob 63 (.load1 (.tmp 62)),
 ob 64 (.bin .add (.tmp 63) (.cst (.int .i64 1))),
 ob 65 (.chk (.tmp 59)),
 ob 66 (.faddr 0 (.tmp 65)),
 ob 67 (.faddr 1 (.tmp 66)),
 ox (.store 1 (.tmp 67) (.tmp 64))] false [1, 2, 8, 11, 13]) q28_7)
def q28_9 : ACode :=
 (.seq (.seq (.region [
 ob 55 (.mv (.tmp 3)),
 ob 56 (.bin .eql (.tmp 55) (.cst (.int .i64 2)))] false [1, 2, 8, 11, 13, 56]) (.cond (.tmp 56) q28_4 (.skip))) q28_8)
def q28_10 : ACode :=
 (.seq (.region [
 ob 48 (.mv (.tmp 11)),
 ob 49 (.chk (.tmp 48)),
 ob 50 (.faddr 0 (.tmp 49)),
 ob 51 (.faddr 1 (.tmp 50)),
 ob 52 (.load1 (.tmp 51)),
 ob 53 (.mv (.tmp 3)),
 ob 54 (.build [(.int .i64 0), (.int .i64 0), (.int .i64 0), (.slice .c0 []), (.slice .c0 []), (.int .i64 0)] [(0, 1, (.tmp 52)), (1, 1, (.tmp 53)), (2, 1, (.cst (.int .i64 1)))]),
 ob 13 (.box0 [(.int .i64 0), (.int .i64 0), (.int .i64 0), (.slice .c0 []), (.slice .c0 []), (.int .i64 0)]),
 ox (.store 6 (.tmp 13) (.tmp 54))] false [1, 2, 3, 8, 11, 13]) q28_9)
def q28_11 : ACode :=
 (.seq (.seq (.region [
 ob 32 (.mv (.tmp 11)),
 ob 33 (.chk (.tmp 32)),
 ob 34 (.faddr 0 (.tmp 33)),
 ob 35 (.faddr 0 (.tmp 34)),
 ob 36 (.load1 (.tmp 35)),
 ob 37 (.lenV (.tmp 36)),
 ob 38 (.bin .geq (.tmp 37) (.cst (.int .i64 200))),
 ob 39 (.mv (.tmp 38)),
 og 40 39 false (.mv (.tmp 11)),
 og 41 39 false (.chk (.tmp 40)),
 og 42 39 false (.faddr 0 (.tmp 41)),
 og 43 39 false (.faddr 1 (.tmp 42)),
 og 44 39 false (.load1 (.tmp 43)),
 og 45 39 false (.bin .geq (.tmp 44) (.cst (.int .i64 1099511627776))),
 ob 46 (.pick (.tmp 39) (.cst (.bool true)) (.tmp 45))] false [1, 2, 3, 4, 8, 11, 46]) (.cond (.tmp 46) q28_3 (.skip))) q28_10)
def q28_12 : ACode :=
 (.seq (.seq (.region [
 ob 24 (.mv (.tmp 11)),
 ob 25 (.mv (.tmp 1)),
 ob 26 (.mv (.tmp 2)),
 ob 27 (.call 70 [(.tmp 24), (.tmp 25), (.tmp 26)]),
 ob 12 (.mv (.tmp 27))] false [1, 2, 3, 4, 8, 11, 12]) q28_2) q28_11)
def q28_13 : ACode :=
 (.seq (.region [
 ob 21 (.loadA 3 (.tmp 4)),
 ob 22 (.build [(.slice .c0 []), (.int .i64 0), (.int .i64 0)] [(0, 3, (.tmp 21))]),
 ob 23 (.box (.tmp 22)),
 ob 11 (.mv (.tmp 23))] false [1, 2, 3, 4, 8, 11]) q28_12)
def q28_14 : ACode :=
 (.seq (.seq (.region [
 ob 14 (.mv (.tmp 3)),
 ob 15 (.bin .neq (.tmp 14) (.cst (.int .i64 1))),
 ob 16 (.mv (.tmp 15)),
 og 17 16 true (.mv (.tmp 3)),
 og 18 16 true (.bin .neq (.tmp 17) (.cst (.int .i64 2))),
 ob 19 (.pick (.tmp 16) (.tmp 18) (.cst (.bool false)))] false [1, 2, 3, 4, 8, 19]) (.cond (.tmp 19) q28_0 (.skip))) q28_13)
def E28 := And.intro (exK_head q28_0.eq_1) (And.intro (exK_head q28_1.eq_1) (And.intro (exK_head q28_2.eq_1) (And.intro (exK_head q28_3.eq_1) (And.intro (exK_head q28_4.eq_1) (And.intro (exK_head q28_5.eq_1) (And.intro (exK_head q28_6.eq_1) (And.intro (exK_head q28_7.eq_1) (And.intro (exK_head q28_8.eq_1) (And.intro (exK_head q28_9.eq_1) (And.intro (exK_head q28_10.eq_1) (And.intro (exK_head q28_11.eq_1) (And.intro (exK_head q28_12.eq_1) (And.intro (exK_head q28_13.eq_1) (exK_head q28_14.eq_1))))))))))))))
def ann28 : Ann := { n := 83, own := [], lv := [(0, [1, 2, 3, 4, 8]), (1, [1, 2, 3, 4, 8, 19]), (2, [8, 9, 10]), (3, [1, 2, 3, 4, 8, 11]), (4, [1, 2, 3, 4, 8, 11, 12]), (5, [1, 2, 3, 4, 8, 11, 12, 29]), (6, [8, 9, 10]), (7, [1, 2, 3, 4, 8, 11, 46]), (8, [8, 9, 10]), (9, [1, 2, 3, 8, 11, 13]), (10, [1, 2, 8, 11, 13, 56]), (11, [1, 2, 8, 11, 13]), (12, [1, 2, 8, 11, 13]), (13, [1, 2, 8, 11, 13]), (14, [8, 11, 13]), (15, [8, 9, 10])], lp := [] }
def fn28 : AFn := AFn.mk 4 [.cellA 8 3, .tmp 9, .tmp 10]
  (.seq (.region [
  ob 4 (.box (.tmp 0)),
  ob 8 (.box0 [(.slice .c0 []), (.int .i64 0), (.int .i64 0)]),
  ob 9 (.mv (.cst (.int .i64 0))),
  ob 10 (.mv (.cst (.int .i64 0)))] false [1, 2, 3, 4, 8]) q28_14)
theorem ok28 : compFn Tryz.prog ann28 Tryz.f28 = some fn28 := by kernel_rfl
def q32_0 : ACode :=
 (.seq (.region [
 ob 2 (.mv (.cst (.bool false)))] false [2]) (.ret))
def q32_1 : ACode :=
 (.seq (.region [
 ob 2 (.mv (.cst (.bool false)))] false [2]) (.ret))
def q32_2 : ACode :=
 (.seq (.region [
 ob 86 (.mv (.tmp 4)),
 ob 87 (.bin .gtr (.tmp 86) (.cst (.int .i64 0))),
 ob 88 (.mv (.tmp 87)),
 og 89 88 true (.faddr 0 (.tmp 5)),
 og 90 88 true (.load1 (.tmp 89)),
 og 91 88 true (.mv (.tmp 3)),
 og 92 88 true (.chk (.tmp 91)),
 og 93 88 true (.faddr 0 (.tmp 92)),
 og 94 88 true (.faddr 0 (.tmp 93)),
 og 95 88 true (.load1 (.tmp 94)),
 og 96 88 true (.mv (.tmp 4)),
 og 97 88 true (.bin .sub (.tmp 96) (.cst (.int .i64 1))),
 og 98 88 true (.iaddr 6 (.tmp 95) (.tmp 97)),
 og 99 88 true (.faddr 0 (.tmp 98)),
 og 100 88 true (.load1 (.tmp 99)),
 og 101 88 true (.bin .leq (.tmp 90) (.tmp 100)),
 ob 102 (.pick (.tmp 88) (.tmp 101) (.cst (.bool false))),
 ob 103 (.mv (.tmp 102)),
 og 104 103 false (.faddr 0 (.tmp 5)),
 og 105 103 false (.load1 (.tmp 104)),
 og 106 103 false (.mv (.tmp 3)),
 og 107 103 false (.chk (.tmp 106)),
 og 108 103 false (.faddr 0 (.tmp 107)),
 og 109 103 false (.faddr 1 (.tmp 108)),
 og 110 103 false (.load1 (.tmp 109)),
 og 111 103 false (.bin .geq (.tmp 105) (.tmp 110)),
 ob 112 (.pick (.tmp 103) (.cst (.bool true)) (.tmp 111)),
 ob 113 (.mv (.tmp 112)),
 og 114 113 false (.faddr 4 (.tmp 5)),
 og 115 113 false (.load1 (.tmp 114)),
 og 116 113 false (.lenV (.tmp 115)),
 og 117 113 false (.bin .gtr (.tmp 116) (.cst (.int .i64 64))),
 ob 118 (.pick (.tmp 113) (.cst (.bool true)) (.tmp 117))] true [3, 79, 80, 81, 118]) (.cond (.tmp 118) q32_1 (.skip)))
def q32_3 : ACode :=
 (.region [
 ob 119 (.bin .add (.tmp 81) (.cst (.int .i64 1))),
 ob 81 (.mv (.tmp 119))] false [3, 79, 80, 81])
def q32_4 : ACode :=
 (.seq (.block 1 (.seq (.region [
 ob 83 (.mv (.tmp 81)),
 ob 84 (.iaddr 6 (.tmp 79) (.tmp 81)),
 ob 85 (.loadA 6 (.tmp 84)),
 ob 5 (.box0 [(.int .i64 0), (.int .i64 0), (.int .i64 0), (.slice .c0 []), (.slice .c0 []), (.int .i64 0)]),
 ob 4 (.mv (.tmp 83)),
 ox (.store 6 (.tmp 5) (.tmp 85))] false [3, 4, 5, 79, 80, 81]) q32_2)) q32_3)
def q32_5 : ACode :=
 (.seq (.cond (.tmp 82) (.skip) (.exit 0)) q32_4)
def lb32_0 : ACode :=
 (.seq (.region [
 ob 82 (.bin .lss (.tmp 81) (.tmp 80))] false [3, 79, 80, 81, 82]) q32_5)
def q32_6 : ACode :=
 (.seq (.region [
 ob 2 (.mv (.cst (.bool false)))] false [2]) (.ret))
def q32_7 : ACode :=
 (.seq (.region [
 ob 135 (.mv (.tmp 3)),
 ob 136 (.loadA 6 (.tmp 9)),
 ob 137 (.mv (.tmp 6)),
 ob 138 (.faddr 0 (.tmp 9)),
 ob 139 (.load1 (.tmp 138)),
 ob 140 (.look .i (.int .i64 0) false (.tmp 137) (.tmp 139)),
 ob 141 (.mv (.tmp 7)),
 ob 142 (.faddr 0 (.tmp 9)),
 ob 143 (.load1 (.tmp 142)),
 ob 144 (.look .i (.int .i64 0) false (.tmp 141) (.tmp 143)),
 ob 145 (.call 73 [(.tmp 135), (.tmp 136), (.tmp 140), (.tmp 144)]),
 ob 146 (.not (.tmp 145))] false [3, 6, 7, 129, 130, 131, 146]) (.cond (.tmp 146) q32_6 (.skip)))
def q32_8 : ACode :=
 (.region [
 ob 147 (.bin .add (.tmp 131) (.cst (.int .i64 1))),
 ob 131 (.mv (.tmp 147))] false [3, 6, 7, 129, 130, 131])
def q32_9 : ACode :=
 (.seq (.block 3 (.seq (.region [
 ob 133 (.iaddr 6 (.tmp 129) (.tmp 131)),
 ob 134 (.loadA 6 (.tmp 133)),
 ob 9 (.box0 [(.int .i64 0), (.int .i64 0), (.int .i64 0), (.slice .c0 []), (.slice .c0 []), (.int .i64 0)]),
 ox (.store 6 (.tmp 9) (.tmp 134))] false [3, 6, 7, 9, 129, 130, 131]) q32_7)) q32_8)
def q32_10 : ACode :=
 (.seq (.cond (.tmp 132) (.skip) (.exit 2)) q32_9)
def lb32_1 : ACode :=
 (.seq (.region [
 ob 132 (.bin .lss (.tmp 131) (.tmp 130))] false [3, 6, 7, 129, 130, 131, 132]) q32_10)
def q32_11 : ACode :=
 (.block 2 (.loop [3, 6, 7, 129, 130, 131] lb32_1))
def q32_12 : ACode :=
 (.seq (.region [
 ob 2 (.mv (.cst (.bool true)))] false [2]) (.ret))
def q32_13 : ACode :=
 (.seq (.seq (.region [
 ob 125 (.mv (.tmp 3)),
 ob 126 (.chk (.tmp 125)),
 ob 127 (.faddr 0 (.tmp 126)),
 ob 128 (.faddr 0 (.tmp 127)),
 ob 129 (.load1 (.tmp 128)),
 ob 130 (.lenV (.tmp 129)),
 ob 131 (.mv (.cst (.int .i64 0)))] false [3, 6, 7, 129, 130, 131]) q32_11) q32_12)
def q32_14 : ACode :=
 (.seq (.region [
 ob 121 (.mv (.tmp 3)),
 ob 122 (.call 72 [(.tmp 121)]),
 ob 120 (.mv (.tmp 122)),
 ob 123 (.extract (.tmp 120) 0),
 ob 124 (.extract (.tmp 120) 1),
 ob 6 (.mv (.tmp 123)),
 ob 7 (.mv (.tmp 124))] false [3, 6, 7]) q32_13)
def q32_15 : ACode :=
 (.seq (.seq (.region [
 ob 75 (.mv (.tmp 3)),
 ob 76 (.chk (.tmp 75)),
 ob 77 (.faddr 0 (.tmp 76)),
 ob 78 (.faddr 0 (.tmp 77)),
 ob 79 (.load1 (.tmp 78)),
 ob 80 (.lenV (.tmp 79)),
 ob 81 (.mv (.cst (.int .i64 0)))] false [3, 79, 80, 81]) (.block 0 (.loop [3, 79, 80, 81] lb32_0))) q32_14)
def q32_16 : ACode :=
 (.seq (.seq (.region [
 ob 13 (.mv (.tmp 3)),
 ob 14 (.chk (.tmp 13)),
 ob 15 (.faddr 0 (.tmp 14)),
 ob 16 (.faddr 0 (.tmp 15)),
 ob 17 (.load1 (.tmp 16)),
 ob 18 (.lenV (.tmp 17)),
 ob 19 (.bin .lss (.tmp 18) (.cst (.int .i64 1))),
 ob 20 (.mv (.tmp 19)),
 og 21 20 false (.mv (.tmp 3)),
 og 22 20 false (.chk (.tmp 21)),
 og 23 20 false (.faddr 0 (.tmp 22)),
 og 24 20 false (.faddr 0 (.tmp 23)),
 og 25 20 false (.load1 (.tmp 24)),
 og 26 20 false (.lenV (.tmp 25)),
 og 27 20 false (.bin .gtr (.tmp 26) (.cst (.int .i64 200))),
 ob 28 (.pick (.tmp 20) (.cst (.bool true)) (.tmp 27)),
 ob 29 (.mv (.tmp 28)),
 og 30 29 false (.mv (.tmp 3)),
 og 31 29 false (.chk (.tmp 30)),
 og 32 29 false (.faddr 0 (.tmp 31)),
 og 33 29 false (.faddr 0 (.tmp 32)),
 og 34 29 false (.load1 (.tmp 33)),
 og 35 29 false (.iaddr 6 (.tmp 34) (.cst (.int .i64 0))),
 og 36 29 false (.faddr 0 (.tmp 35)),
 og 37 29 false (.load1 (.tmp 36)),
 og 38 29 false (.bin .neq (.tmp 37) (.cst (.int .i64 1))),
 ob 39 (.pick (.tmp 29) (.cst (.bool true)) (.tmp 38)),
 ob 40 (.mv (.tmp 39)),
 og 41 40 false (.mv (.tmp 3)),
 og 42 40 false (.chk (.tmp 41)),
 og 43 40 false (.faddr 0 (.tmp 42)),
 og 44 40 false (.faddr 0 (.tmp 43)),
 og 45 40 false (.load1 (.tmp 44)),
 og 46 40 false (.iaddr 6 (.tmp 45) (.cst (.int .i64 0))),
 og 47 40 false (.faddr 1 (.tmp 46)),
 og 48 40 false (.load1 (.tmp 47)),
 og 49 40 false (.bin .neq (.tmp 48) (.cst (.int .i64 2))),
 ob 50 (.pick (.tmp 40) (.cst (.bool true)) (.tmp 49)),
 ob 51 (.mv (.tmp 50)),
 og 52 51 false (.mv (.tmp 3)),
 og 53 51 false (.chk (.tmp 52)),
 og 54 51 false (.faddr 0 (.tmp 53)),
 og 55 51 false (.faddr 1 (.tmp 54)),
 og 56 51 false (.load1 (.tmp 55)),
 og 57 51 false (.bin .gtr (.tmp 56) (.cst (.int .i64 1099511627776))),
 ob 58 (.pick (.tmp 51) (.cst (.bool true)) (.tmp 57)),
 ob 59 (.mv (.tmp 58)),
 og 60 59 false (.mv (.tmp 3)),
 og 61 59 false (.chk (.tmp 60)),
 og 62 59 false (.faddr 0 (.tmp 61)),
 og 63 59 false (.faddr 2 (.tmp 62)),
 og 64 59 false (.load1 (.tmp 63)),
 og 65 59 false (.bin .lss (.tmp 64) (.cst (.int .i64 1))),
 ob 66 (.pick (.tmp 59) (.cst (.bool true)) (.tmp 65)),
 ob 67 (.mv (.tmp 66)),
 og 68 67 false (.mv (.tmp 3)),
 og 69 67 false (.chk (.tmp 68)),
 og 70 67 false (.faddr 0 (.tmp 69)),
 og 71 67 false (.faddr 2 (.tmp 70)),
 og 72 67 false (.load1 (.tmp 71)),
 og 73 67 false (.bin .gtr (.tmp 72) (.cst (.int .i64 1099511627776))),
 ob 74 (.pick (.tmp 67) (.cst (.bool true)) (.tmp 73))] false [3, 74]) (.cond (.tmp 74) q32_0 (.skip))) q32_15)
def q32_17 : ACode :=
 (.seq (.region [
 ob 10 (.loadA 3 (.tmp 1)),
 ob 11 (.build [(.slice .c0 []), (.int .i64 0), (.int .i64 0)] [(0, 3, (.tmp 10))]),
 ob 12 (.box (.tmp 11)),
 ob 3 (.mv (.tmp 12))] false [3]) q32_16)
def E32 := And.intro (exK_head q32_0.eq_1) (And.intro (exK_head q32_1.eq_1) (And.intro (exK_head q32_2.eq_1) (And.intro (exK_head q32_3.eq_1) (And.intro (exK_head q32_4.eq_1) (And.intro (exK_head q32_5.eq_1) (And.intro (exK_head lb32_0.eq_1) (And.intro (exK_head q32_6.eq_1) (And.intro (exK_head q32_7.eq_1) (And.intro (exK_head q32_8.eq_1) (And.intro (exK_head q32_9.eq_1) (And.intro (exK_head q32_10.eq_1) (And.intro (exK_head lb32_1.eq_1) (And.intro (exK_head q32_11.eq_1) (And.intro (exK_head q32_12.eq_1) (And.intro (exK_head q32_13.eq_1) (And.intro (exK_head q32_14.eq_1) (And.intro (exK_head q32_15.eq_1) (And.intro (exK_head q32_16.eq_1) (exK_head q32_17.eq_1)))))))))))))))))))
def ann32 : Ann := { n := 148, own := [], lv := [(0, [1]), (1, [3]), (2, [3, 74]), (3, [2]), (4, [3, 79, 80, 81]), (5, [3, 79, 80, 81, 82]), (6, [3, 4, 5, 79, 80, 81]), (7, [3, 79, 80, 81, 118]), (8, [2]), (9, [3, 79, 80, 81]), (10, [3, 6, 7]), (11, [3, 6, 7, 129, 130, 131]), (12, [3, 6, 7, 129, 130, 131, 132]), (13, [3, 6, 7, 9, 129, 130, 131]), (14, [3, 6, 7, 129, 130, 131, 146]), (15, [2]), (16, [3, 6, 7, 129, 130, 131]), (17, [2])], lp := [(5, [3, 79, 80, 81]), (12, [3, 6, 7, 129, 130, 131])] }
def fn32 : AFn := AFn.mk 1 [.tmp 2]
  (.seq (.region [
  ob 1 (.box (.tmp 0)),
  ob 2 (.mv (.cst (.bool false)))] false [1]) q32_17)
theorem ok32 : compFn Tryz.prog ann32 Tryz.f32 = some fn32 := by kernel_rfl
def q35_0 : ACode :=
 (.seq (.region [
 ob 21 (.loadA 3 (.tmp 2)),
 ox (.store 3 (.tmp 4) (.tmp 21)),
 ob 5 (.mv (.cst (.int .i64 70)))] false [4, 5]) (.ret))
def q35_1 : ACode :=
 (.seq (.region [
 ob 26 (.loadA 3 (.tmp 2)),
 ox (.store 3 (.tmp 4) (.tmp 26)),
 ob 5 (.mv (.cst (.int .i64 72)))] false [4, 5]) (.ret))
def q35_2 : ACode :=
 (.seq (.region [
 ob 31 (.loadA 3 (.tmp 2)),
 ox (.store 3 (.tmp 4) (.tmp 31)),
 ob 5 (.mv (.cst (.int .i64 71)))] false [4, 5]) (.ret))
def q35_3 : ACode :=
 (.seq (.region [
 ob 28 (.faddr 2 (.tmp 7)),
 ob 29 (.load1 (.tmp 28)),
 ob 30 (.bin .gtr (.tmp 29) (.cst (.int .i64 0))),
 ob 27 (.mv (.tmp 30))] false [1, 2, 4, 6, 27]) (.cond (.tmp 27) q35_2 (.skip)))
def q35_4 : ACode :=
 (.seq (.region [
 ob 23 (.faddr 1 (.tmp 7)),
 ob 24 (.load1 (.tmp 23)),
 ob 25 (.bin .eql (.tmp 24) (.cst (.int .i64 2))),
 ob 22 (.mv (.tmp 25))] false [1, 2, 4, 6, 7, 22]) (.cond (.tmp 22) q35_1 q35_3))
def q35_5 : ACode :=
 (.seq (.region [
 ob 35 (.mv (.tmp 6)),
 ob 36 (.chk (.tmp 35)),
 ob 37 (.faddr 0 (.tmp 36)),
 ob 38 (.loadA 3 (.tmp 37)),
 ox (.store 3 (.tmp 4) (.tmp 38)),
 ob 5 (.mv (.cst (.int .i64 0)))] false [4, 5]) (.ret))
def q35_6 : ACode :=
 (.seq (.region [
 ob 32 (.mv (.tmp 6)),
 ob 33 (.mv (.tmp 1)),
 ob 34 (.call 75 [(.tmp 32), (.tmp 33)])] false [4, 6]) q35_5)
def q35_7 : ACode :=
 (.seq (.block 0 (.seq (.region [
 ob 19 (.mv (.tmp 8)),
 ob 20 (.not (.tmp 19)),
 ob 18 (.mv (.tmp 20))] false [1, 2, 4, 6, 7, 18]) (.cond (.tmp 18) q35_0 q35_4))) q35_6)
def q35_8 : ACode :=
 (.seq (.region [
 ob 13 (.mv (.tmp 6)),
 ob 14 (.mv (.tmp 1)),
 ob 15 (.call 43 [(.tmp 13), (.tmp 14)]),
 ob 12 (.mv (.tmp 15)),
 ob 16 (.extract (.tmp 12) 0),
 ob 17 (.extract (.tmp 12) 1),
 ob 7 (.box0 [(.int .i64 0), (.int .i64 0), (.int .i64 0), (.slice .c0 []), (.slice .c0 []), (.int .i64 0)]),
 ox (.store 6 (.tmp 7) (.tmp 16)),
 ob 8 (.mv (.tmp 17))] false [1, 2, 4, 6, 7, 8]) q35_7)
def q35_9 : ACode :=
 (.seq (.region [
 ob 9 (.loadA 3 (.tmp 2)),
 ob 10 (.build [(.slice .c0 []), (.int .i64 0), (.int .i64 0)] [(0, 3, (.tmp 9))]),
 ob 11 (.box (.tmp 10)),
 ob 6 (.mv (.tmp 11))] false [1, 2, 4, 6]) q35_8)
def E35 := And.intro (exK_head q35_0.eq_1) (And.intro (exK_head q35_1.eq_1) (And.intro (exK_head q35_2.eq_1) (And.intro (exK_head q35_3.eq_1) (And.intro (exK_head q35_4.eq_1) (And.intro (exK_head q35_5.eq_1) (And.intro (exK_head q35_6.eq_1) (And.intro (exK_head q35_7.eq_1) (And.intro (exK_head q35_8.eq_1) (exK_head q35_9.eq_1)))))))))
def ann35 : Ann := { n := 39, own := [], lv := [(0, [1, 2, 4]), (1, [1, 2, 4, 6]), (2, [1, 2, 4, 6, 7, 8]), (3, [1, 2, 4, 6, 7, 18]), (4, [4, 5]), (5, [1, 2, 4, 6, 7, 22]), (6, [4, 5]), (7, [1, 2, 4, 6, 27]), (8, [4, 5]), (9, [4, 6]), (10, [4, 5])], lp := [] }
def fn35 : AFn := AFn.mk 2 [.cellA 4 3, .tmp 5]
  (.seq (.region [
  ob 2 (.box (.tmp 0)),
  ob 4 (.box0 [(.slice .c0 []), (.int .i64 0), (.int .i64 0)]),
  ob 5 (.mv (.cst (.int .i64 0)))] false [1, 2, 4]) q35_9)
theorem ok35 : compFn Tryz.prog ann35 Tryz.f35 = some fn35 := by kernel_rfl
def q36_0 : ACode :=
 (.seq (.region [
 ob 1 (.build [(.int .i64 0), (.int .i64 0), (.int .i64 0), (.slice .c0 []), (.slice .c0 []), (.int .i64 0)] [(0, 1, (.cst (.int .i64 1))), (1, 1, (.cst (.int .i64 2))), (5, 1, (.cst (.int .i64 1)))]),
 ob 2 (.lits 6 [(.tmp 1)]),
 ob 3 (.build [(.slice .c0 []), (.int .i64 0), (.int .i64 0)] [(0, 1, (.tmp 2)), (1, 1, (.cst (.int .i64 2))), (2, 1, (.cst (.int .i64 1)))]),
 ox (.store 3 (.tmp 0) (.tmp 3))] false [0]) (.ret))
def E36 := exK_head q36_0.eq_1
def ann36 : Ann := { n := 4, own := [], lv := [(0, [0]), (1, [0])], lp := [] }
def fn36 : AFn := AFn.mk 0 [.cellA 0 3]
  (.seq (.region [
  ob 0 (.box0 [(.slice .c0 []), (.int .i64 0), (.int .i64 0)])] false [0]) q36_0)
theorem ok36 : compFn Tryz.prog ann36 Tryz.f36 = some fn36 := by kernel_rfl
def q37_0 : ACode :=
 (.seq (.region [
 ob 36 (.loadA 3 (.tmp 4)),
 ox (.store 3 (.tmp 8) (.tmp 36)),
 ob 9 (.mv (.cst (.int .i64 70)))] false [8, 9]) (.ret))
def q37_1 : ACode :=
 (.seq (.region [
 ob 41 (.loadA 3 (.tmp 4)),
 ox (.store 3 (.tmp 8) (.tmp 41)),
 ob 9 (.mv (.cst (.int .i64 72)))] false [8, 9]) (.ret))
def q37_2 : ACode :=
 (.seq (.region [
 ob 38 (.faddr 1 (.tmp 11)),
 ob 39 (.load1 (.tmp 38)),
 ob 40 (.bin .eql (.tmp 39) (.cst (.int .i64 2))),
 ob 37 (.mv (.tmp 40))] false [1, 2, 3, 4, 8, 10, 11, 37]) (.cond (.tmp 37) q37_1 (.skip)))
def q37_3 : ACode :=
 (.seq (.region [
 ob 48 (.loadA 3 (.tmp 4)),
 ob 49 (.mv (.tmp 13)),
 ox (.store 3 (.tmp 8) (.tmp 48)),
 ob 9 (.mv (.tmp 49))] false [8, 9]) (.ret))
def q37_4 : ACode :=
 (.seq (.region [
 ob 46 (.mv (.tmp 13)),
 ob 47 (.bin .neq (.tmp 46) (.cst (.int .i64 0)))] false [1, 2, 3, 4, 8, 10, 11, 13, 47]) (.cond (.tmp 47) q37_3 (.skip)))
def q37_5 : ACode :=
 (.seq (.region [
 ob 62 (.mv (.tmp 10)),
 ob 63 (.chk (.tmp 62)),
 ob 64 (.faddr 0 (.tmp 63)),
 ob 65 (.loadA 3 (.tmp 64)),
 ox (.store 3 (.tmp 8) (.tmp 65)),
 ob 9 (.mv (.cst (.int .i64 0)))] false [8, 9]) (.ret))
def q37_6 : ACode :=
 (.seq (.region [
 ob 57 (.mv (.tmp 10)),
 ob 58 (.mv (.tmp 2)),
 ob 59 (.mv (.tmp 3)),
 ob 60 (.mv (.tmp 1)),
 ob 61 (.call 51 [(.tmp 57), (.tmp 58), (.tmp 59), (.tmp 60)])] false [8, 10]) q37_5)
def q37_7 : ACode :=
 (.seq (.region [
 ob 54 (.mv (.tmp 10)),
 ob 55 (.loadA 6 (.tmp 11)),
 ob 56 (.call 50 [(.tmp 54), (.tmp 55)])] false [1, 2, 3, 8, 10]) q37_6)
def q37_8 : ACode :=
 (.seq (.region [
 ob 50 (.faddr 2 (.tmp 11)),
 ob 51 (.load1 (.tmp 50)),
 ob 52 (.bin .add (.tmp 51) (.cst (.int .i64 1))),
 ob 53 (.faddr 2 (.tmp 11)),
 ox (.store 1 (.tmp 53) (.tmp 52))] false [1, 2, 3, 8, 10, 11]) q37_7)
def q37_9 : ACode :=
 (.seq (.seq (.region [
 ob 42 (.mv (.tmp 10)),
 ob 43 (.mv (.tmp 2)),
 ob 44 (.mv (.tmp 3)),
 ob 45 (.call 70 [(.tmp 42), (.tmp 43), (.tmp 44)]),
 ob 13 (.mv (.tmp 45))] false [1, 2, 3, 4, 8, 10, 11, 13]) q37_4) q37_8)
def q37_10 : ACode :=
 (.seq (.block 0 (.seq (.region [
 ob 24 (.mv (.tmp 12)),
 ob 25 (.not (.tmp 24)),
 ob 26 (.mv (.tmp 25)),
 og 27 26 false (.faddr 1 (.tmp 11)),
 og 28 26 false (.load1 (.tmp 27)),
 og 29 26 false (.bin .eql (.tmp 28) (.cst (.int .i64 1))),
 og 30 26 false (.mv (.tmp 29)),
 og 31 30 true (.faddr 2 (.tmp 11)),
 og 32 30 true (.load1 (.tmp 31)),
 og 33 30 true (.bin .eql (.tmp 32) (.cst (.int .i64 0))),
 og 34 26 false (.pick (.tmp 30) (.tmp 33) (.cst (.bool false))),
 ob 35 (.pick (.tmp 26) (.cst (.bool true)) (.tmp 34)),
 ob 23 (.mv (.tmp 35))] false [1, 2, 3, 4, 8, 10, 11, 23]) (.cond (.tmp 23) q37_0 q37_2))) q37_9)
def q37_11 : ACode :=
 (.seq (.region [
 ob 18 (.mv (.tmp 10)),
 ob 19 (.mv (.tmp 1)),
 ob 20 (.call 43 [(.tmp 18), (.tmp 19)]),
 ob 17 (.mv (.tmp 20)),
 ob 21 (.extract (.tmp 17) 0),
 ob 22 (.extract (.tmp 17) 1),
 ob 11 (.box0 [(.int .i64 0), (.int .i64 0), (.int .i64 0), (.slice .c0 []), (.slice .c0 []), (.int .i64 0)]),
 ox (.store 6 (.tmp 11) (.tmp 21)),
 ob 12 (.mv (.tmp 22))] false [1, 2, 3, 4, 8, 10, 11, 12]) q37_10)
def q37_12 : ACode :=
 (.seq (.region [
 ob 14 (.loadA 3 (.tmp 4)),
 ob 15 (.build [(.slice .c0 []), (.int .i64 0), (.int .i64 0)] [(0, 3, (.tmp 14))]),
 ob 16 (.box (.tmp 15)),
 ob 10 (.mv (.tmp 16))] false [1, 2, 3, 4, 8, 10]) q37_11)
def E37 := And.intro (exK_head q37_0.eq_1) (And.intro (exK_head q37_1.eq_1) (And.intro (exK_head q37_2.eq_1) (And.intro (exK_head q37_3.eq_1) (And.intro (exK_head q37_4.eq_1) (And.intro (exK_head q37_5.eq_1) (And.intro (exK_head q37_6.eq_1) (And.intro (exK_head q37_7.eq_1) (And.intro (exK_head q37_8.eq_1) (And.intro (exK_head q37_9.eq_1) (And.intro (exK_head q37_10.eq_1) (And.intro (exK_head q37_11.eq_1) (exK_head q37_12.eq_1))))))))))))
def ann37 : Ann := { n := 66, own := [], lv := [(0, [1, 2, 3, 4, 8]), (1, [1, 2, 3, 4, 8, 10]), (2, [1, 2, 3, 4, 8, 10, 11, 12]), (3, [1, 2, 3, 4, 8, 10, 11, 23]), (4, [8, 9]), (5, [1, 2, 3, 4, 8, 10, 11, 37]), (6, [8, 9]), (7, [1, 2, 3, 4, 8, 10, 11, 13]), (8, [1, 2, 3, 4, 8, 10, 11, 13, 47]), (9, [8, 9]), (10, [1, 2, 3, 8, 10, 11]), (11, [1, 2, 3, 8, 10]), (12, [8, 10]), (13, [8, 9])], lp := [] }
def fn37 : AFn := AFn.mk 4 [.cellA 8 3, .tmp 9]
  (.seq (.region [
  ob 4 (.box (.tmp 0)),
  ob 8 (.box0 [(.slice .c0 []), (.int .i64 0), (.int .i64 0)]),
  ob 9 (.mv (.cst (.int .i64 0)))] false [1, 2, 3, 4, 8]) q37_12)
theorem ok37 : compFn Tryz.prog ann37 Tryz.f37 = some fn37 := by kernel_rfl
def q38_0 : ACode :=
 (.seq (.region [
 ob 23 (.loadA 3 (.tmp 3)),
 ob 24 (.mv (.tmp 10)),
 ox (.store 3 (.tmp 6) (.tmp 23)),
 ob 7 (.mv (.cst (.int .i64 0))),
 ob 8 (.mv (.tmp 24))] false [6, 7, 8]) (.ret))
def q38_1 : ACode :=
 (.seq (.region [
 ob 38 (.loadA 3 (.tmp 3)),
 ox (.store 3 (.tmp 6) (.tmp 38)),
 ob 7 (.mv (.cst (.int .i64 0))),
 ob 8 (.mv (.cst (.int .i64 74)))] false [6, 7, 8]) (.ret))
def q38_2 : ACode :=
 (.seq (.region [
 ob 46 (.mv (.tmp 11)),
 ob 47 (.chk (.tmp 46)),
 ob 48 (.faddr 0 (.tmp 47)),
 ob 49 (.loadA 3 (.tmp 48)),
 ob 50 (.mv (.tmp 9)),
 ox (.store 3 (.tmp 6) (.tmp 49)),
 ob 7 (.mv (.tmp 50)),
 ob 8 (.mv (.cst (.int .i64 0)))] false [6, 7, 8]) (.ret))
def q38_3 : ACode :=
 (.seq (.region [
 ob 43 (.mv (.tmp 11)),
 ob 44 (.loadA 6 (.tmp 12)),
 ob 45 (.call 49 [(.tmp 43), (.tmp 44)])] false [6, 9, 11]) q38_2)
def q38_4 : ACode :=
 (.seq (.region [
 ob 39 (.mv (.tmp 11)),
 ob 40 (.mv (.tmp 1)),
 ob 41 (.mv (.tmp 2)),
 ob 42 (.call 48 [(.tmp 39), (.tmp 40), (.tmp 41)])] false [6, 9, 11, 12]) q38_3)
def q38_5 : ACode :=
 (.seq (.seq (.region [
 ob 34 (.faddr 4 (.tmp 12)),
 ob 35 (.load1 (.tmp 34)),
 ob 36 (.lenV (.tmp 35)),
 ob 37 (.bin .gtr (.tmp 36) (.cst (.int .i64 0)))] false [1, 2, 3, 6, 9, 11, 12, 37]) (.cond (.tmp 37) q38_1 (.skip))) q38_4)
def q38_6 : ACode :=
 (.seq (.region [
 ob 29 (.mv (.tmp 11)),
 ob 30 (.mv (.tmp 9)),
 ob 31 (.call 43 [(.tmp 29), (.tmp 30)]),
 ob 28 (.mv (.tmp 31)),
 ob 32 (.extract (.tmp 28) 0),
 ob 33 (.extract (.tmp 28) 1),
 ob 12 (.box0 [(.int .i64 0), (.int .i64 0), (.int .i64 0), (.slice .c0 []), (.slice .c0 []), (.int .i64 0)]),
 ox (.store 6 (.tmp 12) (.tmp 32)),
 ob 13 (.mv (.tmp 33))] false [1, 2, 3, 6, 9, 11, 12]) q38_5)
def q38_7 : ACode :=
 (.seq (.region [
 ob 25 (.loadA 3 (.tmp 3)),
 ob 26 (.build [(.slice .c0 []), (.int .i64 0), (.int .i64 0)] [(0, 3, (.tmp 25))]),
 ob 27 (.box (.tmp 26)),
 ob 11 (.mv (.tmp 27))] false [1, 2, 3, 6, 9, 11]) q38_6)
def q38_8 : ACode :=
 (.seq (.seq (.region [
 ob 21 (.mv (.tmp 10)),
 ob 22 (.bin .neq (.tmp 21) (.cst (.int .i64 0)))] false [1, 2, 3, 6, 9, 10, 22]) (.cond (.tmp 22) q38_0 (.skip))) q38_7)
def q38_9 : ACode :=
 (.seq (.region [
 ob 15 (.loadA 3 (.tmp 3)),
 ob 16 (.mv (.tmp 1)),
 ob 17 (.mv (.tmp 2)),
 ob 18 (.call 15 [(.tmp 15), (.tmp 16), (.tmp 17)]),
 ob 14 (.mv (.tmp 18)),
 ob 19 (.extract (.tmp 14) 0),
 ob 20 (.extract (.tmp 14) 1),
 ob 9 (.mv (.tmp 19)),
 ob 10 (.mv (.tmp 20))] false [1, 2, 3, 6, 9, 10]) q38_8)
def E38 := And.intro (exK_head q38_0.eq_1) (And.intro (exK_head q38_1.eq_1) (And.intro (exK_head q38_2.eq_1) (And.intro (exK_head q38_3.eq_1) (And.intro (exK_head q38_4.eq_1) (And.intro (exK_head q38_5.eq_1) (And.intro (exK_head q38_6.eq_1) (And.intro (exK_head q38_7.eq_1) (And.intro (exK_head q38_8.eq_1) (exK_head q38_9.eq_1)))))))))
def ann38 : Ann := { n := 51, own := [], lv := [(0, [1, 2, 3, 6]), (1, [1, 2, 3, 6, 9, 10]), (2, [1, 2, 3, 6, 9, 10, 22]), (3, [6, 7, 8]), (4, [1, 2, 3, 6, 9, 11]), (5, [1, 2, 3, 6, 9, 11, 12]), (6, [1, 2, 3, 6, 9, 11, 12, 37]), (7, [6, 7, 8]), (8, [6, 9, 11, 12]), (9, [6, 9, 11]), (10, [6, 7, 8])], lp := [] }
def fn38 : AFn := AFn.mk 3 [.cellA 6 3, .tmp 7, .tmp 8]
  (.seq (.region [
  ob 3 (.box (.tmp 0)),
  ob 6 (.box0 [(.slice .c0 []), (.int .i64 0), (.int .i64 0)]),
  ob 7 (.mv (.cst (.int .i64 0))),
  ob 8 (.mv (.cst (.int .i64 0)))] false [1, 2, 3, 6]) q38_9)
theorem ok38 : compFn Tryz.prog ann38 Tryz.f38 = some fn38 := by kernel_rfl
def q39_0 : ACode :=
 (.seq (.region [
 ob 1 (.build [(.int .i64 0), (.int .i64 0), (.int .i64 0), (.slice .c0 []), (.slice .c0 []), (.int .i64 0)] [(0, 1, (.cst (.int .i64 1))), (1, 1, (.cst (.int .i64 2))), (5, 1, (.cst (.int .i64 1)))]),
 ob 2 (.lits 6 [(.tmp 1)]),
 ob 3 (.build [(.slice .c0 []), (.int .i64 0), (.int .i64 0)] [(0, 1, (.tmp 2)), (1, 1, (.cst (.int .i64 2))), (2, 1, (.cst (.int .i64 1)))]),
 ox (.store 3 (.tmp 0) (.tmp 3))] false [0]) (.ret))
def E39 := exK_head q39_0.eq_1
def ann39 : Ann := { n := 4, own := [], lv := [(0, [0]), (1, [0])], lp := [] }
def fn39 : AFn := AFn.mk 0 [.cellA 0 3]
  (.seq (.region [
  ob 0 (.box0 [(.slice .c0 []), (.int .i64 0), (.int .i64 0)])] false [0]) q39_0)
theorem ok39 : compFn Tryz.prog ann39 Tryz.f39 = some fn39 := by kernel_rfl
def q40_0 : ACode :=
 (.seq (.region [
 ob 18 (.build [(.int .i64 0), (.int .i64 0), (.int .i64 0), (.slice .c0 []), (.slice .c0 []), (.int .i64 0)] []),
 ox (.store 6 (.tmp 4) (.tmp 18)),
 ob 5 (.mv (.cst (.int .i64 70)))] false [4, 5]) (.ret))
def q40_1 : ACode :=
 (.seq (.region [
 ob 23 (.build [(.int .i64 0), (.int .i64 0), (.int .i64 0), (.slice .c0 []), (.slice .c0 []), (.int .i64 0)] []),
 ox (.store 6 (.tmp 4) (.tmp 23)),
 ob 5 (.mv (.cst (.int .i64 73)))] false [4, 5]) (.ret))
def q40_2 : ACode :=
 (.seq (.region [
 ob 14 (.loadA 6 (.tmp 6)),
 ox (.store 6 (.tmp 4) (.tmp 14)),
 ob 5 (.mv (.cst (.int .i64 0)))] false [4, 5]) (.ret))
def q40_3 : ACode :=
 (.seq (.region [
 ob 20 (.faddr 1 (.tmp 6)),
 ob 21 (.load1 (.tmp 20)),
 ob 22 (.bin .neq (.tmp 21) (.cst (.int .i64 2))),
 ob 19 (.mv (.tmp 22))] false [4, 6, 19]) (.cond (.tmp 19) q40_1 q40_2))
def q40_4 : ACode :=
 (.block 0 (.seq (.region [
 ob 16 (.mv (.tmp 7)),
 ob 17 (.not (.tmp 16)),
 ob 15 (.mv (.tmp 17))] false [4, 6, 15]) (.cond (.tmp 15) q40_0 q40_3)))
def q40_5 : ACode :=
 (.seq (.region [
 ob 9 (.mv (.tmp 0)),
 ob 10 (.mv (.tmp 1)),
 ob 11 (.call 43 [(.tmp 9), (.tmp 10)]),
 ob 8 (.mv (.tmp 11)),
 ob 12 (.extract (.tmp 8) 0),
 ob 13 (.extract (.tmp 8) 1),
 ob 6 (.box0 [(.int .i64 0), (.int .i64 0), (.int .i64 0), (.slice .c0 []), (.slice .c0 []), (.int .i64 0)]),
 ox (.store 6 (.tmp 6) (.tmp 12)),
 ob 7 (.mv (.tmp 13))] false [4, 6, 7]) q40_4)
def E40 := And.intro (exK_head q40_0.eq_1) (And.intro (exK_head q40_1.eq_1) (And.intro (exK_head q40_2.eq_1) (And.intro (exK_head q40_3.eq_1) (And.intro (exK_head q40_4.eq_1) (exK_head q40_5.eq_1)))))
def ann40 : Ann := { n := 24, own := [], lv := [(0, [0, 1, 4]), (1, [4, 6, 7]), (2, [4, 5]), (3, [4, 6, 15]), (4, [4, 5]), (5, [4, 6, 19]), (6, [4, 5])], lp := [] }
def fn40 : AFn := AFn.mk 2 [.cellA 4 6, .tmp 5]
  (.seq (.region [
  ob 4 (.box0 [(.int .i64 0), (.int .i64 0), (.int .i64 0), (.slice .c0 []), (.slice .c0 []), (.int .i64 0)]),
  ob 5 (.mv (.cst (.int .i64 0)))] false [0, 1, 4]) q40_5)
theorem ok40 : compFn Tryz.prog ann40 Tryz.f40 = some fn40 := by kernel_rfl
def q41_0 : ACode :=
 (.seq (.region [
 ob 2 (.mv (.cst (.bool false)))] false [2]) (.ret))
def q41_1 : ACode :=
 (.seq (.region [
 ob 2 (.mv (.cst (.bool false)))] false [2]) (.ret))
def q41_2 : ACode :=
 (.seq (.region [
 ob 25 (.mv (.tmp 4)),
 ob 26 (.bin .lss (.tmp 25) (.cst (.int .i32 32))),
 ob 27 (.mv (.tmp 26)),
 og 28 27 false (.mv (.tmp 4)),
 og 29 27 false (.bin .eql (.tmp 28) (.cst (.int .i32 47))),
 ob 30 (.pick (.tmp 27) (.cst (.bool true)) (.tmp 29))] false [21, 30]) (.cond (.tmp 30) q41_1 (.skip)))
def q41_3 : ACode :=
 (.block 1 (.seq (.region [
 ob 24 (.extract (.tmp 22) 2),
 ob 4 (.mv (.tmp 24))] false [4, 21]) q41_2))
def q41_4 : ACode :=
 (.seq (.cond (.tmp 23) (.skip) (.exit 0)) q41_3)
def lb41_0 : ACode :=
 (.seq (.region [
 ob 22 (.nextS (.tmp 21)),
 ob 23 (.extract (.tmp 22) 0)] false [21, 22, 23]) q41_4)
def q41_5 : ACode :=
 (.seq (.region [
 ob 2 (.mv (.cst (.bool true)))] false [2]) (.ret))
def q41_6 : ACode :=
 (.seq (.seq (.region [
 ob 20 (.mv (.tmp 0)),
 ob 21 (.rngS (.tmp 20))] false [21]) (.block 0 (.loop [21] lb41_0))) q41_5)
def q41_7 : ACode :=
 (.seq (.seq (.region [
 ob 5 (.mv (.tmp 0)),
 ob 6 (.bin .eql (.tmp 5) (.cst (.str []))),
 ob 7 (.mv (.tmp 6)),
 og 8 7 false (.mv (.tmp 0)),
 og 9 7 false (.lenS (.tmp 8)),
 og 10 7 false (.bin .gtr (.tmp 9) (.cst (.int .i64 32))),
 ob 11 (.pick (.tmp 7) (.cst (.bool true)) (.tmp 10)),
 ob 12 (.mv (.tmp 11)),
 og 13 12 false (.mv (.tmp 0)),
 og 14 12 false (.bin .eql (.tmp 13) (.cst (.str [46]))),
 ob 15 (.pick (.tmp 12) (.cst (.bool true)) (.tmp 14)),
 ob 16 (.mv (.tmp 15)),
 og 17 16 false (.mv (.tmp 0)),
 og 18 16 false (.bin .eql (.tmp 17) (.cst (.str [46, 46]))),
 ob 19 (.pick (.tmp 16) (.cst (.bool true)) (.tmp 18))] false [0, 19]) (.cond (.tmp 19) q41_0 (.skip))) q41_6)
def E41 := And.intro (exK_head q41_0.eq_1) (And.intro (exK_head q41_1.eq_1) (And.intro (exK_head q41_2.eq_1) (And.intro (exK_head q41_3.eq_1) (And.intro (exK_head q41_4.eq_1) (And.intro (exK_head lb41_0.eq_1) (And.intro (exK_head q41_5.eq_1) (And.intro (exK_head q41_6.eq_1) (exK_head q41_7.eq_1))))))))
def ann41 : Ann := { n := 31, own := [], lv := [(0, [0]), (1, [0, 19]), (2, [2]), (3, [21]), (4, [21, 22, 23]), (5, [4, 21]), (6, [21, 30]), (7, [2]), (8, [2])], lp := [(4, [21])] }
def fn41 : AFn := AFn.mk 1 [.tmp 2]
  (.seq (.region [
  ob 2 (.mv (.cst (.bool false)))] false [0]) q41_7)
theorem ok41 : compFn Tryz.prog ann41 Tryz.f41 = some fn41 := by kernel_rfl
end Go.Proofs.YtnapockikkbkcaaGreat
