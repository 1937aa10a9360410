/-
  NARROWER THAN 'FOR EVERY INPUT', by the rows' own cells (each row's printed sentence says how): FsRight: laid · FsStill: laid · FsOrphan: laid · FsShots: laid · FsMoves: laid · FsQuotas: laid · FsApart: laid.
  DERIVED. THE GIVEN ROWS OF THIS SEAT. 7 by the template 'for every input the law returns true; each argument reads behind the call as it read before'; 0 by the template 'total and deterministic' (their statements: YtahkjijkflobhaaGreatDoorTotals.lean).
  GIVEN WITH THE SEED: the statements are not yours to turn. If you find one false, say at which input.
  Laid BY PROGRAM, IN A SANDBOX (cutbox-rows.mjs): the forced cells as the released guide's own fill.sh prints them over the translation 1b21b55f93e27e8d… (all of the seat's roots in one cut). By AI agents, Wed Nov 11 2026. No macro, syntax, notation, axiom, sorry.
-/
import Derived.Test.YtahkjijkflobhaaGreatDoorChecked
import GoSem.Claim
import GoSem.ClaimJoined
import GoSem.ClaimMapViews
import Derived.JoinedTies
import Derived.KernelRfl
namespace Go.Proofs.YtahkjijkflobhaaGreatDoor
/- THE CELL 'sum', in the pinned program and in every row, IS THE sha256 OF THE DUMP (.gsa) THAT YtahkjijkflobhaaGreatDoorProg.lean LOADS. Nothing in Lean hashes anything: it is a label: what it is worth is what the hold of that sum in a sandbox is worth. -/
noncomputable def Tryz.pinned : Pinned := { name := "ytahkjijkflobhaagreatdoor", sum := "1b21b55f93e27e8da19ecbaa38cf667e806730981720cc66179330e1d9df79a0", checked := Tryz.checked }
namespace Rows
def none {H : Type} : Left H := { results := [], args := [] }

/- WHAT THE LISTED PACKAGE-LEVEL VARIABLES READ AS WHEN THE CALL BEGINS. Each datum BY PROGRAM (the guide's laid-datum.mjs) off the statement by which the dump's own 'gosem.cut.vars' lays the variable. In a bare row this is a premise. The card (YtahkjijkflobhaaGreatDoorCards.lean) ties it to the program's text. -/
def laid_errors_errorType {H : Type} : DataW H := .iface "internal/reflectlite.rtype" (.agg [.ptr (.lit (.string [101, 114, 114, 111, 114]))])

/-- 'catacomblaw11.FsRight': WHATEVER THE INPUT: true; the input reads as it did. -/
def fsRightSpec : ChangeSpec := { name := "fsRight", fn := fun _ => fun
  | [d1, d2] => { results := [.lit (.bool true)], args := [d1, d2] }
  | _ => none }
def fsRightRow : OpenClaim := { program := "ytahkjijkflobhaagreatdoor", sum := "1b21b55f93e27e8da19ecbaa38cf667e806730981720cc66179330e1d9df79a0", func := "catacomb/catacomblaw11.FsRight", spec := "fsRight", inPlace := ["internal/reflectlite.ValueOf", "(internal/reflectlite.Value).Type", "(internal/reflectlite.Value).IsNil", "internal/reflectlite.TypeOf", "(internal/reflectlite.Value).Elem", "(internal/reflectlite.Value).Set", "internal/bytealg.IndexByteString", "internal/bytealg.abigen_runtime_cmpstring", "internal/abi.NoEscape", "internal/bytealg.MakeNoZero", "slices.overlaps[catacomb/api.Node]", "slices.overlaps[catacomb/api.Ent]", "slices.overlaps[catacomb/api.Hold]", "slices.overlaps[catacomb/api.Quota]"], unfollowed := true, recurses := true, named := ["errors.errorType"], apart := false, laid := [("errors.errorType", laid_errors_errorType)] }
def FsRightSaid : Prop := fsRightRow.holds Tryz.pinned (OpenSpec.ofChange fsRightSpec)

/-- ITS FALSE NEIGHBOUR: 'it returns false'. Refute it at one input. -/
def fsRightWrong : ChangeSpec := { name := "fsRight", fn := fun _ => fun
  | [d1, d2] => { results := [.lit (.bool false)], args := [d1, d2] }
  | _ => none }
def FsRightWrongFalsely : Prop := fsRightRow.holds Tryz.pinned (OpenSpec.ofChange fsRightWrong)

/-- 'catacomblaw11.FsStill': WHATEVER THE INPUT: true; the input reads as it did. -/
def fsStillSpec : ChangeSpec := { name := "fsStill", fn := fun _ => fun
  | [d1, d2] => { results := [.lit (.bool true)], args := [d1, d2] }
  | _ => none }
def fsStillRow : OpenClaim := { program := "ytahkjijkflobhaagreatdoor", sum := "1b21b55f93e27e8da19ecbaa38cf667e806730981720cc66179330e1d9df79a0", func := "catacomb/catacomblaw11.FsStill", spec := "fsStill", inPlace := ["internal/reflectlite.ValueOf", "(internal/reflectlite.Value).Type", "(internal/reflectlite.Value).IsNil", "internal/reflectlite.TypeOf", "(internal/reflectlite.Value).Elem", "(internal/reflectlite.Value).Set", "internal/bytealg.IndexByteString", "internal/bytealg.abigen_runtime_cmpstring", "internal/abi.NoEscape", "internal/bytealg.MakeNoZero", "slices.overlaps[catacomb/api.Node]", "slices.overlaps[catacomb/api.Ent]", "slices.overlaps[catacomb/api.Hold]", "slices.overlaps[catacomb/api.Quota]"], unfollowed := true, recurses := true, named := ["errors.errorType"], apart := false, laid := [("errors.errorType", laid_errors_errorType)] }
def FsStillSaid : Prop := fsStillRow.holds Tryz.pinned (OpenSpec.ofChange fsStillSpec)

/-- ITS FALSE NEIGHBOUR: 'it returns false'. Refute it at one input. -/
def fsStillWrong : ChangeSpec := { name := "fsStill", fn := fun _ => fun
  | [d1, d2] => { results := [.lit (.bool false)], args := [d1, d2] }
  | _ => none }
def FsStillWrongFalsely : Prop := fsStillRow.holds Tryz.pinned (OpenSpec.ofChange fsStillWrong)

/-- 'catacomblaw11.FsOrphan': WHATEVER THE INPUT: true; the input reads as it did. -/
def fsOrphanSpec : ChangeSpec := { name := "fsOrphan", fn := fun _ => fun
  | [d1, d2] => { results := [.lit (.bool true)], args := [d1, d2] }
  | _ => none }
def fsOrphanRow : OpenClaim := { program := "ytahkjijkflobhaagreatdoor", sum := "1b21b55f93e27e8da19ecbaa38cf667e806730981720cc66179330e1d9df79a0", func := "catacomb/catacomblaw11.FsOrphan", spec := "fsOrphan", inPlace := ["internal/reflectlite.ValueOf", "(internal/reflectlite.Value).Type", "(internal/reflectlite.Value).IsNil", "internal/reflectlite.TypeOf", "(internal/reflectlite.Value).Elem", "(internal/reflectlite.Value).Set", "internal/bytealg.IndexByteString", "internal/bytealg.abigen_runtime_cmpstring", "internal/abi.NoEscape", "internal/bytealg.MakeNoZero", "slices.overlaps[catacomb/api.Node]", "slices.overlaps[catacomb/api.Ent]", "slices.overlaps[catacomb/api.Hold]", "slices.overlaps[catacomb/api.Quota]"], unfollowed := true, recurses := true, named := ["errors.errorType"], apart := false, laid := [("errors.errorType", laid_errors_errorType)] }
def FsOrphanSaid : Prop := fsOrphanRow.holds Tryz.pinned (OpenSpec.ofChange fsOrphanSpec)

/-- ITS FALSE NEIGHBOUR: 'it returns false'. Refute it at one input. -/
def fsOrphanWrong : ChangeSpec := { name := "fsOrphan", fn := fun _ => fun
  | [d1, d2] => { results := [.lit (.bool false)], args := [d1, d2] }
  | _ => none }
def FsOrphanWrongFalsely : Prop := fsOrphanRow.holds Tryz.pinned (OpenSpec.ofChange fsOrphanWrong)

/-- 'catacomblaw11.FsShots': WHATEVER THE INPUT: true; the input reads as it did. -/
def fsShotsSpec : ChangeSpec := { name := "fsShots", fn := fun _ => fun
  | [d1, d2, d3, d4] => { results := [.lit (.bool true)], args := [d1, d2, d3, d4] }
  | _ => none }
def fsShotsRow : OpenClaim := { program := "ytahkjijkflobhaagreatdoor", sum := "1b21b55f93e27e8da19ecbaa38cf667e806730981720cc66179330e1d9df79a0", func := "catacomb/catacomblaw11.FsShots", spec := "fsShots", inPlace := ["internal/reflectlite.ValueOf", "(internal/reflectlite.Value).Type", "(internal/reflectlite.Value).IsNil", "internal/reflectlite.TypeOf", "(internal/reflectlite.Value).Elem", "(internal/reflectlite.Value).Set", "internal/bytealg.IndexByteString", "internal/bytealg.abigen_runtime_cmpstring", "internal/abi.NoEscape", "internal/bytealg.MakeNoZero", "slices.overlaps[catacomb/api.Node]", "slices.overlaps[catacomb/api.Ent]", "slices.overlaps[catacomb/api.Hold]", "slices.overlaps[catacomb/api.Quota]"], unfollowed := true, recurses := true, named := ["errors.errorType"], apart := false, laid := [("errors.errorType", laid_errors_errorType)] }
def FsShotsSaid : Prop := fsShotsRow.holds Tryz.pinned (OpenSpec.ofChange fsShotsSpec)

/-- ITS FALSE NEIGHBOUR: 'it returns false'. Refute it at one input. -/
def fsShotsWrong : ChangeSpec := { name := "fsShots", fn := fun _ => fun
  | [d1, d2, d3, d4] => { results := [.lit (.bool false)], args := [d1, d2, d3, d4] }
  | _ => none }
def FsShotsWrongFalsely : Prop := fsShotsRow.holds Tryz.pinned (OpenSpec.ofChange fsShotsWrong)

/-- 'catacomblaw11.FsMoves': WHATEVER THE INPUT: true; the input reads as it did. -/
def fsMovesSpec : ChangeSpec := { name := "fsMoves", fn := fun _ => fun
  | [d1, d2, d3, d4] => { results := [.lit (.bool true)], args := [d1, d2, d3, d4] }
  | _ => none }
def fsMovesRow : OpenClaim := { program := "ytahkjijkflobhaagreatdoor", sum := "1b21b55f93e27e8da19ecbaa38cf667e806730981720cc66179330e1d9df79a0", func := "catacomb/catacomblaw11.FsMoves", spec := "fsMoves", inPlace := ["internal/reflectlite.ValueOf", "(internal/reflectlite.Value).Type", "(internal/reflectlite.Value).IsNil", "internal/reflectlite.TypeOf", "(internal/reflectlite.Value).Elem", "(internal/reflectlite.Value).Set", "internal/bytealg.IndexByteString", "internal/bytealg.abigen_runtime_cmpstring", "internal/abi.NoEscape", "internal/bytealg.MakeNoZero", "slices.overlaps[catacomb/api.Node]", "slices.overlaps[catacomb/api.Ent]", "slices.overlaps[catacomb/api.Hold]", "slices.overlaps[catacomb/api.Quota]"], unfollowed := true, recurses := true, named := ["errors.errorType"], apart := false, laid := [("errors.errorType", laid_errors_errorType)] }
def FsMovesSaid : Prop := fsMovesRow.holds Tryz.pinned (OpenSpec.ofChange fsMovesSpec)

/-- ITS FALSE NEIGHBOUR: 'it returns false'. Refute it at one input. -/
def fsMovesWrong : ChangeSpec := { name := "fsMoves", fn := fun _ => fun
  | [d1, d2, d3, d4] => { results := [.lit (.bool false)], args := [d1, d2, d3, d4] }
  | _ => none }
def FsMovesWrongFalsely : Prop := fsMovesRow.holds Tryz.pinned (OpenSpec.ofChange fsMovesWrong)

/-- 'catacomblaw11.FsQuotas': WHATEVER THE INPUT: true; the input reads as it did. -/
def fsQuotasSpec : ChangeSpec := { name := "fsQuotas", fn := fun _ => fun
  | [d] => { results := [.lit (.bool true)], args := [d] }
  | _ => none }
def fsQuotasRow : OpenClaim := { program := "ytahkjijkflobhaagreatdoor", sum := "1b21b55f93e27e8da19ecbaa38cf667e806730981720cc66179330e1d9df79a0", func := "catacomb/catacomblaw11.FsQuotas", spec := "fsQuotas", inPlace := ["internal/reflectlite.ValueOf", "(internal/reflectlite.Value).Type", "(internal/reflectlite.Value).IsNil", "internal/reflectlite.TypeOf", "(internal/reflectlite.Value).Elem", "(internal/reflectlite.Value).Set", "internal/bytealg.IndexByteString", "internal/bytealg.abigen_runtime_cmpstring", "internal/abi.NoEscape", "internal/bytealg.MakeNoZero", "slices.overlaps[catacomb/api.Node]", "slices.overlaps[catacomb/api.Ent]", "slices.overlaps[catacomb/api.Hold]", "slices.overlaps[catacomb/api.Quota]"], unfollowed := true, recurses := true, named := ["errors.errorType"], apart := false, laid := [("errors.errorType", laid_errors_errorType)] }
def FsQuotasSaid : Prop := fsQuotasRow.holds Tryz.pinned (OpenSpec.ofChange fsQuotasSpec)

/-- ITS FALSE NEIGHBOUR: 'it returns false'. Refute it at one input. -/
def fsQuotasWrong : ChangeSpec := { name := "fsQuotas", fn := fun _ => fun
  | [d] => { results := [.lit (.bool false)], args := [d] }
  | _ => none }
def FsQuotasWrongFalsely : Prop := fsQuotasRow.holds Tryz.pinned (OpenSpec.ofChange fsQuotasWrong)

/-- 'catacomblaw11.FsApart': WHATEVER THE INPUT: true; the input reads as it did. -/
def fsApartSpec : ChangeSpec := { name := "fsApart", fn := fun _ => fun
  | [d1, d2, d3, d4] => { results := [.lit (.bool true)], args := [d1, d2, d3, d4] }
  | _ => none }
def fsApartRow : OpenClaim := { program := "ytahkjijkflobhaagreatdoor", sum := "1b21b55f93e27e8da19ecbaa38cf667e806730981720cc66179330e1d9df79a0", func := "catacomb/catacomblaw11.FsApart", spec := "fsApart", inPlace := ["internal/reflectlite.ValueOf", "(internal/reflectlite.Value).Type", "(internal/reflectlite.Value).IsNil", "internal/reflectlite.TypeOf", "(internal/reflectlite.Value).Elem", "(internal/reflectlite.Value).Set", "internal/bytealg.IndexByteString", "internal/bytealg.abigen_runtime_cmpstring", "internal/abi.NoEscape", "internal/bytealg.MakeNoZero", "slices.overlaps[catacomb/api.Node]", "slices.overlaps[catacomb/api.Ent]", "slices.overlaps[catacomb/api.Hold]", "slices.overlaps[catacomb/api.Quota]"], unfollowed := true, recurses := true, named := ["errors.errorType"], apart := false, laid := [("errors.errorType", laid_errors_errorType)] }
def FsApartSaid : Prop := fsApartRow.holds Tryz.pinned (OpenSpec.ofChange fsApartSpec)

/-- ITS FALSE NEIGHBOUR: 'it returns false'. Refute it at one input. -/
def fsApartWrong : ChangeSpec := { name := "fsApart", fn := fun _ => fun
  | [d1, d2, d3, d4] => { results := [.lit (.bool false)], args := [d1, d2, d3, d4] }
  | _ => none }
def FsApartWrongFalsely : Prop := fsApartRow.holds Tryz.pinned (OpenSpec.ofChange fsApartWrong)

/- THE SECOND FORM. 'bulk': how many values and letters a reading holds, each counted each time it is reached (what is shared counts as often as it is met; a slice's spare places count too). A statement '..UptoSaid' is the law's where the arguments, and the package variables that the reading takes, are together of bulk at most 1048576: NARROWER than '..Said'. Prove '..Said' where nothing that the law and all that it calls make is longer than what came in: it says more and counts as full. Else prove '..UptoSaid'. A law counts once. -/
mutual
def uptoBulk {H : Type} : DataW H → Nat
  | .lit (.string bytes) => bytes.length + 1
  | .lit _ => 1
  | .nil => 1
  | .ptr d => uptoBulk d + 1
  | .slice elems spare => uptoBulkAll elems + uptoBulkAll spare + 1
  | .agg parts => uptoBulkAll parts + 1
  | .iface _ d => uptoBulk d + 1
  | .map entries => uptoBulkEntries entries + 1
  | .held _ => 1
def uptoBulkAll {H : Type} : List (DataW H) → Nat
  | [] => 0
  | d :: r => uptoBulk d + uptoBulkAll r
def uptoBulkEntries {H : Type} : List (Lit × DataW H) → Nat
  | [] => 0
  | x :: r => uptoBulkEntry x + uptoBulkEntries r
def uptoBulkEntry {H : Type} : Lit × DataW H → Nat
  | (.string bytes, d) => bytes.length + uptoBulk d + 1
  | (_, d) => uptoBulk d + 1
 end
def uptoSmall : (H : Type) → List (DataW H) → Bool := fun _ ds => decide (uptoBulkAll ds ≤ 1048576)
def OpenSpec.upto (s : _root_.Go.ChangeSpec) : _root_.Go.OpenSpec := { _root_.Go.OpenSpec.ofChange s with cond := some uptoSmall }

/-- 'catacomblaw11.FsRight', WHERE WHAT IT READS IS OF BULK AT MOST 1048576: true; the input reads as it did. -/
def fsRightUptoRow : OpenClaim := { program := "ytahkjijkflobhaagreatdoor", sum := "1b21b55f93e27e8da19ecbaa38cf667e806730981720cc66179330e1d9df79a0", func := "catacomb/catacomblaw11.FsRight", spec := "fsRight", inPlace := ["internal/reflectlite.ValueOf", "(internal/reflectlite.Value).Type", "(internal/reflectlite.Value).IsNil", "internal/reflectlite.TypeOf", "(internal/reflectlite.Value).Elem", "(internal/reflectlite.Value).Set", "internal/bytealg.IndexByteString", "internal/bytealg.abigen_runtime_cmpstring", "internal/abi.NoEscape", "internal/bytealg.MakeNoZero", "slices.overlaps[catacomb/api.Node]", "slices.overlaps[catacomb/api.Ent]", "slices.overlaps[catacomb/api.Hold]", "slices.overlaps[catacomb/api.Quota]"], unfollowed := true, recurses := true, named := ["errors.errorType"], apart := false, laid := [("errors.errorType", laid_errors_errorType)], narrowed := true }
def FsRightUptoSaid : Prop := fsRightUptoRow.holds Tryz.pinned (OpenSpec.upto fsRightSpec)

/-- 'catacomblaw11.FsStill', WHERE WHAT IT READS IS OF BULK AT MOST 1048576: true; the input reads as it did. -/
def fsStillUptoRow : OpenClaim := { program := "ytahkjijkflobhaagreatdoor", sum := "1b21b55f93e27e8da19ecbaa38cf667e806730981720cc66179330e1d9df79a0", func := "catacomb/catacomblaw11.FsStill", spec := "fsStill", inPlace := ["internal/reflectlite.ValueOf", "(internal/reflectlite.Value).Type", "(internal/reflectlite.Value).IsNil", "internal/reflectlite.TypeOf", "(internal/reflectlite.Value).Elem", "(internal/reflectlite.Value).Set", "internal/bytealg.IndexByteString", "internal/bytealg.abigen_runtime_cmpstring", "internal/abi.NoEscape", "internal/bytealg.MakeNoZero", "slices.overlaps[catacomb/api.Node]", "slices.overlaps[catacomb/api.Ent]", "slices.overlaps[catacomb/api.Hold]", "slices.overlaps[catacomb/api.Quota]"], unfollowed := true, recurses := true, named := ["errors.errorType"], apart := false, laid := [("errors.errorType", laid_errors_errorType)], narrowed := true }
def FsStillUptoSaid : Prop := fsStillUptoRow.holds Tryz.pinned (OpenSpec.upto fsStillSpec)

/-- 'catacomblaw11.FsOrphan', WHERE WHAT IT READS IS OF BULK AT MOST 1048576: true; the input reads as it did. -/
def fsOrphanUptoRow : OpenClaim := { program := "ytahkjijkflobhaagreatdoor", sum := "1b21b55f93e27e8da19ecbaa38cf667e806730981720cc66179330e1d9df79a0", func := "catacomb/catacomblaw11.FsOrphan", spec := "fsOrphan", inPlace := ["internal/reflectlite.ValueOf", "(internal/reflectlite.Value).Type", "(internal/reflectlite.Value).IsNil", "internal/reflectlite.TypeOf", "(internal/reflectlite.Value).Elem", "(internal/reflectlite.Value).Set", "internal/bytealg.IndexByteString", "internal/bytealg.abigen_runtime_cmpstring", "internal/abi.NoEscape", "internal/bytealg.MakeNoZero", "slices.overlaps[catacomb/api.Node]", "slices.overlaps[catacomb/api.Ent]", "slices.overlaps[catacomb/api.Hold]", "slices.overlaps[catacomb/api.Quota]"], unfollowed := true, recurses := true, named := ["errors.errorType"], apart := false, laid := [("errors.errorType", laid_errors_errorType)], narrowed := true }
def FsOrphanUptoSaid : Prop := fsOrphanUptoRow.holds Tryz.pinned (OpenSpec.upto fsOrphanSpec)

/-- 'catacomblaw11.FsShots', WHERE WHAT IT READS IS OF BULK AT MOST 1048576: true; the input reads as it did. -/
def fsShotsUptoRow : OpenClaim := { program := "ytahkjijkflobhaagreatdoor", sum := "1b21b55f93e27e8da19ecbaa38cf667e806730981720cc66179330e1d9df79a0", func := "catacomb/catacomblaw11.FsShots", spec := "fsShots", inPlace := ["internal/reflectlite.ValueOf", "(internal/reflectlite.Value).Type", "(internal/reflectlite.Value).IsNil", "internal/reflectlite.TypeOf", "(internal/reflectlite.Value).Elem", "(internal/reflectlite.Value).Set", "internal/bytealg.IndexByteString", "internal/bytealg.abigen_runtime_cmpstring", "internal/abi.NoEscape", "internal/bytealg.MakeNoZero", "slices.overlaps[catacomb/api.Node]", "slices.overlaps[catacomb/api.Ent]", "slices.overlaps[catacomb/api.Hold]", "slices.overlaps[catacomb/api.Quota]"], unfollowed := true, recurses := true, named := ["errors.errorType"], apart := false, laid := [("errors.errorType", laid_errors_errorType)], narrowed := true }
def FsShotsUptoSaid : Prop := fsShotsUptoRow.holds Tryz.pinned (OpenSpec.upto fsShotsSpec)

/-- 'catacomblaw11.FsMoves', WHERE WHAT IT READS IS OF BULK AT MOST 1048576: true; the input reads as it did. -/
def fsMovesUptoRow : OpenClaim := { program := "ytahkjijkflobhaagreatdoor", sum := "1b21b55f93e27e8da19ecbaa38cf667e806730981720cc66179330e1d9df79a0", func := "catacomb/catacomblaw11.FsMoves", spec := "fsMoves", inPlace := ["internal/reflectlite.ValueOf", "(internal/reflectlite.Value).Type", "(internal/reflectlite.Value).IsNil", "internal/reflectlite.TypeOf", "(internal/reflectlite.Value).Elem", "(internal/reflectlite.Value).Set", "internal/bytealg.IndexByteString", "internal/bytealg.abigen_runtime_cmpstring", "internal/abi.NoEscape", "internal/bytealg.MakeNoZero", "slices.overlaps[catacomb/api.Node]", "slices.overlaps[catacomb/api.Ent]", "slices.overlaps[catacomb/api.Hold]", "slices.overlaps[catacomb/api.Quota]"], unfollowed := true, recurses := true, named := ["errors.errorType"], apart := false, laid := [("errors.errorType", laid_errors_errorType)], narrowed := true }
def FsMovesUptoSaid : Prop := fsMovesUptoRow.holds Tryz.pinned (OpenSpec.upto fsMovesSpec)

/-- 'catacomblaw11.FsQuotas', WHERE WHAT IT READS IS OF BULK AT MOST 1048576: true; the input reads as it did. -/
def fsQuotasUptoRow : OpenClaim := { program := "ytahkjijkflobhaagreatdoor", sum := "1b21b55f93e27e8da19ecbaa38cf667e806730981720cc66179330e1d9df79a0", func := "catacomb/catacomblaw11.FsQuotas", spec := "fsQuotas", inPlace := ["internal/reflectlite.ValueOf", "(internal/reflectlite.Value).Type", "(internal/reflectlite.Value).IsNil", "internal/reflectlite.TypeOf", "(internal/reflectlite.Value).Elem", "(internal/reflectlite.Value).Set", "internal/bytealg.IndexByteString", "internal/bytealg.abigen_runtime_cmpstring", "internal/abi.NoEscape", "internal/bytealg.MakeNoZero", "slices.overlaps[catacomb/api.Node]", "slices.overlaps[catacomb/api.Ent]", "slices.overlaps[catacomb/api.Hold]", "slices.overlaps[catacomb/api.Quota]"], unfollowed := true, recurses := true, named := ["errors.errorType"], apart := false, laid := [("errors.errorType", laid_errors_errorType)], narrowed := true }
def FsQuotasUptoSaid : Prop := fsQuotasUptoRow.holds Tryz.pinned (OpenSpec.upto fsQuotasSpec)

/-- 'catacomblaw11.FsApart', WHERE WHAT IT READS IS OF BULK AT MOST 1048576: true; the input reads as it did. -/
def fsApartUptoRow : OpenClaim := { program := "ytahkjijkflobhaagreatdoor", sum := "1b21b55f93e27e8da19ecbaa38cf667e806730981720cc66179330e1d9df79a0", func := "catacomb/catacomblaw11.FsApart", spec := "fsApart", inPlace := ["internal/reflectlite.ValueOf", "(internal/reflectlite.Value).Type", "(internal/reflectlite.Value).IsNil", "internal/reflectlite.TypeOf", "(internal/reflectlite.Value).Elem", "(internal/reflectlite.Value).Set", "internal/bytealg.IndexByteString", "internal/bytealg.abigen_runtime_cmpstring", "internal/abi.NoEscape", "internal/bytealg.MakeNoZero", "slices.overlaps[catacomb/api.Node]", "slices.overlaps[catacomb/api.Ent]", "slices.overlaps[catacomb/api.Hold]", "slices.overlaps[catacomb/api.Quota]"], unfollowed := true, recurses := true, named := ["errors.errorType"], apart := false, laid := [("errors.errorType", laid_errors_errorType)], narrowed := true }
def FsApartUptoSaid : Prop := fsApartUptoRow.holds Tryz.pinned (OpenSpec.upto fsApartSpec)

end Rows
end Go.Proofs.YtahkjijkflobhaaGreatDoor
