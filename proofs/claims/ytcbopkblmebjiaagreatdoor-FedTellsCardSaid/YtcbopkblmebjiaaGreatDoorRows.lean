/-
  NARROWER THAN 'FOR EVERY INPUT', by the rows' own cells (each row's printed sentence says how): FedAsOne: laid · FedAlone: laid · FedCross: laid · FedAlike: laid · FedTells: laid · FedRight: laid · FedMoved: laid · FedRow: laid.
  DERIVED. THE GIVEN ROWS OF THIS SEAT. 8 by the template 'for every input the law returns true; each argument reads behind the call as it read before'; 0 by the template 'total and deterministic' (their statements: YtcbopkblmebjiaaGreatDoorTotals.lean).
  GIVEN WITH THE SEED: the statements are not yours to turn. If you find one false, say at which input.
  Laid BY PROGRAM, IN A SANDBOX (cutbox-rows.mjs): the forced cells as the released guide's own fill.sh prints them over the translation c735bc7328a72739… (all of the seat's roots in one cut). By AI agents, Wed Nov 11 2026. No macro, syntax, notation, axiom, sorry.
-/
import Derived.Test.YtcbopkblmebjiaaGreatDoorChecked
import GoSem.Claim
import GoSem.ClaimJoined
import GoSem.ClaimMapViews
import Derived.JoinedTies
import Derived.KernelRfl
namespace Go.Proofs.YtcbopkblmebjiaaGreatDoor
/- THE CELL 'sum', in the pinned program and in every row, IS THE sha256 OF THE DUMP (.gsa) THAT YtcbopkblmebjiaaGreatDoorProg.lean LOADS. Nothing in Lean hashes anything: it is a label: what it is worth is what the hold of that sum in a sandbox is worth. -/
noncomputable def Tryz.pinned : Pinned := { name := "ytcbopkblmebjiaagreatdoor", sum := "c735bc7328a72739e5d475a4388cd6aaa7f5dc85b9deab85bd35f04639c3a603", checked := Tryz.checked }
namespace Rows
def none {H : Type} : Left H := { results := [], args := [] }

/- WHAT THE LISTED PACKAGE-LEVEL VARIABLES READ AS WHEN THE CALL BEGINS. Each datum BY PROGRAM (the guide's laid-datum.mjs) off the statement by which the dump's own 'gosem.cut.vars' lays the variable. In a bare row this is a premise. The card (YtcbopkblmebjiaaGreatDoorCards.lean) ties it to the program's text. -/
def laid_errors_errorType {H : Type} : DataW H := .iface "internal/reflectlite.rtype" (.agg [.ptr (.lit (.string [101, 114, 114, 111, 114]))])

/-- 'catacomblaw20.FedAsOne': WHATEVER THE INPUT: true; the input reads as it did. -/
def fedAsOneSpec : ChangeSpec := { name := "fedAsOne", fn := fun _ => fun
  | [d1, d2, d3] => { results := [.lit (.bool true)], args := [d1, d2, d3] }
  | _ => none }
def fedAsOneRow : OpenClaim := { program := "ytcbopkblmebjiaagreatdoor", sum := "c735bc7328a72739e5d475a4388cd6aaa7f5dc85b9deab85bd35f04639c3a603", func := "catacomb/catacomblaw20.FedAsOne", spec := "fedAsOne", inPlace := ["internal/abi.NoEscape", "internal/bytealg.MakeNoZero", "internal/bytealg.IndexByteString", "internal/bytealg.abigen_runtime_cmpstring", "slices.overlaps[catacomb/api.Node]", "slices.overlaps[catacomb/api.Ent]", "internal/reflectlite.ValueOf", "(internal/reflectlite.Value).Type", "(internal/reflectlite.Value).IsNil", "internal/reflectlite.TypeOf", "(internal/reflectlite.Value).Elem", "(internal/reflectlite.Value).Set", "slices.overlaps[catacomb/api.Piece]"], unfollowed := true, recurses := true, named := ["errors.errorType"], apart := false, laid := [("errors.errorType", laid_errors_errorType)] }
def FedAsOneSaid : Prop := fedAsOneRow.holds Tryz.pinned (OpenSpec.ofChange fedAsOneSpec)

/-- ITS FALSE NEIGHBOUR: 'it returns false'. Refute it at one input. -/
def fedAsOneWrong : ChangeSpec := { name := "fedAsOne", fn := fun _ => fun
  | [d1, d2, d3] => { results := [.lit (.bool false)], args := [d1, d2, d3] }
  | _ => none }
def FedAsOneWrongFalsely : Prop := fedAsOneRow.holds Tryz.pinned (OpenSpec.ofChange fedAsOneWrong)

/-- 'catacomblaw20.FedAlone': WHATEVER THE INPUT: true; the input reads as it did. -/
def fedAloneSpec : ChangeSpec := { name := "fedAlone", fn := fun _ => fun
  | [d1, d2, d3] => { results := [.lit (.bool true)], args := [d1, d2, d3] }
  | _ => none }
def fedAloneRow : OpenClaim := { program := "ytcbopkblmebjiaagreatdoor", sum := "c735bc7328a72739e5d475a4388cd6aaa7f5dc85b9deab85bd35f04639c3a603", func := "catacomb/catacomblaw20.FedAlone", spec := "fedAlone", inPlace := ["internal/abi.NoEscape", "internal/bytealg.MakeNoZero", "internal/bytealg.IndexByteString", "internal/bytealg.abigen_runtime_cmpstring", "slices.overlaps[catacomb/api.Node]", "slices.overlaps[catacomb/api.Ent]", "internal/reflectlite.ValueOf", "(internal/reflectlite.Value).Type", "(internal/reflectlite.Value).IsNil", "internal/reflectlite.TypeOf", "(internal/reflectlite.Value).Elem", "(internal/reflectlite.Value).Set", "slices.overlaps[catacomb/api.Piece]"], unfollowed := true, recurses := true, named := ["errors.errorType"], apart := false, laid := [("errors.errorType", laid_errors_errorType)] }
def FedAloneSaid : Prop := fedAloneRow.holds Tryz.pinned (OpenSpec.ofChange fedAloneSpec)

/-- ITS FALSE NEIGHBOUR: 'it returns false'. Refute it at one input. -/
def fedAloneWrong : ChangeSpec := { name := "fedAlone", fn := fun _ => fun
  | [d1, d2, d3] => { results := [.lit (.bool false)], args := [d1, d2, d3] }
  | _ => none }
def FedAloneWrongFalsely : Prop := fedAloneRow.holds Tryz.pinned (OpenSpec.ofChange fedAloneWrong)

/-- 'catacomblaw20.FedCross': WHATEVER THE INPUT: true; the input reads as it did. -/
def fedCrossSpec : ChangeSpec := { name := "fedCross", fn := fun _ => fun
  | [d1, d2, d3, d4] => { results := [.lit (.bool true)], args := [d1, d2, d3, d4] }
  | _ => none }
def fedCrossRow : OpenClaim := { program := "ytcbopkblmebjiaagreatdoor", sum := "c735bc7328a72739e5d475a4388cd6aaa7f5dc85b9deab85bd35f04639c3a603", func := "catacomb/catacomblaw20.FedCross", spec := "fedCross", inPlace := ["internal/abi.NoEscape", "internal/bytealg.MakeNoZero", "internal/bytealg.IndexByteString", "internal/bytealg.abigen_runtime_cmpstring", "slices.overlaps[catacomb/api.Node]", "slices.overlaps[catacomb/api.Ent]", "internal/reflectlite.ValueOf", "(internal/reflectlite.Value).Type", "(internal/reflectlite.Value).IsNil", "internal/reflectlite.TypeOf", "(internal/reflectlite.Value).Elem", "(internal/reflectlite.Value).Set", "slices.overlaps[catacomb/api.Piece]"], unfollowed := true, recurses := true, named := ["errors.errorType"], apart := false, laid := [("errors.errorType", laid_errors_errorType)] }
def FedCrossSaid : Prop := fedCrossRow.holds Tryz.pinned (OpenSpec.ofChange fedCrossSpec)

/-- ITS FALSE NEIGHBOUR: 'it returns false'. Refute it at one input. -/
def fedCrossWrong : ChangeSpec := { name := "fedCross", fn := fun _ => fun
  | [d1, d2, d3, d4] => { results := [.lit (.bool false)], args := [d1, d2, d3, d4] }
  | _ => none }
def FedCrossWrongFalsely : Prop := fedCrossRow.holds Tryz.pinned (OpenSpec.ofChange fedCrossWrong)

/-- 'catacomblaw20.FedAlike': WHATEVER THE INPUT: true; the input reads as it did. -/
def fedAlikeSpec : ChangeSpec := { name := "fedAlike", fn := fun _ => fun
  | [d1, d2, d3] => { results := [.lit (.bool true)], args := [d1, d2, d3] }
  | _ => none }
def fedAlikeRow : OpenClaim := { program := "ytcbopkblmebjiaagreatdoor", sum := "c735bc7328a72739e5d475a4388cd6aaa7f5dc85b9deab85bd35f04639c3a603", func := "catacomb/catacomblaw20.FedAlike", spec := "fedAlike", inPlace := ["internal/abi.NoEscape", "internal/bytealg.MakeNoZero", "internal/bytealg.IndexByteString", "internal/bytealg.abigen_runtime_cmpstring", "slices.overlaps[catacomb/api.Node]", "slices.overlaps[catacomb/api.Ent]", "internal/reflectlite.ValueOf", "(internal/reflectlite.Value).Type", "(internal/reflectlite.Value).IsNil", "internal/reflectlite.TypeOf", "(internal/reflectlite.Value).Elem", "(internal/reflectlite.Value).Set", "slices.overlaps[catacomb/api.Piece]"], unfollowed := true, recurses := true, named := ["errors.errorType"], apart := false, laid := [("errors.errorType", laid_errors_errorType)] }
def FedAlikeSaid : Prop := fedAlikeRow.holds Tryz.pinned (OpenSpec.ofChange fedAlikeSpec)

/-- ITS FALSE NEIGHBOUR: 'it returns false'. Refute it at one input. -/
def fedAlikeWrong : ChangeSpec := { name := "fedAlike", fn := fun _ => fun
  | [d1, d2, d3] => { results := [.lit (.bool false)], args := [d1, d2, d3] }
  | _ => none }
def FedAlikeWrongFalsely : Prop := fedAlikeRow.holds Tryz.pinned (OpenSpec.ofChange fedAlikeWrong)

/-- 'catacomblaw20.FedTells': WHATEVER THE INPUT: true; the input reads as it did. -/
def fedTellsSpec : ChangeSpec := { name := "fedTells", fn := fun _ => fun
  | [d1, d2, d3] => { results := [.lit (.bool true)], args := [d1, d2, d3] }
  | _ => none }
def fedTellsRow : OpenClaim := { program := "ytcbopkblmebjiaagreatdoor", sum := "c735bc7328a72739e5d475a4388cd6aaa7f5dc85b9deab85bd35f04639c3a603", func := "catacomb/catacomblaw20.FedTells", spec := "fedTells", inPlace := ["internal/abi.NoEscape", "internal/bytealg.MakeNoZero", "internal/bytealg.IndexByteString", "internal/bytealg.abigen_runtime_cmpstring", "slices.overlaps[catacomb/api.Node]", "slices.overlaps[catacomb/api.Ent]", "internal/reflectlite.ValueOf", "(internal/reflectlite.Value).Type", "(internal/reflectlite.Value).IsNil", "internal/reflectlite.TypeOf", "(internal/reflectlite.Value).Elem", "(internal/reflectlite.Value).Set", "slices.overlaps[catacomb/api.Piece]"], unfollowed := true, recurses := true, named := ["errors.errorType"], apart := false, laid := [("errors.errorType", laid_errors_errorType)] }
def FedTellsSaid : Prop := fedTellsRow.holds Tryz.pinned (OpenSpec.ofChange fedTellsSpec)

/-- ITS FALSE NEIGHBOUR: 'it returns false'. Refute it at one input. -/
def fedTellsWrong : ChangeSpec := { name := "fedTells", fn := fun _ => fun
  | [d1, d2, d3] => { results := [.lit (.bool false)], args := [d1, d2, d3] }
  | _ => none }
def FedTellsWrongFalsely : Prop := fedTellsRow.holds Tryz.pinned (OpenSpec.ofChange fedTellsWrong)

/-- 'catacomblaw20.FedRight': WHATEVER THE INPUT: true; the input reads as it did. -/
def fedRightSpec : ChangeSpec := { name := "fedRight", fn := fun _ => fun
  | [d1, d2, d3] => { results := [.lit (.bool true)], args := [d1, d2, d3] }
  | _ => none }
def fedRightRow : OpenClaim := { program := "ytcbopkblmebjiaagreatdoor", sum := "c735bc7328a72739e5d475a4388cd6aaa7f5dc85b9deab85bd35f04639c3a603", func := "catacomb/catacomblaw20.FedRight", spec := "fedRight", inPlace := ["internal/abi.NoEscape", "internal/bytealg.MakeNoZero", "internal/bytealg.IndexByteString", "internal/bytealg.abigen_runtime_cmpstring", "slices.overlaps[catacomb/api.Node]", "slices.overlaps[catacomb/api.Ent]", "internal/reflectlite.ValueOf", "(internal/reflectlite.Value).Type", "(internal/reflectlite.Value).IsNil", "internal/reflectlite.TypeOf", "(internal/reflectlite.Value).Elem", "(internal/reflectlite.Value).Set", "slices.overlaps[catacomb/api.Piece]"], unfollowed := true, recurses := true, named := ["errors.errorType"], apart := false, laid := [("errors.errorType", laid_errors_errorType)] }
def FedRightSaid : Prop := fedRightRow.holds Tryz.pinned (OpenSpec.ofChange fedRightSpec)

/-- ITS FALSE NEIGHBOUR: 'it returns false'. Refute it at one input. -/
def fedRightWrong : ChangeSpec := { name := "fedRight", fn := fun _ => fun
  | [d1, d2, d3] => { results := [.lit (.bool false)], args := [d1, d2, d3] }
  | _ => none }
def FedRightWrongFalsely : Prop := fedRightRow.holds Tryz.pinned (OpenSpec.ofChange fedRightWrong)

/-- 'catacomblaw20.FedMoved': WHATEVER THE INPUT: true; the input reads as it did. -/
def fedMovedSpec : ChangeSpec := { name := "fedMoved", fn := fun _ => fun
  | [d1, d2, d3] => { results := [.lit (.bool true)], args := [d1, d2, d3] }
  | _ => none }
def fedMovedRow : OpenClaim := { program := "ytcbopkblmebjiaagreatdoor", sum := "c735bc7328a72739e5d475a4388cd6aaa7f5dc85b9deab85bd35f04639c3a603", func := "catacomb/catacomblaw20.FedMoved", spec := "fedMoved", inPlace := ["internal/abi.NoEscape", "internal/bytealg.MakeNoZero", "internal/bytealg.IndexByteString", "internal/bytealg.abigen_runtime_cmpstring", "slices.overlaps[catacomb/api.Node]", "slices.overlaps[catacomb/api.Ent]", "internal/reflectlite.ValueOf", "(internal/reflectlite.Value).Type", "(internal/reflectlite.Value).IsNil", "internal/reflectlite.TypeOf", "(internal/reflectlite.Value).Elem", "(internal/reflectlite.Value).Set", "slices.overlaps[catacomb/api.Piece]"], unfollowed := true, recurses := true, named := ["errors.errorType"], apart := false, laid := [("errors.errorType", laid_errors_errorType)] }
def FedMovedSaid : Prop := fedMovedRow.holds Tryz.pinned (OpenSpec.ofChange fedMovedSpec)

/-- ITS FALSE NEIGHBOUR: 'it returns false'. Refute it at one input. -/
def fedMovedWrong : ChangeSpec := { name := "fedMoved", fn := fun _ => fun
  | [d1, d2, d3] => { results := [.lit (.bool false)], args := [d1, d2, d3] }
  | _ => none }
def FedMovedWrongFalsely : Prop := fedMovedRow.holds Tryz.pinned (OpenSpec.ofChange fedMovedWrong)

/-- 'catacomblaw20.FedRow': WHATEVER THE INPUT: true; the input reads as it did. -/
def fedRowSpec : ChangeSpec := { name := "fedRow", fn := fun _ => fun
  | [d1, d2] => { results := [.lit (.bool true)], args := [d1, d2] }
  | _ => none }
def fedRowRow : OpenClaim := { program := "ytcbopkblmebjiaagreatdoor", sum := "c735bc7328a72739e5d475a4388cd6aaa7f5dc85b9deab85bd35f04639c3a603", func := "catacomb/catacomblaw20.FedRow", spec := "fedRow", inPlace := ["internal/abi.NoEscape", "internal/bytealg.MakeNoZero", "internal/bytealg.IndexByteString", "internal/bytealg.abigen_runtime_cmpstring", "slices.overlaps[catacomb/api.Node]", "slices.overlaps[catacomb/api.Ent]", "internal/reflectlite.ValueOf", "(internal/reflectlite.Value).Type", "(internal/reflectlite.Value).IsNil", "internal/reflectlite.TypeOf", "(internal/reflectlite.Value).Elem", "(internal/reflectlite.Value).Set", "slices.overlaps[catacomb/api.Piece]"], unfollowed := true, recurses := true, named := ["errors.errorType"], apart := false, laid := [("errors.errorType", laid_errors_errorType)] }
def FedRowSaid : Prop := fedRowRow.holds Tryz.pinned (OpenSpec.ofChange fedRowSpec)

/-- ITS FALSE NEIGHBOUR: 'it returns false'. Refute it at one input. -/
def fedRowWrong : ChangeSpec := { name := "fedRow", fn := fun _ => fun
  | [d1, d2] => { results := [.lit (.bool false)], args := [d1, d2] }
  | _ => none }
def FedRowWrongFalsely : Prop := fedRowRow.holds Tryz.pinned (OpenSpec.ofChange fedRowWrong)

/- THE SECOND FORM. 'bulk': how many values and letters a reading holds, each counted each time it is reached (what is shared counts as often as it is met; a slice's spare places count too). A statement '..UptoSaid' is the law's where the arguments, and the package variables that the reading takes, are together of bulk at most 1048576: NARROWER than '..Said'. Prove '..Said' where nothing that the law and all that it calls make is longer than what came in: it says more and counts as full. Else prove '..UptoSaid'. A law counts once. -/
mutual
def uptoBulk {H : Type} : DataW H → Nat
  | .lit (.string bytes) => bytes.length + 1
  | .lit _ => 1
  | .nil => 1
  | .ptr d => uptoBulk d + 1
  | .slice elems spare => uptoBulkAll elems + uptoBulkAll spare + 1
  | .agg parts => uptoBulkAll parts + 1
  | .iface _ d => uptoBulk d + 1
  | .map entries => uptoBulkEntries entries + 1
  | .held _ => 1
def uptoBulkAll {H : Type} : List (DataW H) → Nat
  | [] => 0
  | d :: r => uptoBulk d + uptoBulkAll r
def uptoBulkEntries {H : Type} : List (Lit × DataW H) → Nat
  | [] => 0
  | x :: r => uptoBulkEntry x + uptoBulkEntries r
def uptoBulkEntry {H : Type} : Lit × DataW H → Nat
  | (.string bytes, d) => bytes.length + uptoBulk d + 1
  | (_, d) => uptoBulk d + 1
 end
def uptoSmall : (H : Type) → List (DataW H) → Bool := fun _ ds => decide (uptoBulkAll ds ≤ 1048576)
def OpenSpec.upto (s : _root_.Go.ChangeSpec) : _root_.Go.OpenSpec := { _root_.Go.OpenSpec.ofChange s with cond := some uptoSmall }

/-- 'catacomblaw20.FedAsOne', WHERE WHAT IT READS IS OF BULK AT MOST 1048576: true; the input reads as it did. -/
def fedAsOneUptoRow : OpenClaim := { program := "ytcbopkblmebjiaagreatdoor", sum := "c735bc7328a72739e5d475a4388cd6aaa7f5dc85b9deab85bd35f04639c3a603", func := "catacomb/catacomblaw20.FedAsOne", spec := "fedAsOne", inPlace := ["internal/abi.NoEscape", "internal/bytealg.MakeNoZero", "internal/bytealg.IndexByteString", "internal/bytealg.abigen_runtime_cmpstring", "slices.overlaps[catacomb/api.Node]", "slices.overlaps[catacomb/api.Ent]", "internal/reflectlite.ValueOf", "(internal/reflectlite.Value).Type", "(internal/reflectlite.Value).IsNil", "internal/reflectlite.TypeOf", "(internal/reflectlite.Value).Elem", "(internal/reflectlite.Value).Set", "slices.overlaps[catacomb/api.Piece]"], unfollowed := true, recurses := true, named := ["errors.errorType"], apart := false, laid := [("errors.errorType", laid_errors_errorType)], narrowed := true }
def FedAsOneUptoSaid : Prop := fedAsOneUptoRow.holds Tryz.pinned (OpenSpec.upto fedAsOneSpec)

/-- 'catacomblaw20.FedAlone', WHERE WHAT IT READS IS OF BULK AT MOST 1048576: true; the input reads as it did. -/
def fedAloneUptoRow : OpenClaim := { program := "ytcbopkblmebjiaagreatdoor", sum := "c735bc7328a72739e5d475a4388cd6aaa7f5dc85b9deab85bd35f04639c3a603", func := "catacomb/catacomblaw20.FedAlone", spec := "fedAlone", inPlace := ["internal/abi.NoEscape", "internal/bytealg.MakeNoZero", "internal/bytealg.IndexByteString", "internal/bytealg.abigen_runtime_cmpstring", "slices.overlaps[catacomb/api.Node]", "slices.overlaps[catacomb/api.Ent]", "internal/reflectlite.ValueOf", "(internal/reflectlite.Value).Type", "(internal/reflectlite.Value).IsNil", "internal/reflectlite.TypeOf", "(internal/reflectlite.Value).Elem", "(internal/reflectlite.Value).Set", "slices.overlaps[catacomb/api.Piece]"], unfollowed := true, recurses := true, named := ["errors.errorType"], apart := false, laid := [("errors.errorType", laid_errors_errorType)], narrowed := true }
def FedAloneUptoSaid : Prop := fedAloneUptoRow.holds Tryz.pinned (OpenSpec.upto fedAloneSpec)

/-- 'catacomblaw20.FedCross', WHERE WHAT IT READS IS OF BULK AT MOST 1048576: true; the input reads as it did. -/
def fedCrossUptoRow : OpenClaim := { program := "ytcbopkblmebjiaagreatdoor", sum := "c735bc7328a72739e5d475a4388cd6aaa7f5dc85b9deab85bd35f04639c3a603", func := "catacomb/catacomblaw20.FedCross", spec := "fedCross", inPlace := ["internal/abi.NoEscape", "internal/bytealg.MakeNoZero", "internal/bytealg.IndexByteString", "internal/bytealg.abigen_runtime_cmpstring", "slices.overlaps[catacomb/api.Node]", "slices.overlaps[catacomb/api.Ent]", "internal/reflectlite.ValueOf", "(internal/reflectlite.Value).Type", "(internal/reflectlite.Value).IsNil", "internal/reflectlite.TypeOf", "(internal/reflectlite.Value).Elem", "(internal/reflectlite.Value).Set", "slices.overlaps[catacomb/api.Piece]"], unfollowed := true, recurses := true, named := ["errors.errorType"], apart := false, laid := [("errors.errorType", laid_errors_errorType)], narrowed := true }
def FedCrossUptoSaid : Prop := fedCrossUptoRow.holds Tryz.pinned (OpenSpec.upto fedCrossSpec)

/-- 'catacomblaw20.FedAlike', WHERE WHAT IT READS IS OF BULK AT MOST 1048576: true; the input reads as it did. -/
def fedAlikeUptoRow : OpenClaim := { program := "ytcbopkblmebjiaagreatdoor", sum := "c735bc7328a72739e5d475a4388cd6aaa7f5dc85b9deab85bd35f04639c3a603", func := "catacomb/catacomblaw20.FedAlike", spec := "fedAlike", inPlace := ["internal/abi.NoEscape", "internal/bytealg.MakeNoZero", "internal/bytealg.IndexByteString", "internal/bytealg.abigen_runtime_cmpstring", "slices.overlaps[catacomb/api.Node]", "slices.overlaps[catacomb/api.Ent]", "internal/reflectlite.ValueOf", "(internal/reflectlite.Value).Type", "(internal/reflectlite.Value).IsNil", "internal/reflectlite.TypeOf", "(internal/reflectlite.Value).Elem", "(internal/reflectlite.Value).Set", "slices.overlaps[catacomb/api.Piece]"], unfollowed := true, recurses := true, named := ["errors.errorType"], apart := false, laid := [("errors.errorType", laid_errors_errorType)], narrowed := true }
def FedAlikeUptoSaid : Prop := fedAlikeUptoRow.holds Tryz.pinned (OpenSpec.upto fedAlikeSpec)

/-- 'catacomblaw20.FedTells', WHERE WHAT IT READS IS OF BULK AT MOST 1048576: true; the input reads as it did. -/
def fedTellsUptoRow : OpenClaim := { program := "ytcbopkblmebjiaagreatdoor", sum := "c735bc7328a72739e5d475a4388cd6aaa7f5dc85b9deab85bd35f04639c3a603", func := "catacomb/catacomblaw20.FedTells", spec := "fedTells", inPlace := ["internal/abi.NoEscape", "internal/bytealg.MakeNoZero", "internal/bytealg.IndexByteString", "internal/bytealg.abigen_runtime_cmpstring", "slices.overlaps[catacomb/api.Node]", "slices.overlaps[catacomb/api.Ent]", "internal/reflectlite.ValueOf", "(internal/reflectlite.Value).Type", "(internal/reflectlite.Value).IsNil", "internal/reflectlite.TypeOf", "(internal/reflectlite.Value).Elem", "(internal/reflectlite.Value).Set", "slices.overlaps[catacomb/api.Piece]"], unfollowed := true, recurses := true, named := ["errors.errorType"], apart := false, laid := [("errors.errorType", laid_errors_errorType)], narrowed := true }
def FedTellsUptoSaid : Prop := fedTellsUptoRow.holds Tryz.pinned (OpenSpec.upto fedTellsSpec)

/-- 'catacomblaw20.FedRight', WHERE WHAT IT READS IS OF BULK AT MOST 1048576: true; the input reads as it did. -/
def fedRightUptoRow : OpenClaim := { program := "ytcbopkblmebjiaagreatdoor", sum := "c735bc7328a72739e5d475a4388cd6aaa7f5dc85b9deab85bd35f04639c3a603", func := "catacomb/catacomblaw20.FedRight", spec := "fedRight", inPlace := ["internal/abi.NoEscape", "internal/bytealg.MakeNoZero", "internal/bytealg.IndexByteString", "internal/bytealg.abigen_runtime_cmpstring", "slices.overlaps[catacomb/api.Node]", "slices.overlaps[catacomb/api.Ent]", "internal/reflectlite.ValueOf", "(internal/reflectlite.Value).Type", "(internal/reflectlite.Value).IsNil", "internal/reflectlite.TypeOf", "(internal/reflectlite.Value).Elem", "(internal/reflectlite.Value).Set", "slices.overlaps[catacomb/api.Piece]"], unfollowed := true, recurses := true, named := ["errors.errorType"], apart := false, laid := [("errors.errorType", laid_errors_errorType)], narrowed := true }
def FedRightUptoSaid : Prop := fedRightUptoRow.holds Tryz.pinned (OpenSpec.upto fedRightSpec)

/-- 'catacomblaw20.FedMoved', WHERE WHAT IT READS IS OF BULK AT MOST 1048576: true; the input reads as it did. -/
def fedMovedUptoRow : OpenClaim := { program := "ytcbopkblmebjiaagreatdoor", sum := "c735bc7328a72739e5d475a4388cd6aaa7f5dc85b9deab85bd35f04639c3a603", func := "catacomb/catacomblaw20.FedMoved", spec := "fedMoved", inPlace := ["internal/abi.NoEscape", "internal/bytealg.MakeNoZero", "internal/bytealg.IndexByteString", "internal/bytealg.abigen_runtime_cmpstring", "slices.overlaps[catacomb/api.Node]", "slices.overlaps[catacomb/api.Ent]", "internal/reflectlite.ValueOf", "(internal/reflectlite.Value).Type", "(internal/reflectlite.Value).IsNil", "internal/reflectlite.TypeOf", "(internal/reflectlite.Value).Elem", "(internal/reflectlite.Value).Set", "slices.overlaps[catacomb/api.Piece]"], unfollowed := true, recurses := true, named := ["errors.errorType"], apart := false, laid := [("errors.errorType", laid_errors_errorType)], narrowed := true }
def FedMovedUptoSaid : Prop := fedMovedUptoRow.holds Tryz.pinned (OpenSpec.upto fedMovedSpec)

/-- 'catacomblaw20.FedRow', WHERE WHAT IT READS IS OF BULK AT MOST 1048576: true; the input reads as it did. -/
def fedRowUptoRow : OpenClaim := { program := "ytcbopkblmebjiaagreatdoor", sum := "c735bc7328a72739e5d475a4388cd6aaa7f5dc85b9deab85bd35f04639c3a603", func := "catacomb/catacomblaw20.FedRow", spec := "fedRow", inPlace := ["internal/abi.NoEscape", "internal/bytealg.MakeNoZero", "internal/bytealg.IndexByteString", "internal/bytealg.abigen_runtime_cmpstring", "slices.overlaps[catacomb/api.Node]", "slices.overlaps[catacomb/api.Ent]", "internal/reflectlite.ValueOf", "(internal/reflectlite.Value).Type", "(internal/reflectlite.Value).IsNil", "internal/reflectlite.TypeOf", "(internal/reflectlite.Value).Elem", "(internal/reflectlite.Value).Set", "slices.overlaps[catacomb/api.Piece]"], unfollowed := true, recurses := true, named := ["errors.errorType"], apart := false, laid := [("errors.errorType", laid_errors_errorType)], narrowed := true }
def FedRowUptoSaid : Prop := fedRowUptoRow.holds Tryz.pinned (OpenSpec.upto fedRowSpec)

end Rows
end Go.Proofs.YtcbopkblmebjiaaGreatDoor
