/-
  NARROWER THAN 'FOR EVERY INPUT', by the rows' own cells (each row's printed sentence says how): HistTells: laid · HistOrders: laid · HistTurned: laid · HistAlone: laid · HistCuts: laid · HistWider: laid.
  DERIVED. THE GIVEN ROWS OF THIS SEAT. 6 by the template 'for every input the law returns true; each argument reads behind the call as it read before'; 0 by the template 'total and deterministic' (their statements: YteoamaffclmdbaaGreatDoorTotals.lean).
  GIVEN WITH THE SEED: the statements are not yours to turn. If you find one false, say at which input.
  Laid BY PROGRAM, IN A SANDBOX (cutbox-rows.mjs): the forced cells as the released guide's own fill.sh prints them over the translation 5e5fc7fe41d37041… (all of the seat's roots in one cut). By AI agents, Wed Nov 11 2026. No macro, syntax, notation, axiom, sorry.
-/
import Derived.Test.YteoamaffclmdbaaGreatDoorChecked
import GoSem.Claim
import GoSem.ClaimJoined
import GoSem.ClaimMapViews
import Derived.JoinedTies
import Derived.KernelRfl
namespace Go.Proofs.YteoamaffclmdbaaGreatDoor
/- THE CELL 'sum', in the pinned program and in every row, IS THE sha256 OF THE DUMP (.gsa) THAT YteoamaffclmdbaaGreatDoorProg.lean LOADS. Nothing in Lean hashes anything: it is a label: what it is worth is what the hold of that sum in a sandbox is worth. -/
noncomputable def Tryz.pinned : Pinned := { name := "yteoamaffclmdbaagreatdoor", sum := "5e5fc7fe41d3704186f599f44a21892936c2f7eeb2fbf1fb213ba93290d02f20", checked := Tryz.checked }
namespace Rows
def none {H : Type} : Left H := { results := [], args := [] }

/- WHAT THE LISTED PACKAGE-LEVEL VARIABLES READ AS WHEN THE CALL BEGINS. Each datum BY PROGRAM (the guide's laid-datum.mjs) off the statement by which the dump's own 'gosem.cut.vars' lays the variable. In a bare row this is a premise. The card (YteoamaffclmdbaaGreatDoorCards.lean) ties it to the program's text. -/
def laid_errors_errorType {H : Type} : DataW H := .iface "internal/reflectlite.rtype" (.agg [.ptr (.lit (.string [101, 114, 114, 111, 114]))])

/-- 'catacomblaw30.HistTells': WHATEVER THE INPUT: true; the input reads as it did. -/
def histTellsSpec : ChangeSpec := { name := "histTells", fn := fun _ => fun
  | [d1, d2, d3, d4, d5] => { results := [.lit (.bool true)], args := [d1, d2, d3, d4, d5] }
  | _ => none }
def histTellsRow : OpenClaim := { program := "yteoamaffclmdbaagreatdoor", sum := "5e5fc7fe41d3704186f599f44a21892936c2f7eeb2fbf1fb213ba93290d02f20", func := "catacomb/catacomblaw30.HistTells", spec := "histTells", inPlace := ["internal/reflectlite.ValueOf", "(internal/reflectlite.Value).Type", "(internal/reflectlite.Value).IsNil", "internal/reflectlite.TypeOf", "(internal/reflectlite.Value).Elem", "(internal/reflectlite.Value).Set", "internal/bytealg.IndexByteString", "internal/bytealg.abigen_runtime_cmpstring", "internal/abi.NoEscape", "internal/bytealg.MakeNoZero", "slices.overlaps[catacomb/api.Node]", "slices.overlaps[catacomb/api.Ent]", "slices.overlaps[catacomb/api.Hold]", "slices.overlaps[catacomb/api.Quota]"], unfollowed := true, recurses := true, named := ["errors.errorType"], apart := false, laid := [("errors.errorType", laid_errors_errorType)] }
def HistTellsSaid : Prop := histTellsRow.holds Tryz.pinned (OpenSpec.ofChange histTellsSpec)

/-- ITS FALSE NEIGHBOUR: 'it returns false'. Refute it at one input. -/
def histTellsWrong : ChangeSpec := { name := "histTells", fn := fun _ => fun
  | [d1, d2, d3, d4, d5] => { results := [.lit (.bool false)], args := [d1, d2, d3, d4, d5] }
  | _ => none }
def HistTellsWrongFalsely : Prop := histTellsRow.holds Tryz.pinned (OpenSpec.ofChange histTellsWrong)

/-- 'catacomblaw30.HistOrders': WHATEVER THE INPUT: true; the input reads as it did. -/
def histOrdersSpec : ChangeSpec := { name := "histOrders", fn := fun _ => fun
  | [d1, d2] => { results := [.lit (.bool true)], args := [d1, d2] }
  | _ => none }
def histOrdersRow : OpenClaim := { program := "yteoamaffclmdbaagreatdoor", sum := "5e5fc7fe41d3704186f599f44a21892936c2f7eeb2fbf1fb213ba93290d02f20", func := "catacomb/catacomblaw30.HistOrders", spec := "histOrders", inPlace := ["internal/reflectlite.ValueOf", "(internal/reflectlite.Value).Type", "(internal/reflectlite.Value).IsNil", "internal/reflectlite.TypeOf", "(internal/reflectlite.Value).Elem", "(internal/reflectlite.Value).Set", "internal/bytealg.IndexByteString", "internal/bytealg.abigen_runtime_cmpstring", "internal/abi.NoEscape", "internal/bytealg.MakeNoZero", "slices.overlaps[catacomb/api.Node]", "slices.overlaps[catacomb/api.Ent]", "slices.overlaps[catacomb/api.Hold]", "slices.overlaps[catacomb/api.Quota]"], unfollowed := true, recurses := true, named := ["errors.errorType"], apart := false, laid := [("errors.errorType", laid_errors_errorType)] }
def HistOrdersSaid : Prop := histOrdersRow.holds Tryz.pinned (OpenSpec.ofChange histOrdersSpec)

/-- ITS FALSE NEIGHBOUR: 'it returns false'. Refute it at one input. -/
def histOrdersWrong : ChangeSpec := { name := "histOrders", fn := fun _ => fun
  | [d1, d2] => { results := [.lit (.bool false)], args := [d1, d2] }
  | _ => none }
def HistOrdersWrongFalsely : Prop := histOrdersRow.holds Tryz.pinned (OpenSpec.ofChange histOrdersWrong)

/-- 'catacomblaw30.HistTurned': WHATEVER THE INPUT: true; the input reads as it did. -/
def histTurnedSpec : ChangeSpec := { name := "histTurned", fn := fun _ => fun
  | [d1, d2, d3, d4] => { results := [.lit (.bool true)], args := [d1, d2, d3, d4] }
  | _ => none }
def histTurnedRow : OpenClaim := { program := "yteoamaffclmdbaagreatdoor", sum := "5e5fc7fe41d3704186f599f44a21892936c2f7eeb2fbf1fb213ba93290d02f20", func := "catacomb/catacomblaw30.HistTurned", spec := "histTurned", inPlace := ["internal/reflectlite.ValueOf", "(internal/reflectlite.Value).Type", "(internal/reflectlite.Value).IsNil", "internal/reflectlite.TypeOf", "(internal/reflectlite.Value).Elem", "(internal/reflectlite.Value).Set", "internal/bytealg.IndexByteString", "internal/bytealg.abigen_runtime_cmpstring", "internal/abi.NoEscape", "internal/bytealg.MakeNoZero", "slices.overlaps[catacomb/api.Node]", "slices.overlaps[catacomb/api.Ent]", "slices.overlaps[catacomb/api.Hold]", "slices.overlaps[catacomb/api.Quota]"], unfollowed := true, recurses := true, named := ["errors.errorType"], apart := false, laid := [("errors.errorType", laid_errors_errorType)] }
def HistTurnedSaid : Prop := histTurnedRow.holds Tryz.pinned (OpenSpec.ofChange histTurnedSpec)

/-- ITS FALSE NEIGHBOUR: 'it returns false'. Refute it at one input. -/
def histTurnedWrong : ChangeSpec := { name := "histTurned", fn := fun _ => fun
  | [d1, d2, d3, d4] => { results := [.lit (.bool false)], args := [d1, d2, d3, d4] }
  | _ => none }
def HistTurnedWrongFalsely : Prop := histTurnedRow.holds Tryz.pinned (OpenSpec.ofChange histTurnedWrong)

/-- 'catacomblaw30.HistAlone': WHATEVER THE INPUT: true; the input reads as it did. -/
def histAloneSpec : ChangeSpec := { name := "histAlone", fn := fun _ => fun
  | [d1, d2, d3, d4] => { results := [.lit (.bool true)], args := [d1, d2, d3, d4] }
  | _ => none }
def histAloneRow : OpenClaim := { program := "yteoamaffclmdbaagreatdoor", sum := "5e5fc7fe41d3704186f599f44a21892936c2f7eeb2fbf1fb213ba93290d02f20", func := "catacomb/catacomblaw30.HistAlone", spec := "histAlone", inPlace := ["internal/reflectlite.ValueOf", "(internal/reflectlite.Value).Type", "(internal/reflectlite.Value).IsNil", "internal/reflectlite.TypeOf", "(internal/reflectlite.Value).Elem", "(internal/reflectlite.Value).Set", "internal/bytealg.IndexByteString", "internal/bytealg.abigen_runtime_cmpstring", "internal/abi.NoEscape", "internal/bytealg.MakeNoZero", "slices.overlaps[catacomb/api.Node]", "slices.overlaps[catacomb/api.Ent]", "slices.overlaps[catacomb/api.Hold]", "slices.overlaps[catacomb/api.Quota]"], unfollowed := true, recurses := true, named := ["errors.errorType"], apart := false, laid := [("errors.errorType", laid_errors_errorType)] }
def HistAloneSaid : Prop := histAloneRow.holds Tryz.pinned (OpenSpec.ofChange histAloneSpec)

/-- ITS FALSE NEIGHBOUR: 'it returns false'. Refute it at one input. -/
def histAloneWrong : ChangeSpec := { name := "histAlone", fn := fun _ => fun
  | [d1, d2, d3, d4] => { results := [.lit (.bool false)], args := [d1, d2, d3, d4] }
  | _ => none }
def HistAloneWrongFalsely : Prop := histAloneRow.holds Tryz.pinned (OpenSpec.ofChange histAloneWrong)

/-- 'catacomblaw30.HistCuts': WHATEVER THE INPUT: true; the input reads as it did. -/
def histCutsSpec : ChangeSpec := { name := "histCuts", fn := fun _ => fun
  | [d1, d2, d3, d4] => { results := [.lit (.bool true)], args := [d1, d2, d3, d4] }
  | _ => none }
def histCutsRow : OpenClaim := { program := "yteoamaffclmdbaagreatdoor", sum := "5e5fc7fe41d3704186f599f44a21892936c2f7eeb2fbf1fb213ba93290d02f20", func := "catacomb/catacomblaw30.HistCuts", spec := "histCuts", inPlace := ["internal/reflectlite.ValueOf", "(internal/reflectlite.Value).Type", "(internal/reflectlite.Value).IsNil", "internal/reflectlite.TypeOf", "(internal/reflectlite.Value).Elem", "(internal/reflectlite.Value).Set", "internal/bytealg.IndexByteString", "internal/bytealg.abigen_runtime_cmpstring", "internal/abi.NoEscape", "internal/bytealg.MakeNoZero", "slices.overlaps[catacomb/api.Node]", "slices.overlaps[catacomb/api.Ent]", "slices.overlaps[catacomb/api.Hold]", "slices.overlaps[catacomb/api.Quota]"], unfollowed := true, recurses := true, named := ["errors.errorType"], apart := false, laid := [("errors.errorType", laid_errors_errorType)] }
def HistCutsSaid : Prop := histCutsRow.holds Tryz.pinned (OpenSpec.ofChange histCutsSpec)

/-- ITS FALSE NEIGHBOUR: 'it returns false'. Refute it at one input. -/
def histCutsWrong : ChangeSpec := { name := "histCuts", fn := fun _ => fun
  | [d1, d2, d3, d4] => { results := [.lit (.bool false)], args := [d1, d2, d3, d4] }
  | _ => none }
def HistCutsWrongFalsely : Prop := histCutsRow.holds Tryz.pinned (OpenSpec.ofChange histCutsWrong)

/-- 'catacomblaw30.HistWider': WHATEVER THE INPUT: true; the input reads as it did. -/
def histWiderSpec : ChangeSpec := { name := "histWider", fn := fun _ => fun
  | [d1, d2, d3, d4] => { results := [.lit (.bool true)], args := [d1, d2, d3, d4] }
  | _ => none }
def histWiderRow : OpenClaim := { program := "yteoamaffclmdbaagreatdoor", sum := "5e5fc7fe41d3704186f599f44a21892936c2f7eeb2fbf1fb213ba93290d02f20", func := "catacomb/catacomblaw30.HistWider", spec := "histWider", inPlace := ["internal/reflectlite.ValueOf", "(internal/reflectlite.Value).Type", "(internal/reflectlite.Value).IsNil", "internal/reflectlite.TypeOf", "(internal/reflectlite.Value).Elem", "(internal/reflectlite.Value).Set", "internal/bytealg.IndexByteString", "internal/bytealg.abigen_runtime_cmpstring", "internal/abi.NoEscape", "internal/bytealg.MakeNoZero", "slices.overlaps[catacomb/api.Node]", "slices.overlaps[catacomb/api.Ent]", "slices.overlaps[catacomb/api.Hold]", "slices.overlaps[catacomb/api.Quota]"], unfollowed := true, recurses := true, named := ["errors.errorType"], apart := false, laid := [("errors.errorType", laid_errors_errorType)] }
def HistWiderSaid : Prop := histWiderRow.holds Tryz.pinned (OpenSpec.ofChange histWiderSpec)

/-- ITS FALSE NEIGHBOUR: 'it returns false'. Refute it at one input. -/
def histWiderWrong : ChangeSpec := { name := "histWider", fn := fun _ => fun
  | [d1, d2, d3, d4] => { results := [.lit (.bool false)], args := [d1, d2, d3, d4] }
  | _ => none }
def HistWiderWrongFalsely : Prop := histWiderRow.holds Tryz.pinned (OpenSpec.ofChange histWiderWrong)

/- THE SECOND FORM. 'bulk': how many values and letters a reading holds, each counted each time it is reached (what is shared counts as often as it is met; a slice's spare places count too). A statement '..UptoSaid' is the law's where the arguments, and the package variables that the reading takes, are together of bulk at most 1048576: NARROWER than '..Said'. Prove '..Said' where nothing that the law and all that it calls make is longer than what came in: it says more and counts as full. Else prove '..UptoSaid'. A law counts once. -/
mutual
def uptoBulk {H : Type} : DataW H → Nat
  | .lit (.string bytes) => bytes.length + 1
  | .lit _ => 1
  | .nil => 1
  | .ptr d => uptoBulk d + 1
  | .slice elems spare => uptoBulkAll elems + uptoBulkAll spare + 1
  | .agg parts => uptoBulkAll parts + 1
  | .iface _ d => uptoBulk d + 1
  | .map entries => uptoBulkEntries entries + 1
  | .held _ => 1
def uptoBulkAll {H : Type} : List (DataW H) → Nat
  | [] => 0
  | d :: r => uptoBulk d + uptoBulkAll r
def uptoBulkEntries {H : Type} : List (Lit × DataW H) → Nat
  | [] => 0
  | x :: r => uptoBulkEntry x + uptoBulkEntries r
def uptoBulkEntry {H : Type} : Lit × DataW H → Nat
  | (.string bytes, d) => bytes.length + uptoBulk d + 1
  | (_, d) => uptoBulk d + 1
 end
def uptoSmall : (H : Type) → List (DataW H) → Bool := fun _ ds => decide (uptoBulkAll ds ≤ 1048576)
def OpenSpec.upto (s : _root_.Go.ChangeSpec) : _root_.Go.OpenSpec := { _root_.Go.OpenSpec.ofChange s with cond := some uptoSmall }

/-- 'catacomblaw30.HistTells', WHERE WHAT IT READS IS OF BULK AT MOST 1048576: true; the input reads as it did. -/
def histTellsUptoRow : OpenClaim := { program := "yteoamaffclmdbaagreatdoor", sum := "5e5fc7fe41d3704186f599f44a21892936c2f7eeb2fbf1fb213ba93290d02f20", func := "catacomb/catacomblaw30.HistTells", spec := "histTells", inPlace := ["internal/reflectlite.ValueOf", "(internal/reflectlite.Value).Type", "(internal/reflectlite.Value).IsNil", "internal/reflectlite.TypeOf", "(internal/reflectlite.Value).Elem", "(internal/reflectlite.Value).Set", "internal/bytealg.IndexByteString", "internal/bytealg.abigen_runtime_cmpstring", "internal/abi.NoEscape", "internal/bytealg.MakeNoZero", "slices.overlaps[catacomb/api.Node]", "slices.overlaps[catacomb/api.Ent]", "slices.overlaps[catacomb/api.Hold]", "slices.overlaps[catacomb/api.Quota]"], unfollowed := true, recurses := true, named := ["errors.errorType"], apart := false, laid := [("errors.errorType", laid_errors_errorType)], narrowed := true }
def HistTellsUptoSaid : Prop := histTellsUptoRow.holds Tryz.pinned (OpenSpec.upto histTellsSpec)

/-- 'catacomblaw30.HistOrders', WHERE WHAT IT READS IS OF BULK AT MOST 1048576: true; the input reads as it did. -/
def histOrdersUptoRow : OpenClaim := { program := "yteoamaffclmdbaagreatdoor", sum := "5e5fc7fe41d3704186f599f44a21892936c2f7eeb2fbf1fb213ba93290d02f20", func := "catacomb/catacomblaw30.HistOrders", spec := "histOrders", inPlace := ["internal/reflectlite.ValueOf", "(internal/reflectlite.Value).Type", "(internal/reflectlite.Value).IsNil", "internal/reflectlite.TypeOf", "(internal/reflectlite.Value).Elem", "(internal/reflectlite.Value).Set", "internal/bytealg.IndexByteString", "internal/bytealg.abigen_runtime_cmpstring", "internal/abi.NoEscape", "internal/bytealg.MakeNoZero", "slices.overlaps[catacomb/api.Node]", "slices.overlaps[catacomb/api.Ent]", "slices.overlaps[catacomb/api.Hold]", "slices.overlaps[catacomb/api.Quota]"], unfollowed := true, recurses := true, named := ["errors.errorType"], apart := false, laid := [("errors.errorType", laid_errors_errorType)], narrowed := true }
def HistOrdersUptoSaid : Prop := histOrdersUptoRow.holds Tryz.pinned (OpenSpec.upto histOrdersSpec)

/-- 'catacomblaw30.HistTurned', WHERE WHAT IT READS IS OF BULK AT MOST 1048576: true; the input reads as it did. -/
def histTurnedUptoRow : OpenClaim := { program := "yteoamaffclmdbaagreatdoor", sum := "5e5fc7fe41d3704186f599f44a21892936c2f7eeb2fbf1fb213ba93290d02f20", func := "catacomb/catacomblaw30.HistTurned", spec := "histTurned", inPlace := ["internal/reflectlite.ValueOf", "(internal/reflectlite.Value).Type", "(internal/reflectlite.Value).IsNil", "internal/reflectlite.TypeOf", "(internal/reflectlite.Value).Elem", "(internal/reflectlite.Value).Set", "internal/bytealg.IndexByteString", "internal/bytealg.abigen_runtime_cmpstring", "internal/abi.NoEscape", "internal/bytealg.MakeNoZero", "slices.overlaps[catacomb/api.Node]", "slices.overlaps[catacomb/api.Ent]", "slices.overlaps[catacomb/api.Hold]", "slices.overlaps[catacomb/api.Quota]"], unfollowed := true, recurses := true, named := ["errors.errorType"], apart := false, laid := [("errors.errorType", laid_errors_errorType)], narrowed := true }
def HistTurnedUptoSaid : Prop := histTurnedUptoRow.holds Tryz.pinned (OpenSpec.upto histTurnedSpec)

/-- 'catacomblaw30.HistAlone', WHERE WHAT IT READS IS OF BULK AT MOST 1048576: true; the input reads as it did. -/
def histAloneUptoRow : OpenClaim := { program := "yteoamaffclmdbaagreatdoor", sum := "5e5fc7fe41d3704186f599f44a21892936c2f7eeb2fbf1fb213ba93290d02f20", func := "catacomb/catacomblaw30.HistAlone", spec := "histAlone", inPlace := ["internal/reflectlite.ValueOf", "(internal/reflectlite.Value).Type", "(internal/reflectlite.Value).IsNil", "internal/reflectlite.TypeOf", "(internal/reflectlite.Value).Elem", "(internal/reflectlite.Value).Set", "internal/bytealg.IndexByteString", "internal/bytealg.abigen_runtime_cmpstring", "internal/abi.NoEscape", "internal/bytealg.MakeNoZero", "slices.overlaps[catacomb/api.Node]", "slices.overlaps[catacomb/api.Ent]", "slices.overlaps[catacomb/api.Hold]", "slices.overlaps[catacomb/api.Quota]"], unfollowed := true, recurses := true, named := ["errors.errorType"], apart := false, laid := [("errors.errorType", laid_errors_errorType)], narrowed := true }
def HistAloneUptoSaid : Prop := histAloneUptoRow.holds Tryz.pinned (OpenSpec.upto histAloneSpec)

/-- 'catacomblaw30.HistCuts', WHERE WHAT IT READS IS OF BULK AT MOST 1048576: true; the input reads as it did. -/
def histCutsUptoRow : OpenClaim := { program := "yteoamaffclmdbaagreatdoor", sum := "5e5fc7fe41d3704186f599f44a21892936c2f7eeb2fbf1fb213ba93290d02f20", func := "catacomb/catacomblaw30.HistCuts", spec := "histCuts", inPlace := ["internal/reflectlite.ValueOf", "(internal/reflectlite.Value).Type", "(internal/reflectlite.Value).IsNil", "internal/reflectlite.TypeOf", "(internal/reflectlite.Value).Elem", "(internal/reflectlite.Value).Set", "internal/bytealg.IndexByteString", "internal/bytealg.abigen_runtime_cmpstring", "internal/abi.NoEscape", "internal/bytealg.MakeNoZero", "slices.overlaps[catacomb/api.Node]", "slices.overlaps[catacomb/api.Ent]", "slices.overlaps[catacomb/api.Hold]", "slices.overlaps[catacomb/api.Quota]"], unfollowed := true, recurses := true, named := ["errors.errorType"], apart := false, laid := [("errors.errorType", laid_errors_errorType)], narrowed := true }
def HistCutsUptoSaid : Prop := histCutsUptoRow.holds Tryz.pinned (OpenSpec.upto histCutsSpec)

/-- 'catacomblaw30.HistWider', WHERE WHAT IT READS IS OF BULK AT MOST 1048576: true; the input reads as it did. -/
def histWiderUptoRow : OpenClaim := { program := "yteoamaffclmdbaagreatdoor", sum := "5e5fc7fe41d3704186f599f44a21892936c2f7eeb2fbf1fb213ba93290d02f20", func := "catacomb/catacomblaw30.HistWider", spec := "histWider", inPlace := ["internal/reflectlite.ValueOf", "(internal/reflectlite.Value).Type", "(internal/reflectlite.Value).IsNil", "internal/reflectlite.TypeOf", "(internal/reflectlite.Value).Elem", "(internal/reflectlite.Value).Set", "internal/bytealg.IndexByteString", "internal/bytealg.abigen_runtime_cmpstring", "internal/abi.NoEscape", "internal/bytealg.MakeNoZero", "slices.overlaps[catacomb/api.Node]", "slices.overlaps[catacomb/api.Ent]", "slices.overlaps[catacomb/api.Hold]", "slices.overlaps[catacomb/api.Quota]"], unfollowed := true, recurses := true, named := ["errors.errorType"], apart := false, laid := [("errors.errorType", laid_errors_errorType)], narrowed := true }
def HistWiderUptoSaid : Prop := histWiderUptoRow.holds Tryz.pinned (OpenSpec.upto histWiderSpec)

end Rows
end Go.Proofs.YteoamaffclmdbaaGreatDoor
