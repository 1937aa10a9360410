/-
  NARROWER THAN 'FOR EVERY INPUT', by the rows' own cells (each row's printed sentence says how): OnceTells: laid · OnceAgain: laid · OnceOnly: laid · OnceGrows: laid · OnceApart: laid · OnceRefused: laid.
  DERIVED. THE GIVEN ROWS OF THIS SEAT. 6 by the template 'for every input the law returns true; each argument reads behind the call as it read before'; 0 by the template 'total and deterministic' (their statements: YtdbadpnkhaepnaaGreatDoorTotals.lean).
  GIVEN WITH THE SEED: the statements are not yours to turn. If you find one false, say at which input.
  Laid BY PROGRAM, IN A SANDBOX (cutbox-rows.mjs): the forced cells as the released guide's own fill.sh prints them over the translation 9a6bdb0a2b807b09… (all of the seat's roots in one cut). By AI agents, Wed Nov 11 2026. No macro, syntax, notation, axiom, sorry.
-/
import Derived.Test.YtdbadpnkhaepnaaGreatDoorChecked
import GoSem.Claim
import GoSem.ClaimJoined
import GoSem.ClaimMapViews
import Derived.JoinedTies
import Derived.KernelRfl
namespace Go.Proofs.YtdbadpnkhaepnaaGreatDoor
/- THE CELL 'sum', in the pinned program and in every row, IS THE sha256 OF THE DUMP (.gsa) THAT YtdbadpnkhaepnaaGreatDoorProg.lean LOADS. Nothing in Lean hashes anything: it is a label: what it is worth is what the hold of that sum in a sandbox is worth. -/
noncomputable def Tryz.pinned : Pinned := { name := "ytdbadpnkhaepnaagreatdoor", sum := "9a6bdb0a2b807b09399c47eecfbe097486a65602ade698e2c9ab0898bf1a215b", checked := Tryz.checked }
namespace Rows
def none {H : Type} : Left H := { results := [], args := [] }

/- WHAT THE LISTED PACKAGE-LEVEL VARIABLES READ AS WHEN THE CALL BEGINS. Each datum BY PROGRAM (the guide's laid-datum.mjs) off the statement by which the dump's own 'gosem.cut.vars' lays the variable. In a bare row this is a premise. The card (YtdbadpnkhaepnaaGreatDoorCards.lean) ties it to the program's text. -/
def laid_errors_errorType {H : Type} : DataW H := .iface "internal/reflectlite.rtype" (.agg [.ptr (.lit (.string [101, 114, 114, 111, 114]))])

/-- 'catacomblaw12.OnceTells': WHATEVER THE INPUT: true; the input reads as it did. -/
def onceTellsSpec : ChangeSpec := { name := "onceTells", fn := fun _ => fun
  | [d1, d2] => { results := [.lit (.bool true)], args := [d1, d2] }
  | _ => none }
def onceTellsRow : OpenClaim := { program := "ytdbadpnkhaepnaagreatdoor", sum := "9a6bdb0a2b807b09399c47eecfbe097486a65602ade698e2c9ab0898bf1a215b", func := "catacomb/catacomblaw12.OnceTells", spec := "onceTells", inPlace := ["internal/reflectlite.ValueOf", "(internal/reflectlite.Value).Type", "(internal/reflectlite.Value).IsNil", "internal/reflectlite.TypeOf", "(internal/reflectlite.Value).Elem", "(internal/reflectlite.Value).Set", "internal/bytealg.IndexByteString", "internal/bytealg.abigen_runtime_cmpstring", "internal/abi.NoEscape", "internal/bytealg.MakeNoZero", "slices.overlaps[catacomb/api.Node]", "slices.overlaps[catacomb/api.Ent]", "slices.overlaps[catacomb/api.Hold]", "slices.overlaps[catacomb/api.Quota]", "slices.overlaps[catacomb/api.Sess]"], unfollowed := true, recurses := true, named := ["errors.errorType"], apart := false, laid := [("errors.errorType", laid_errors_errorType)] }
def OnceTellsSaid : Prop := onceTellsRow.holds Tryz.pinned (OpenSpec.ofChange onceTellsSpec)

/-- ITS FALSE NEIGHBOUR: 'it returns false'. Refute it at one input. -/
def onceTellsWrong : ChangeSpec := { name := "onceTells", fn := fun _ => fun
  | [d1, d2] => { results := [.lit (.bool false)], args := [d1, d2] }
  | _ => none }
def OnceTellsWrongFalsely : Prop := onceTellsRow.holds Tryz.pinned (OpenSpec.ofChange onceTellsWrong)

/-- 'catacomblaw12.OnceAgain': WHATEVER THE INPUT: true; the input reads as it did. -/
def onceAgainSpec : ChangeSpec := { name := "onceAgain", fn := fun _ => fun
  | [d1, d2] => { results := [.lit (.bool true)], args := [d1, d2] }
  | _ => none }
def onceAgainRow : OpenClaim := { program := "ytdbadpnkhaepnaagreatdoor", sum := "9a6bdb0a2b807b09399c47eecfbe097486a65602ade698e2c9ab0898bf1a215b", func := "catacomb/catacomblaw12.OnceAgain", spec := "onceAgain", inPlace := ["internal/reflectlite.ValueOf", "(internal/reflectlite.Value).Type", "(internal/reflectlite.Value).IsNil", "internal/reflectlite.TypeOf", "(internal/reflectlite.Value).Elem", "(internal/reflectlite.Value).Set", "internal/bytealg.IndexByteString", "internal/bytealg.abigen_runtime_cmpstring", "internal/abi.NoEscape", "internal/bytealg.MakeNoZero", "slices.overlaps[catacomb/api.Node]", "slices.overlaps[catacomb/api.Ent]", "slices.overlaps[catacomb/api.Hold]", "slices.overlaps[catacomb/api.Quota]", "slices.overlaps[catacomb/api.Sess]"], unfollowed := true, recurses := true, named := ["errors.errorType"], apart := false, laid := [("errors.errorType", laid_errors_errorType)] }
def OnceAgainSaid : Prop := onceAgainRow.holds Tryz.pinned (OpenSpec.ofChange onceAgainSpec)

/-- ITS FALSE NEIGHBOUR: 'it returns false'. Refute it at one input. -/
def onceAgainWrong : ChangeSpec := { name := "onceAgain", fn := fun _ => fun
  | [d1, d2] => { results := [.lit (.bool false)], args := [d1, d2] }
  | _ => none }
def OnceAgainWrongFalsely : Prop := onceAgainRow.holds Tryz.pinned (OpenSpec.ofChange onceAgainWrong)

/-- 'catacomblaw12.OnceOnly': WHATEVER THE INPUT: true; the input reads as it did. -/
def onceOnlySpec : ChangeSpec := { name := "onceOnly", fn := fun _ => fun
  | [d1, d2] => { results := [.lit (.bool true)], args := [d1, d2] }
  | _ => none }
def onceOnlyRow : OpenClaim := { program := "ytdbadpnkhaepnaagreatdoor", sum := "9a6bdb0a2b807b09399c47eecfbe097486a65602ade698e2c9ab0898bf1a215b", func := "catacomb/catacomblaw12.OnceOnly", spec := "onceOnly", inPlace := ["internal/reflectlite.ValueOf", "(internal/reflectlite.Value).Type", "(internal/reflectlite.Value).IsNil", "internal/reflectlite.TypeOf", "(internal/reflectlite.Value).Elem", "(internal/reflectlite.Value).Set", "internal/bytealg.IndexByteString", "internal/bytealg.abigen_runtime_cmpstring", "internal/abi.NoEscape", "internal/bytealg.MakeNoZero", "slices.overlaps[catacomb/api.Node]", "slices.overlaps[catacomb/api.Ent]", "slices.overlaps[catacomb/api.Hold]", "slices.overlaps[catacomb/api.Quota]", "slices.overlaps[catacomb/api.Sess]"], unfollowed := true, recurses := true, named := ["errors.errorType"], apart := false, laid := [("errors.errorType", laid_errors_errorType)] }
def OnceOnlySaid : Prop := onceOnlyRow.holds Tryz.pinned (OpenSpec.ofChange onceOnlySpec)

/-- ITS FALSE NEIGHBOUR: 'it returns false'. Refute it at one input. -/
def onceOnlyWrong : ChangeSpec := { name := "onceOnly", fn := fun _ => fun
  | [d1, d2] => { results := [.lit (.bool false)], args := [d1, d2] }
  | _ => none }
def OnceOnlyWrongFalsely : Prop := onceOnlyRow.holds Tryz.pinned (OpenSpec.ofChange onceOnlyWrong)

/-- 'catacomblaw12.OnceGrows': WHATEVER THE INPUT: true; the input reads as it did. -/
def onceGrowsSpec : ChangeSpec := { name := "onceGrows", fn := fun _ => fun
  | [d] => { results := [.lit (.bool true)], args := [d] }
  | _ => none }
def onceGrowsRow : OpenClaim := { program := "ytdbadpnkhaepnaagreatdoor", sum := "9a6bdb0a2b807b09399c47eecfbe097486a65602ade698e2c9ab0898bf1a215b", func := "catacomb/catacomblaw12.OnceGrows", spec := "onceGrows", inPlace := ["internal/reflectlite.ValueOf", "(internal/reflectlite.Value).Type", "(internal/reflectlite.Value).IsNil", "internal/reflectlite.TypeOf", "(internal/reflectlite.Value).Elem", "(internal/reflectlite.Value).Set", "internal/bytealg.IndexByteString", "internal/bytealg.abigen_runtime_cmpstring", "internal/abi.NoEscape", "internal/bytealg.MakeNoZero", "slices.overlaps[catacomb/api.Node]", "slices.overlaps[catacomb/api.Ent]", "slices.overlaps[catacomb/api.Hold]", "slices.overlaps[catacomb/api.Quota]", "slices.overlaps[catacomb/api.Sess]"], unfollowed := true, recurses := true, named := ["errors.errorType"], apart := false, laid := [("errors.errorType", laid_errors_errorType)] }
def OnceGrowsSaid : Prop := onceGrowsRow.holds Tryz.pinned (OpenSpec.ofChange onceGrowsSpec)

/-- ITS FALSE NEIGHBOUR: 'it returns false'. Refute it at one input. -/
def onceGrowsWrong : ChangeSpec := { name := "onceGrows", fn := fun _ => fun
  | [d] => { results := [.lit (.bool false)], args := [d] }
  | _ => none }
def OnceGrowsWrongFalsely : Prop := onceGrowsRow.holds Tryz.pinned (OpenSpec.ofChange onceGrowsWrong)

/-- 'catacomblaw12.OnceApart': WHATEVER THE INPUT: true; the input reads as it did. -/
def onceApartSpec : ChangeSpec := { name := "onceApart", fn := fun _ => fun
  | [d1, d2] => { results := [.lit (.bool true)], args := [d1, d2] }
  | _ => none }
def onceApartRow : OpenClaim := { program := "ytdbadpnkhaepnaagreatdoor", sum := "9a6bdb0a2b807b09399c47eecfbe097486a65602ade698e2c9ab0898bf1a215b", func := "catacomb/catacomblaw12.OnceApart", spec := "onceApart", inPlace := ["internal/reflectlite.ValueOf", "(internal/reflectlite.Value).Type", "(internal/reflectlite.Value).IsNil", "internal/reflectlite.TypeOf", "(internal/reflectlite.Value).Elem", "(internal/reflectlite.Value).Set", "internal/bytealg.IndexByteString", "internal/bytealg.abigen_runtime_cmpstring", "internal/abi.NoEscape", "internal/bytealg.MakeNoZero", "slices.overlaps[catacomb/api.Node]", "slices.overlaps[catacomb/api.Ent]", "slices.overlaps[catacomb/api.Hold]", "slices.overlaps[catacomb/api.Quota]", "slices.overlaps[catacomb/api.Sess]"], unfollowed := true, recurses := true, named := ["errors.errorType"], apart := false, laid := [("errors.errorType", laid_errors_errorType)] }
def OnceApartSaid : Prop := onceApartRow.holds Tryz.pinned (OpenSpec.ofChange onceApartSpec)

/-- ITS FALSE NEIGHBOUR: 'it returns false'. Refute it at one input. -/
def onceApartWrong : ChangeSpec := { name := "onceApart", fn := fun _ => fun
  | [d1, d2] => { results := [.lit (.bool false)], args := [d1, d2] }
  | _ => none }
def OnceApartWrongFalsely : Prop := onceApartRow.holds Tryz.pinned (OpenSpec.ofChange onceApartWrong)

/-- 'catacomblaw12.OnceRefused': WHATEVER THE INPUT: true; the input reads as it did. -/
def onceRefusedSpec : ChangeSpec := { name := "onceRefused", fn := fun _ => fun
  | [d1, d2] => { results := [.lit (.bool true)], args := [d1, d2] }
  | _ => none }
def onceRefusedRow : OpenClaim := { program := "ytdbadpnkhaepnaagreatdoor", sum := "9a6bdb0a2b807b09399c47eecfbe097486a65602ade698e2c9ab0898bf1a215b", func := "catacomb/catacomblaw12.OnceRefused", spec := "onceRefused", inPlace := ["internal/reflectlite.ValueOf", "(internal/reflectlite.Value).Type", "(internal/reflectlite.Value).IsNil", "internal/reflectlite.TypeOf", "(internal/reflectlite.Value).Elem", "(internal/reflectlite.Value).Set", "internal/bytealg.IndexByteString", "internal/bytealg.abigen_runtime_cmpstring", "internal/abi.NoEscape", "internal/bytealg.MakeNoZero", "slices.overlaps[catacomb/api.Node]", "slices.overlaps[catacomb/api.Ent]", "slices.overlaps[catacomb/api.Hold]", "slices.overlaps[catacomb/api.Quota]", "slices.overlaps[catacomb/api.Sess]"], unfollowed := true, recurses := true, named := ["errors.errorType"], apart := false, laid := [("errors.errorType", laid_errors_errorType)] }
def OnceRefusedSaid : Prop := onceRefusedRow.holds Tryz.pinned (OpenSpec.ofChange onceRefusedSpec)

/-- ITS FALSE NEIGHBOUR: 'it returns false'. Refute it at one input. -/
def onceRefusedWrong : ChangeSpec := { name := "onceRefused", fn := fun _ => fun
  | [d1, d2] => { results := [.lit (.bool false)], args := [d1, d2] }
  | _ => none }
def OnceRefusedWrongFalsely : Prop := onceRefusedRow.holds Tryz.pinned (OpenSpec.ofChange onceRefusedWrong)

/- THE SECOND FORM. 'bulk': how many values and letters a reading holds, each counted each time it is reached (what is shared counts as often as it is met; a slice's spare places count too). A statement '..UptoSaid' is the law's where the arguments, and the package variables that the reading takes, are together of bulk at most 1048576: NARROWER than '..Said'. Prove '..Said' where nothing that the law and all that it calls make is longer than what came in: it says more and counts as full. Else prove '..UptoSaid'. A law counts once. -/
mutual
def uptoBulk {H : Type} : DataW H → Nat
  | .lit (.string bytes) => bytes.length + 1
  | .lit _ => 1
  | .nil => 1
  | .ptr d => uptoBulk d + 1
  | .slice elems spare => uptoBulkAll elems + uptoBulkAll spare + 1
  | .agg parts => uptoBulkAll parts + 1
  | .iface _ d => uptoBulk d + 1
  | .map entries => uptoBulkEntries entries + 1
  | .held _ => 1
def uptoBulkAll {H : Type} : List (DataW H) → Nat
  | [] => 0
  | d :: r => uptoBulk d + uptoBulkAll r
def uptoBulkEntries {H : Type} : List (Lit × DataW H) → Nat
  | [] => 0
  | x :: r => uptoBulkEntry x + uptoBulkEntries r
def uptoBulkEntry {H : Type} : Lit × DataW H → Nat
  | (.string bytes, d) => bytes.length + uptoBulk d + 1
  | (_, d) => uptoBulk d + 1
 end
def uptoSmall : (H : Type) → List (DataW H) → Bool := fun _ ds => decide (uptoBulkAll ds ≤ 1048576)
def OpenSpec.upto (s : _root_.Go.ChangeSpec) : _root_.Go.OpenSpec := { _root_.Go.OpenSpec.ofChange s with cond := some uptoSmall }

/-- 'catacomblaw12.OnceTells', WHERE WHAT IT READS IS OF BULK AT MOST 1048576: true; the input reads as it did. -/
def onceTellsUptoRow : OpenClaim := { program := "ytdbadpnkhaepnaagreatdoor", sum := "9a6bdb0a2b807b09399c47eecfbe097486a65602ade698e2c9ab0898bf1a215b", func := "catacomb/catacomblaw12.OnceTells", spec := "onceTells", inPlace := ["internal/reflectlite.ValueOf", "(internal/reflectlite.Value).Type", "(internal/reflectlite.Value).IsNil", "internal/reflectlite.TypeOf", "(internal/reflectlite.Value).Elem", "(internal/reflectlite.Value).Set", "internal/bytealg.IndexByteString", "internal/bytealg.abigen_runtime_cmpstring", "internal/abi.NoEscape", "internal/bytealg.MakeNoZero", "slices.overlaps[catacomb/api.Node]", "slices.overlaps[catacomb/api.Ent]", "slices.overlaps[catacomb/api.Hold]", "slices.overlaps[catacomb/api.Quota]", "slices.overlaps[catacomb/api.Sess]"], unfollowed := true, recurses := true, named := ["errors.errorType"], apart := false, laid := [("errors.errorType", laid_errors_errorType)], narrowed := true }
def OnceTellsUptoSaid : Prop := onceTellsUptoRow.holds Tryz.pinned (OpenSpec.upto onceTellsSpec)

/-- 'catacomblaw12.OnceAgain', WHERE WHAT IT READS IS OF BULK AT MOST 1048576: true; the input reads as it did. -/
def onceAgainUptoRow : OpenClaim := { program := "ytdbadpnkhaepnaagreatdoor", sum := "9a6bdb0a2b807b09399c47eecfbe097486a65602ade698e2c9ab0898bf1a215b", func := "catacomb/catacomblaw12.OnceAgain", spec := "onceAgain", inPlace := ["internal/reflectlite.ValueOf", "(internal/reflectlite.Value).Type", "(internal/reflectlite.Value).IsNil", "internal/reflectlite.TypeOf", "(internal/reflectlite.Value).Elem", "(internal/reflectlite.Value).Set", "internal/bytealg.IndexByteString", "internal/bytealg.abigen_runtime_cmpstring", "internal/abi.NoEscape", "internal/bytealg.MakeNoZero", "slices.overlaps[catacomb/api.Node]", "slices.overlaps[catacomb/api.Ent]", "slices.overlaps[catacomb/api.Hold]", "slices.overlaps[catacomb/api.Quota]", "slices.overlaps[catacomb/api.Sess]"], unfollowed := true, recurses := true, named := ["errors.errorType"], apart := false, laid := [("errors.errorType", laid_errors_errorType)], narrowed := true }
def OnceAgainUptoSaid : Prop := onceAgainUptoRow.holds Tryz.pinned (OpenSpec.upto onceAgainSpec)

/-- 'catacomblaw12.OnceOnly', WHERE WHAT IT READS IS OF BULK AT MOST 1048576: true; the input reads as it did. -/
def onceOnlyUptoRow : OpenClaim := { program := "ytdbadpnkhaepnaagreatdoor", sum := "9a6bdb0a2b807b09399c47eecfbe097486a65602ade698e2c9ab0898bf1a215b", func := "catacomb/catacomblaw12.OnceOnly", spec := "onceOnly", inPlace := ["internal/reflectlite.ValueOf", "(internal/reflectlite.Value).Type", "(internal/reflectlite.Value).IsNil", "internal/reflectlite.TypeOf", "(internal/reflectlite.Value).Elem", "(internal/reflectlite.Value).Set", "internal/bytealg.IndexByteString", "internal/bytealg.abigen_runtime_cmpstring", "internal/abi.NoEscape", "internal/bytealg.MakeNoZero", "slices.overlaps[catacomb/api.Node]", "slices.overlaps[catacomb/api.Ent]", "slices.overlaps[catacomb/api.Hold]", "slices.overlaps[catacomb/api.Quota]", "slices.overlaps[catacomb/api.Sess]"], unfollowed := true, recurses := true, named := ["errors.errorType"], apart := false, laid := [("errors.errorType", laid_errors_errorType)], narrowed := true }
def OnceOnlyUptoSaid : Prop := onceOnlyUptoRow.holds Tryz.pinned (OpenSpec.upto onceOnlySpec)

/-- 'catacomblaw12.OnceGrows', WHERE WHAT IT READS IS OF BULK AT MOST 1048576: true; the input reads as it did. -/
def onceGrowsUptoRow : OpenClaim := { program := "ytdbadpnkhaepnaagreatdoor", sum := "9a6bdb0a2b807b09399c47eecfbe097486a65602ade698e2c9ab0898bf1a215b", func := "catacomb/catacomblaw12.OnceGrows", spec := "onceGrows", inPlace := ["internal/reflectlite.ValueOf", "(internal/reflectlite.Value).Type", "(internal/reflectlite.Value).IsNil", "internal/reflectlite.TypeOf", "(internal/reflectlite.Value).Elem", "(internal/reflectlite.Value).Set", "internal/bytealg.IndexByteString", "internal/bytealg.abigen_runtime_cmpstring", "internal/abi.NoEscape", "internal/bytealg.MakeNoZero", "slices.overlaps[catacomb/api.Node]", "slices.overlaps[catacomb/api.Ent]", "slices.overlaps[catacomb/api.Hold]", "slices.overlaps[catacomb/api.Quota]", "slices.overlaps[catacomb/api.Sess]"], unfollowed := true, recurses := true, named := ["errors.errorType"], apart := false, laid := [("errors.errorType", laid_errors_errorType)], narrowed := true }
def OnceGrowsUptoSaid : Prop := onceGrowsUptoRow.holds Tryz.pinned (OpenSpec.upto onceGrowsSpec)

/-- 'catacomblaw12.OnceApart', WHERE WHAT IT READS IS OF BULK AT MOST 1048576: true; the input reads as it did. -/
def onceApartUptoRow : OpenClaim := { program := "ytdbadpnkhaepnaagreatdoor", sum := "9a6bdb0a2b807b09399c47eecfbe097486a65602ade698e2c9ab0898bf1a215b", func := "catacomb/catacomblaw12.OnceApart", spec := "onceApart", inPlace := ["internal/reflectlite.ValueOf", "(internal/reflectlite.Value).Type", "(internal/reflectlite.Value).IsNil", "internal/reflectlite.TypeOf", "(internal/reflectlite.Value).Elem", "(internal/reflectlite.Value).Set", "internal/bytealg.IndexByteString", "internal/bytealg.abigen_runtime_cmpstring", "internal/abi.NoEscape", "internal/bytealg.MakeNoZero", "slices.overlaps[catacomb/api.Node]", "slices.overlaps[catacomb/api.Ent]", "slices.overlaps[catacomb/api.Hold]", "slices.overlaps[catacomb/api.Quota]", "slices.overlaps[catacomb/api.Sess]"], unfollowed := true, recurses := true, named := ["errors.errorType"], apart := false, laid := [("errors.errorType", laid_errors_errorType)], narrowed := true }
def OnceApartUptoSaid : Prop := onceApartUptoRow.holds Tryz.pinned (OpenSpec.upto onceApartSpec)

/-- 'catacomblaw12.OnceRefused', WHERE WHAT IT READS IS OF BULK AT MOST 1048576: true; the input reads as it did. -/
def onceRefusedUptoRow : OpenClaim := { program := "ytdbadpnkhaepnaagreatdoor", sum := "9a6bdb0a2b807b09399c47eecfbe097486a65602ade698e2c9ab0898bf1a215b", func := "catacomb/catacomblaw12.OnceRefused", spec := "onceRefused", inPlace := ["internal/reflectlite.ValueOf", "(internal/reflectlite.Value).Type", "(internal/reflectlite.Value).IsNil", "internal/reflectlite.TypeOf", "(internal/reflectlite.Value).Elem", "(internal/reflectlite.Value).Set", "internal/bytealg.IndexByteString", "internal/bytealg.abigen_runtime_cmpstring", "internal/abi.NoEscape", "internal/bytealg.MakeNoZero", "slices.overlaps[catacomb/api.Node]", "slices.overlaps[catacomb/api.Ent]", "slices.overlaps[catacomb/api.Hold]", "slices.overlaps[catacomb/api.Quota]", "slices.overlaps[catacomb/api.Sess]"], unfollowed := true, recurses := true, named := ["errors.errorType"], apart := false, laid := [("errors.errorType", laid_errors_errorType)], narrowed := true }
def OnceRefusedUptoSaid : Prop := onceRefusedUptoRow.holds Tryz.pinned (OpenSpec.upto onceRefusedSpec)

end Rows
end Go.Proofs.YtdbadpnkhaepnaaGreatDoor
