/-
  No cell of these rows narrows 'for every input' (looked for: loops, veiled, ifaces, maps, wideKeys, modest, calm, conditions, laid).
  DERIVED. THE GIVEN ROWS OF THIS SEAT. 8 by the template 'for every input the law returns true; each argument reads behind the call as it read before'; 0 by the template 'total and deterministic' (their statements: YtnapockikkbkcaaGreatTotals.lean).
  GIVEN WITH THE SEED: the statements are not yours to turn. If you find one false, say at which input.
  Laid BY PROGRAM, IN A SANDBOX (cutbox-rows.mjs): the forced cells as the released guide's own fill.sh prints them over the translation 0f5db802be784109… (all of the seat's roots in one cut). By AI agents, Wed Nov 11 2026. No macro, syntax, notation, axiom, sorry.
-/
import Derived.Test.YtnapockikkbkcaaGreatChecked
import GoSem.Claim
import GoSem.ClaimJoined
import GoSem.ClaimMapViews
import Derived.JoinedTies
import Derived.KernelRfl
namespace Go.Proofs.YtnapockikkbkcaaGreat
/- THE CELL 'sum', in the pinned program and in every row, IS THE sha256 OF THE DUMP (.gsa) THAT YtnapockikkbkcaaGreatProg.lean LOADS. Nothing in Lean hashes anything: it is a label: what it is worth is what the hold of that sum in a sandbox is worth. -/
noncomputable def Tryz.pinned : Pinned := { name := "ytnapockikkbkcaagreat", sum := "0f5db802be7841092a3546efe8ca0673faa543c9e145871d4c6f4c9095e34fd8", checked := Tryz.checked }
namespace Rows
def none {H : Type} : Left H := { results := [], args := [] }

/-- 'catacomblaw07.TreeMoves': WHATEVER THE INPUT: true; the input reads as it did. -/
def treeMovesSpec : ChangeSpec := { name := "treeMoves", fn := fun _ => fun
  | [d1, d2, d3, d4, d5] => { results := [.lit (.bool true)], args := [d1, d2, d3, d4, d5] }
  | _ => none }
def treeMovesRow : OpenClaim := { program := "ytnapockikkbkcaagreat", sum := "0f5db802be7841092a3546efe8ca0673faa543c9e145871d4c6f4c9095e34fd8", func := "catacomb/catacomblaw07.TreeMoves", spec := "treeMoves", inPlace := ["internal/bytealg.abigen_runtime_cmpstring", "slices.overlaps[catacomb/api.Node]", "slices.overlaps[catacomb/api.Ent]", "internal/bytealg.IndexByteString"], unfollowed := true, recurses := true, apart := false }
def TreeMovesSaid : Prop := treeMovesRow.holds Tryz.pinned (OpenSpec.ofChange treeMovesSpec)

/-- ITS FALSE NEIGHBOUR: 'it returns false'. Refute it at one input. -/
def treeMovesWrong : ChangeSpec := { name := "treeMoves", fn := fun _ => fun
  | [d1, d2, d3, d4, d5] => { results := [.lit (.bool false)], args := [d1, d2, d3, d4, d5] }
  | _ => none }
def TreeMovesWrongFalsely : Prop := treeMovesRow.holds Tryz.pinned (OpenSpec.ofChange treeMovesWrong)

/-- 'catacomblaw07.TreeLoop': WHATEVER THE INPUT: true; the input reads as it did. -/
def treeLoopSpec : ChangeSpec := { name := "treeLoop", fn := fun _ => fun
  | [d1, d2, d3, d4, d5] => { results := [.lit (.bool true)], args := [d1, d2, d3, d4, d5] }
  | _ => none }
def treeLoopRow : OpenClaim := { program := "ytnapockikkbkcaagreat", sum := "0f5db802be7841092a3546efe8ca0673faa543c9e145871d4c6f4c9095e34fd8", func := "catacomb/catacomblaw07.TreeLoop", spec := "treeLoop", inPlace := ["internal/bytealg.abigen_runtime_cmpstring", "slices.overlaps[catacomb/api.Node]", "slices.overlaps[catacomb/api.Ent]", "internal/bytealg.IndexByteString"], unfollowed := true, recurses := true, apart := false }
def TreeLoopSaid : Prop := treeLoopRow.holds Tryz.pinned (OpenSpec.ofChange treeLoopSpec)

/-- ITS FALSE NEIGHBOUR: 'it returns false'. Refute it at one input. -/
def treeLoopWrong : ChangeSpec := { name := "treeLoop", fn := fun _ => fun
  | [d1, d2, d3, d4, d5] => { results := [.lit (.bool false)], args := [d1, d2, d3, d4, d5] }
  | _ => none }
def TreeLoopWrongFalsely : Prop := treeLoopRow.holds Tryz.pinned (OpenSpec.ofChange treeLoopWrong)

/-- 'catacomblaw07.TreeList': WHATEVER THE INPUT: true; the input reads as it did. -/
def treeListSpec : ChangeSpec := { name := "treeList", fn := fun _ => fun
  | [d1, d2, d3, d4] => { results := [.lit (.bool true)], args := [d1, d2, d3, d4] }
  | _ => none }
def treeListRow : OpenClaim := { program := "ytnapockikkbkcaagreat", sum := "0f5db802be7841092a3546efe8ca0673faa543c9e145871d4c6f4c9095e34fd8", func := "catacomb/catacomblaw07.TreeList", spec := "treeList", inPlace := ["internal/bytealg.abigen_runtime_cmpstring", "slices.overlaps[catacomb/api.Node]", "slices.overlaps[catacomb/api.Ent]", "internal/bytealg.IndexByteString"], unfollowed := true, recurses := true, apart := false }
def TreeListSaid : Prop := treeListRow.holds Tryz.pinned (OpenSpec.ofChange treeListSpec)

/-- ITS FALSE NEIGHBOUR: 'it returns false'. Refute it at one input. -/
def treeListWrong : ChangeSpec := { name := "treeList", fn := fun _ => fun
  | [d1, d2, d3, d4] => { results := [.lit (.bool false)], args := [d1, d2, d3, d4] }
  | _ => none }
def TreeListWrongFalsely : Prop := treeListRow.holds Tryz.pinned (OpenSpec.ofChange treeListWrong)

/-- 'catacomblaw07.TreePaths': WHATEVER THE INPUT: true; the input reads as it did. -/
def treePathsSpec : ChangeSpec := { name := "treePaths", fn := fun _ => fun
  | [d1, d2, d3, d4] => { results := [.lit (.bool true)], args := [d1, d2, d3, d4] }
  | _ => none }
def treePathsRow : OpenClaim := { program := "ytnapockikkbkcaagreat", sum := "0f5db802be7841092a3546efe8ca0673faa543c9e145871d4c6f4c9095e34fd8", func := "catacomb/catacomblaw07.TreePaths", spec := "treePaths", inPlace := ["internal/bytealg.abigen_runtime_cmpstring", "slices.overlaps[catacomb/api.Node]", "slices.overlaps[catacomb/api.Ent]", "internal/bytealg.IndexByteString"], unfollowed := true, recurses := true, apart := false }
def TreePathsSaid : Prop := treePathsRow.holds Tryz.pinned (OpenSpec.ofChange treePathsSpec)

/-- ITS FALSE NEIGHBOUR: 'it returns false'. Refute it at one input. -/
def treePathsWrong : ChangeSpec := { name := "treePaths", fn := fun _ => fun
  | [d1, d2, d3, d4] => { results := [.lit (.bool false)], args := [d1, d2, d3, d4] }
  | _ => none }
def TreePathsWrongFalsely : Prop := treePathsRow.holds Tryz.pinned (OpenSpec.ofChange treePathsWrong)

/-- 'catacomblaw07.TreeBack': WHATEVER THE INPUT: true; the input reads as it did. -/
def treeBackSpec : ChangeSpec := { name := "treeBack", fn := fun _ => fun
  | [d1, d2, d3, d4, d5] => { results := [.lit (.bool true)], args := [d1, d2, d3, d4, d5] }
  | _ => none }
def treeBackRow : OpenClaim := { program := "ytnapockikkbkcaagreat", sum := "0f5db802be7841092a3546efe8ca0673faa543c9e145871d4c6f4c9095e34fd8", func := "catacomb/catacomblaw07.TreeBack", spec := "treeBack", inPlace := ["internal/bytealg.abigen_runtime_cmpstring", "slices.overlaps[catacomb/api.Node]", "slices.overlaps[catacomb/api.Ent]", "internal/bytealg.IndexByteString"], unfollowed := true, recurses := true, apart := false }
def TreeBackSaid : Prop := treeBackRow.holds Tryz.pinned (OpenSpec.ofChange treeBackSpec)

/-- ITS FALSE NEIGHBOUR: 'it returns false'. Refute it at one input. -/
def treeBackWrong : ChangeSpec := { name := "treeBack", fn := fun _ => fun
  | [d1, d2, d3, d4, d5] => { results := [.lit (.bool false)], args := [d1, d2, d3, d4, d5] }
  | _ => none }
def TreeBackWrongFalsely : Prop := treeBackRow.holds Tryz.pinned (OpenSpec.ofChange treeBackWrong)

/-- 'catacomblaw07.TreeRight': WHATEVER THE INPUT: true; the input reads as it did. -/
def treeRightSpec : ChangeSpec := { name := "treeRight", fn := fun _ => fun
  | [d1, d2] => { results := [.lit (.bool true)], args := [d1, d2] }
  | _ => none }
def treeRightRow : OpenClaim := { program := "ytnapockikkbkcaagreat", sum := "0f5db802be7841092a3546efe8ca0673faa543c9e145871d4c6f4c9095e34fd8", func := "catacomb/catacomblaw07.TreeRight", spec := "treeRight", inPlace := ["internal/bytealg.abigen_runtime_cmpstring", "slices.overlaps[catacomb/api.Node]", "slices.overlaps[catacomb/api.Ent]", "internal/bytealg.IndexByteString"], unfollowed := true, recurses := true, apart := false }
def TreeRightSaid : Prop := treeRightRow.holds Tryz.pinned (OpenSpec.ofChange treeRightSpec)

/-- ITS FALSE NEIGHBOUR: 'it returns false'. Refute it at one input. -/
def treeRightWrong : ChangeSpec := { name := "treeRight", fn := fun _ => fun
  | [d1, d2] => { results := [.lit (.bool false)], args := [d1, d2] }
  | _ => none }
def TreeRightWrongFalsely : Prop := treeRightRow.holds Tryz.pinned (OpenSpec.ofChange treeRightWrong)

/-- 'catacomblaw07.TreeLinks': WHATEVER THE INPUT: true; the input reads as it did. -/
def treeLinksSpec : ChangeSpec := { name := "treeLinks", fn := fun _ => fun
  | [d1, d2] => { results := [.lit (.bool true)], args := [d1, d2] }
  | _ => none }
def treeLinksRow : OpenClaim := { program := "ytnapockikkbkcaagreat", sum := "0f5db802be7841092a3546efe8ca0673faa543c9e145871d4c6f4c9095e34fd8", func := "catacomb/catacomblaw07.TreeLinks", spec := "treeLinks", inPlace := ["internal/bytealg.abigen_runtime_cmpstring", "slices.overlaps[catacomb/api.Node]", "slices.overlaps[catacomb/api.Ent]", "internal/bytealg.IndexByteString"], unfollowed := true, recurses := true, apart := false }
def TreeLinksSaid : Prop := treeLinksRow.holds Tryz.pinned (OpenSpec.ofChange treeLinksSpec)

/-- ITS FALSE NEIGHBOUR: 'it returns false'. Refute it at one input. -/
def treeLinksWrong : ChangeSpec := { name := "treeLinks", fn := fun _ => fun
  | [d1, d2] => { results := [.lit (.bool false)], args := [d1, d2] }
  | _ => none }
def TreeLinksWrongFalsely : Prop := treeLinksRow.holds Tryz.pinned (OpenSpec.ofChange treeLinksWrong)

/-- 'catacomblaw07.TreeNoLoops': WHATEVER THE INPUT: true; the input reads as it did. -/
def treeNoLoopsSpec : ChangeSpec := { name := "treeNoLoops", fn := fun _ => fun
  | [d1, d2] => { results := [.lit (.bool true)], args := [d1, d2] }
  | _ => none }
def treeNoLoopsRow : OpenClaim := { program := "ytnapockikkbkcaagreat", sum := "0f5db802be7841092a3546efe8ca0673faa543c9e145871d4c6f4c9095e34fd8", func := "catacomb/catacomblaw07.TreeNoLoops", spec := "treeNoLoops", inPlace := ["internal/bytealg.abigen_runtime_cmpstring", "slices.overlaps[catacomb/api.Node]", "slices.overlaps[catacomb/api.Ent]", "internal/bytealg.IndexByteString"], unfollowed := true, recurses := true, apart := false }
def TreeNoLoopsSaid : Prop := treeNoLoopsRow.holds Tryz.pinned (OpenSpec.ofChange treeNoLoopsSpec)

/-- ITS FALSE NEIGHBOUR: 'it returns false'. Refute it at one input. -/
def treeNoLoopsWrong : ChangeSpec := { name := "treeNoLoops", fn := fun _ => fun
  | [d1, d2] => { results := [.lit (.bool false)], args := [d1, d2] }
  | _ => none }
def TreeNoLoopsWrongFalsely : Prop := treeNoLoopsRow.holds Tryz.pinned (OpenSpec.ofChange treeNoLoopsWrong)

/- THE SECOND FORM. 'bulk': how many values and letters a reading holds, each counted each time it is reached (what is shared counts as often as it is met; a slice's spare places count too). A statement '..UptoSaid' is the law's where the arguments, and the package variables that the reading takes, are together of bulk at most 1048576: NARROWER than '..Said'. Prove '..Said' where nothing that the law and all that it calls make is longer than what came in: it says more and counts as full. Else prove '..UptoSaid'. A law counts once. -/
mutual
def uptoBulk {H : Type} : DataW H → Nat
  | .lit (.string bytes) => bytes.length + 1
  | .lit _ => 1
  | .nil => 1
  | .ptr d => uptoBulk d + 1
  | .slice elems spare => uptoBulkAll elems + uptoBulkAll spare + 1
  | .agg parts => uptoBulkAll parts + 1
  | .iface _ d => uptoBulk d + 1
  | .map entries => uptoBulkEntries entries + 1
  | .held _ => 1
def uptoBulkAll {H : Type} : List (DataW H) → Nat
  | [] => 0
  | d :: r => uptoBulk d + uptoBulkAll r
def uptoBulkEntries {H : Type} : List (Lit × DataW H) → Nat
  | [] => 0
  | x :: r => uptoBulkEntry x + uptoBulkEntries r
def uptoBulkEntry {H : Type} : Lit × DataW H → Nat
  | (.string bytes, d) => bytes.length + uptoBulk d + 1
  | (_, d) => uptoBulk d + 1
 end
def uptoSmall : (H : Type) → List (DataW H) → Bool := fun _ ds => decide (uptoBulkAll ds ≤ 1048576)
def OpenSpec.upto (s : _root_.Go.ChangeSpec) : _root_.Go.OpenSpec := { _root_.Go.OpenSpec.ofChange s with cond := some uptoSmall }

/-- 'catacomblaw07.TreeMoves', WHERE WHAT IT READS IS OF BULK AT MOST 1048576: true; the input reads as it did. -/
def treeMovesUptoRow : OpenClaim := { program := "ytnapockikkbkcaagreat", sum := "0f5db802be7841092a3546efe8ca0673faa543c9e145871d4c6f4c9095e34fd8", func := "catacomb/catacomblaw07.TreeMoves", spec := "treeMoves", inPlace := ["internal/bytealg.abigen_runtime_cmpstring", "slices.overlaps[catacomb/api.Node]", "slices.overlaps[catacomb/api.Ent]", "internal/bytealg.IndexByteString"], unfollowed := true, recurses := true, apart := false, narrowed := true }
def TreeMovesUptoSaid : Prop := treeMovesUptoRow.holds Tryz.pinned (OpenSpec.upto treeMovesSpec)

/-- 'catacomblaw07.TreeLoop', WHERE WHAT IT READS IS OF BULK AT MOST 1048576: true; the input reads as it did. -/
def treeLoopUptoRow : OpenClaim := { program := "ytnapockikkbkcaagreat", sum := "0f5db802be7841092a3546efe8ca0673faa543c9e145871d4c6f4c9095e34fd8", func := "catacomb/catacomblaw07.TreeLoop", spec := "treeLoop", inPlace := ["internal/bytealg.abigen_runtime_cmpstring", "slices.overlaps[catacomb/api.Node]", "slices.overlaps[catacomb/api.Ent]", "internal/bytealg.IndexByteString"], unfollowed := true, recurses := true, apart := false, narrowed := true }
def TreeLoopUptoSaid : Prop := treeLoopUptoRow.holds Tryz.pinned (OpenSpec.upto treeLoopSpec)

/-- 'catacomblaw07.TreeList', WHERE WHAT IT READS IS OF BULK AT MOST 1048576: true; the input reads as it did. -/
def treeListUptoRow : OpenClaim := { program := "ytnapockikkbkcaagreat", sum := "0f5db802be7841092a3546efe8ca0673faa543c9e145871d4c6f4c9095e34fd8", func := "catacomb/catacomblaw07.TreeList", spec := "treeList", inPlace := ["internal/bytealg.abigen_runtime_cmpstring", "slices.overlaps[catacomb/api.Node]", "slices.overlaps[catacomb/api.Ent]", "internal/bytealg.IndexByteString"], unfollowed := true, recurses := true, apart := false, narrowed := true }
def TreeListUptoSaid : Prop := treeListUptoRow.holds Tryz.pinned (OpenSpec.upto treeListSpec)

/-- 'catacomblaw07.TreePaths', WHERE WHAT IT READS IS OF BULK AT MOST 1048576: true; the input reads as it did. -/
def treePathsUptoRow : OpenClaim := { program := "ytnapockikkbkcaagreat", sum := "0f5db802be7841092a3546efe8ca0673faa543c9e145871d4c6f4c9095e34fd8", func := "catacomb/catacomblaw07.TreePaths", spec := "treePaths", inPlace := ["internal/bytealg.abigen_runtime_cmpstring", "slices.overlaps[catacomb/api.Node]", "slices.overlaps[catacomb/api.Ent]", "internal/bytealg.IndexByteString"], unfollowed := true, recurses := true, apart := false, narrowed := true }
def TreePathsUptoSaid : Prop := treePathsUptoRow.holds Tryz.pinned (OpenSpec.upto treePathsSpec)

/-- 'catacomblaw07.TreeBack', WHERE WHAT IT READS IS OF BULK AT MOST 1048576: true; the input reads as it did. -/
def treeBackUptoRow : OpenClaim := { program := "ytnapockikkbkcaagreat", sum := "0f5db802be7841092a3546efe8ca0673faa543c9e145871d4c6f4c9095e34fd8", func := "catacomb/catacomblaw07.TreeBack", spec := "treeBack", inPlace := ["internal/bytealg.abigen_runtime_cmpstring", "slices.overlaps[catacomb/api.Node]", "slices.overlaps[catacomb/api.Ent]", "internal/bytealg.IndexByteString"], unfollowed := true, recurses := true, apart := false, narrowed := true }
def TreeBackUptoSaid : Prop := treeBackUptoRow.holds Tryz.pinned (OpenSpec.upto treeBackSpec)

/-- 'catacomblaw07.TreeRight', WHERE WHAT IT READS IS OF BULK AT MOST 1048576: true; the input reads as it did. -/
def treeRightUptoRow : OpenClaim := { program := "ytnapockikkbkcaagreat", sum := "0f5db802be7841092a3546efe8ca0673faa543c9e145871d4c6f4c9095e34fd8", func := "catacomb/catacomblaw07.TreeRight", spec := "treeRight", inPlace := ["internal/bytealg.abigen_runtime_cmpstring", "slices.overlaps[catacomb/api.Node]", "slices.overlaps[catacomb/api.Ent]", "internal/bytealg.IndexByteString"], unfollowed := true, recurses := true, apart := false, narrowed := true }
def TreeRightUptoSaid : Prop := treeRightUptoRow.holds Tryz.pinned (OpenSpec.upto treeRightSpec)

/-- 'catacomblaw07.TreeLinks', WHERE WHAT IT READS IS OF BULK AT MOST 1048576: true; the input reads as it did. -/
def treeLinksUptoRow : OpenClaim := { program := "ytnapockikkbkcaagreat", sum := "0f5db802be7841092a3546efe8ca0673faa543c9e145871d4c6f4c9095e34fd8", func := "catacomb/catacomblaw07.TreeLinks", spec := "treeLinks", inPlace := ["internal/bytealg.abigen_runtime_cmpstring", "slices.overlaps[catacomb/api.Node]", "slices.overlaps[catacomb/api.Ent]", "internal/bytealg.IndexByteString"], unfollowed := true, recurses := true, apart := false, narrowed := true }
def TreeLinksUptoSaid : Prop := treeLinksUptoRow.holds Tryz.pinned (OpenSpec.upto treeLinksSpec)

/-- 'catacomblaw07.TreeNoLoops', WHERE WHAT IT READS IS OF BULK AT MOST 1048576: true; the input reads as it did. -/
def treeNoLoopsUptoRow : OpenClaim := { program := "ytnapockikkbkcaagreat", sum := "0f5db802be7841092a3546efe8ca0673faa543c9e145871d4c6f4c9095e34fd8", func := "catacomb/catacomblaw07.TreeNoLoops", spec := "treeNoLoops", inPlace := ["internal/bytealg.abigen_runtime_cmpstring", "slices.overlaps[catacomb/api.Node]", "slices.overlaps[catacomb/api.Ent]", "internal/bytealg.IndexByteString"], unfollowed := true, recurses := true, apart := false, narrowed := true }
def TreeNoLoopsUptoSaid : Prop := treeNoLoopsUptoRow.holds Tryz.pinned (OpenSpec.upto treeNoLoopsSpec)

end Rows
end Go.Proofs.YtnapockikkbkcaaGreat
