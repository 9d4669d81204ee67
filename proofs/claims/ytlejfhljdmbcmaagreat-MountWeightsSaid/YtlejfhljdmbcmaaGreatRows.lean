/-
  No cell of these rows narrows 'for every input' (looked for: loops, veiled, ifaces, maps, wideKeys, modest, calm, conditions, laid).
  DERIVED. THE GIVEN ROWS OF THIS SEAT. 6 by the template 'for every input the law returns true; each argument reads behind the call as it read before'; 0 by the template 'total and deterministic' (their statements: YtlejfhljdmbcmaaGreatTotals.lean).
  GIVEN WITH THE SEED: the statements are not yours to turn. If you find one false, say at which input.
  Laid BY PROGRAM, IN A SANDBOX (cutbox-rows.mjs): the forced cells as the released guide's own fill.sh prints them over the translation 67267bea68d786dc… (all of the seat's roots in one cut). By AI agents, Wed Nov 11 2026. No macro, syntax, notation, axiom, sorry.
-/
import Derived.Test.YtlejfhljdmbcmaaGreatChecked
import GoSem.Claim
import GoSem.ClaimJoined
import GoSem.ClaimMapViews
import Derived.JoinedTies
import Derived.KernelRfl
namespace Go.Proofs.YtlejfhljdmbcmaaGreat
/- THE CELL 'sum', in the pinned program and in every row, IS THE sha256 OF THE DUMP (.gsa) THAT YtlejfhljdmbcmaaGreatProg.lean LOADS. Nothing in Lean hashes anything: it is a label: what it is worth is what the hold of that sum in a sandbox is worth. -/
noncomputable def Tryz.pinned : Pinned := { name := "ytlejfhljdmbcmaagreat", sum := "67267bea68d786dc7c2d879ee78b0271cb0dedacca0b260a2a8a19b91d4acec7", checked := Tryz.checked }
namespace Rows
def none {H : Type} : Left H := { results := [], args := [] }

/-- 'tyreworkstop.TopBalanced': WHATEVER THE INPUT: true; the input reads as it did. -/
def topBalancedSpec : ChangeSpec := { name := "topBalanced", fn := fun _ => fun
  | [d1, d2, d3, d4] => { results := [.lit (.bool true)], args := [d1, d2, d3, d4] }
  | _ => none }
def topBalancedRow : OpenClaim := { program := "ytlejfhljdmbcmaagreat", sum := "67267bea68d786dc7c2d879ee78b0271cb0dedacca0b260a2a8a19b91d4acec7", func := "tyreworks/tyreworkstop.TopBalanced", spec := "topBalanced", inPlace := ["math/bits.Add64", "math/bits.Sub64", "internal/abi.NoEscape", "internal/bytealg.MakeNoZero"], unfollowed := true, recurses := true, named := ["math/bits.divideError", "math/bits.overflowError"], apart := false }
def TopBalancedSaid : Prop := topBalancedRow.holds Tryz.pinned (OpenSpec.ofChange topBalancedSpec)

/-- ITS FALSE NEIGHBOUR: 'it returns false'. Refute it at one input. -/
def topBalancedWrong : ChangeSpec := { name := "topBalanced", fn := fun _ => fun
  | [d1, d2, d3, d4] => { results := [.lit (.bool false)], args := [d1, d2, d3, d4] }
  | _ => none }
def TopBalancedWrongFalsely : Prop := topBalancedRow.holds Tryz.pinned (OpenSpec.ofChange topBalancedWrong)

/-- 'tyreworkslaw07.MountTable': WHATEVER THE INPUT: true; the input reads as it did. -/
def mountTableSpec : ChangeSpec := { name := "mountTable", fn := fun _ => fun
  | [d1, d2] => { results := [.lit (.bool true)], args := [d1, d2] }
  | _ => none }
def mountTableRow : OpenClaim := { program := "ytlejfhljdmbcmaagreat", sum := "67267bea68d786dc7c2d879ee78b0271cb0dedacca0b260a2a8a19b91d4acec7", func := "tyreworks/tyreworkslaw07.MountTable", spec := "mountTable", inPlace := ["math/bits.Add64", "math/bits.Sub64", "internal/abi.NoEscape", "internal/bytealg.MakeNoZero"], unfollowed := true, recurses := true, named := ["math/bits.divideError", "math/bits.overflowError"], apart := false }
def MountTableSaid : Prop := mountTableRow.holds Tryz.pinned (OpenSpec.ofChange mountTableSpec)

/-- ITS FALSE NEIGHBOUR: 'it returns false'. Refute it at one input. -/
def mountTableWrong : ChangeSpec := { name := "mountTable", fn := fun _ => fun
  | [d1, d2] => { results := [.lit (.bool false)], args := [d1, d2] }
  | _ => none }
def MountTableWrongFalsely : Prop := mountTableRow.holds Tryz.pinned (OpenSpec.ofChange mountTableWrong)

/-- 'tyreworkslaw07.MountWeights': WHATEVER THE INPUT: true; the input reads as it did. -/
def mountWeightsSpec : ChangeSpec := { name := "mountWeights", fn := fun _ => fun
  | [d1, d2, d3, d4, d5] => { results := [.lit (.bool true)], args := [d1, d2, d3, d4, d5] }
  | _ => none }
def mountWeightsRow : OpenClaim := { program := "ytlejfhljdmbcmaagreat", sum := "67267bea68d786dc7c2d879ee78b0271cb0dedacca0b260a2a8a19b91d4acec7", func := "tyreworks/tyreworkslaw07.MountWeights", spec := "mountWeights", inPlace := ["math/bits.Add64", "math/bits.Sub64", "internal/abi.NoEscape", "internal/bytealg.MakeNoZero"], unfollowed := true, recurses := true, named := ["math/bits.divideError", "math/bits.overflowError"], apart := false }
def MountWeightsSaid : Prop := mountWeightsRow.holds Tryz.pinned (OpenSpec.ofChange mountWeightsSpec)

/-- ITS FALSE NEIGHBOUR: 'it returns false'. Refute it at one input. -/
def mountWeightsWrong : ChangeSpec := { name := "mountWeights", fn := fun _ => fun
  | [d1, d2, d3, d4, d5] => { results := [.lit (.bool false)], args := [d1, d2, d3, d4, d5] }
  | _ => none }
def MountWeightsWrongFalsely : Prop := mountWeightsRow.holds Tryz.pinned (OpenSpec.ofChange mountWeightsWrong)

/-- 'tyreworkslaw07.MountBalances': WHATEVER THE INPUT: true; the input reads as it did. -/
def mountBalancesSpec : ChangeSpec := { name := "mountBalances", fn := fun _ => fun
  | [d1, d2, d3] => { results := [.lit (.bool true)], args := [d1, d2, d3] }
  | _ => none }
def mountBalancesRow : OpenClaim := { program := "ytlejfhljdmbcmaagreat", sum := "67267bea68d786dc7c2d879ee78b0271cb0dedacca0b260a2a8a19b91d4acec7", func := "tyreworks/tyreworkslaw07.MountBalances", spec := "mountBalances", inPlace := ["math/bits.Add64", "math/bits.Sub64", "internal/abi.NoEscape", "internal/bytealg.MakeNoZero"], unfollowed := true, recurses := true, named := ["math/bits.divideError", "math/bits.overflowError"], apart := false }
def MountBalancesSaid : Prop := mountBalancesRow.holds Tryz.pinned (OpenSpec.ofChange mountBalancesSpec)

/-- ITS FALSE NEIGHBOUR: 'it returns false'. Refute it at one input. -/
def mountBalancesWrong : ChangeSpec := { name := "mountBalances", fn := fun _ => fun
  | [d1, d2, d3] => { results := [.lit (.bool false)], args := [d1, d2, d3] }
  | _ => none }
def MountBalancesWrongFalsely : Prop := mountBalancesRow.holds Tryz.pinned (OpenSpec.ofChange mountBalancesWrong)

/-- 'tyreworkslaw07.MountStock': WHATEVER THE INPUT: true; the input reads as it did. -/
def mountStockSpec : ChangeSpec := { name := "mountStock", fn := fun _ => fun
  | [d1, d2, d3, d4, d5] => { results := [.lit (.bool true)], args := [d1, d2, d3, d4, d5] }
  | _ => none }
def mountStockRow : OpenClaim := { program := "ytlejfhljdmbcmaagreat", sum := "67267bea68d786dc7c2d879ee78b0271cb0dedacca0b260a2a8a19b91d4acec7", func := "tyreworks/tyreworkslaw07.MountStock", spec := "mountStock", inPlace := ["math/bits.Add64", "math/bits.Sub64", "internal/abi.NoEscape", "internal/bytealg.MakeNoZero"], unfollowed := true, recurses := true, named := ["math/bits.divideError", "math/bits.overflowError"], apart := false }
def MountStockSaid : Prop := mountStockRow.holds Tryz.pinned (OpenSpec.ofChange mountStockSpec)

/-- ITS FALSE NEIGHBOUR: 'it returns false'. Refute it at one input. -/
def mountStockWrong : ChangeSpec := { name := "mountStock", fn := fun _ => fun
  | [d1, d2, d3, d4, d5] => { results := [.lit (.bool false)], args := [d1, d2, d3, d4, d5] }
  | _ => none }
def MountStockWrongFalsely : Prop := mountStockRow.holds Tryz.pinned (OpenSpec.ofChange mountStockWrong)

/-- 'tyreworkslaw01.ExactReads': WHATEVER THE INPUT: true; the input reads as it did. -/
def exactReadsSpec : ChangeSpec := { name := "exactReads", fn := fun _ => fun
  | [d1, d2] => { results := [.lit (.bool true)], args := [d1, d2] }
  | _ => none }
def exactReadsRow : OpenClaim := { program := "ytlejfhljdmbcmaagreat", sum := "67267bea68d786dc7c2d879ee78b0271cb0dedacca0b260a2a8a19b91d4acec7", func := "tyreworks/tyreworkslaw01.ExactReads", spec := "exactReads", inPlace := ["math/bits.Add64", "math/bits.Sub64", "internal/abi.NoEscape", "internal/bytealg.MakeNoZero", "internal/bytealg.IndexByteString", "internal/bytealg.IndexString"], unfollowed := true, recurses := true, named := ["math/bits.divideError", "math/bits.overflowError", "internal/bytealg.MaxLen"], apart := false }
def ExactReadsSaid : Prop := exactReadsRow.holds Tryz.pinned (OpenSpec.ofChange exactReadsSpec)

/-- ITS FALSE NEIGHBOUR: 'it returns false'. Refute it at one input. -/
def exactReadsWrong : ChangeSpec := { name := "exactReads", fn := fun _ => fun
  | [d1, d2] => { results := [.lit (.bool false)], args := [d1, d2] }
  | _ => none }
def ExactReadsWrongFalsely : Prop := exactReadsRow.holds Tryz.pinned (OpenSpec.ofChange exactReadsWrong)

/- THE SECOND FORM. 'bulk': how many values and letters a reading holds, each counted each time it is reached (what is shared counts as often as it is met; a slice's spare places count too). A statement '..UptoSaid' is the law's where the arguments, and the package variables that the reading takes, are together of bulk at most 1048576: NARROWER than '..Said'. Prove '..Said' where nothing that the law and all that it calls make is longer than what came in: it says more and counts as full. Else prove '..UptoSaid'. A law counts once. -/
mutual
def uptoBulk {H : Type} : DataW H → Nat
  | .lit (.string bytes) => bytes.length + 1
  | .lit _ => 1
  | .nil => 1
  | .ptr d => uptoBulk d + 1
  | .slice elems spare => uptoBulkAll elems + uptoBulkAll spare + 1
  | .agg parts => uptoBulkAll parts + 1
  | .iface _ d => uptoBulk d + 1
  | .map entries => uptoBulkEntries entries + 1
  | .held _ => 1
def uptoBulkAll {H : Type} : List (DataW H) → Nat
  | [] => 0
  | d :: r => uptoBulk d + uptoBulkAll r
def uptoBulkEntries {H : Type} : List (Lit × DataW H) → Nat
  | [] => 0
  | x :: r => uptoBulkEntry x + uptoBulkEntries r
def uptoBulkEntry {H : Type} : Lit × DataW H → Nat
  | (.string bytes, d) => bytes.length + uptoBulk d + 1
  | (_, d) => uptoBulk d + 1
 end
def uptoSmall : (H : Type) → List (DataW H) → Bool := fun _ ds => decide (uptoBulkAll ds ≤ 1048576)
def OpenSpec.upto (s : _root_.Go.ChangeSpec) : _root_.Go.OpenSpec := { _root_.Go.OpenSpec.ofChange s with cond := some uptoSmall }

/-- 'tyreworkstop.TopBalanced', WHERE WHAT IT READS IS OF BULK AT MOST 1048576: true; the input reads as it did. -/
def topBalancedUptoRow : OpenClaim := { program := "ytlejfhljdmbcmaagreat", sum := "67267bea68d786dc7c2d879ee78b0271cb0dedacca0b260a2a8a19b91d4acec7", func := "tyreworks/tyreworkstop.TopBalanced", spec := "topBalanced", inPlace := ["math/bits.Add64", "math/bits.Sub64", "internal/abi.NoEscape", "internal/bytealg.MakeNoZero"], unfollowed := true, recurses := true, named := ["math/bits.divideError", "math/bits.overflowError"], apart := false, narrowed := true }
def TopBalancedUptoSaid : Prop := topBalancedUptoRow.holds Tryz.pinned (OpenSpec.upto topBalancedSpec)

/-- 'tyreworkslaw07.MountTable', WHERE WHAT IT READS IS OF BULK AT MOST 1048576: true; the input reads as it did. -/
def mountTableUptoRow : OpenClaim := { program := "ytlejfhljdmbcmaagreat", sum := "67267bea68d786dc7c2d879ee78b0271cb0dedacca0b260a2a8a19b91d4acec7", func := "tyreworks/tyreworkslaw07.MountTable", spec := "mountTable", inPlace := ["math/bits.Add64", "math/bits.Sub64", "internal/abi.NoEscape", "internal/bytealg.MakeNoZero"], unfollowed := true, recurses := true, named := ["math/bits.divideError", "math/bits.overflowError"], apart := false, narrowed := true }
def MountTableUptoSaid : Prop := mountTableUptoRow.holds Tryz.pinned (OpenSpec.upto mountTableSpec)

/-- 'tyreworkslaw07.MountWeights', WHERE WHAT IT READS IS OF BULK AT MOST 1048576: true; the input reads as it did. -/
def mountWeightsUptoRow : OpenClaim := { program := "ytlejfhljdmbcmaagreat", sum := "67267bea68d786dc7c2d879ee78b0271cb0dedacca0b260a2a8a19b91d4acec7", func := "tyreworks/tyreworkslaw07.MountWeights", spec := "mountWeights", inPlace := ["math/bits.Add64", "math/bits.Sub64", "internal/abi.NoEscape", "internal/bytealg.MakeNoZero"], unfollowed := true, recurses := true, named := ["math/bits.divideError", "math/bits.overflowError"], apart := false, narrowed := true }
def MountWeightsUptoSaid : Prop := mountWeightsUptoRow.holds Tryz.pinned (OpenSpec.upto mountWeightsSpec)

/-- 'tyreworkslaw07.MountBalances', WHERE WHAT IT READS IS OF BULK AT MOST 1048576: true; the input reads as it did. -/
def mountBalancesUptoRow : OpenClaim := { program := "ytlejfhljdmbcmaagreat", sum := "67267bea68d786dc7c2d879ee78b0271cb0dedacca0b260a2a8a19b91d4acec7", func := "tyreworks/tyreworkslaw07.MountBalances", spec := "mountBalances", inPlace := ["math/bits.Add64", "math/bits.Sub64", "internal/abi.NoEscape", "internal/bytealg.MakeNoZero"], unfollowed := true, recurses := true, named := ["math/bits.divideError", "math/bits.overflowError"], apart := false, narrowed := true }
def MountBalancesUptoSaid : Prop := mountBalancesUptoRow.holds Tryz.pinned (OpenSpec.upto mountBalancesSpec)

/-- 'tyreworkslaw07.MountStock', WHERE WHAT IT READS IS OF BULK AT MOST 1048576: true; the input reads as it did. -/
def mountStockUptoRow : OpenClaim := { program := "ytlejfhljdmbcmaagreat", sum := "67267bea68d786dc7c2d879ee78b0271cb0dedacca0b260a2a8a19b91d4acec7", func := "tyreworks/tyreworkslaw07.MountStock", spec := "mountStock", inPlace := ["math/bits.Add64", "math/bits.Sub64", "internal/abi.NoEscape", "internal/bytealg.MakeNoZero"], unfollowed := true, recurses := true, named := ["math/bits.divideError", "math/bits.overflowError"], apart := false, narrowed := true }
def MountStockUptoSaid : Prop := mountStockUptoRow.holds Tryz.pinned (OpenSpec.upto mountStockSpec)

/-- 'tyreworkslaw01.ExactReads', WHERE WHAT IT READS IS OF BULK AT MOST 1048576: true; the input reads as it did. -/
def exactReadsUptoRow : OpenClaim := { program := "ytlejfhljdmbcmaagreat", sum := "67267bea68d786dc7c2d879ee78b0271cb0dedacca0b260a2a8a19b91d4acec7", func := "tyreworks/tyreworkslaw01.ExactReads", spec := "exactReads", inPlace := ["math/bits.Add64", "math/bits.Sub64", "internal/abi.NoEscape", "internal/bytealg.MakeNoZero", "internal/bytealg.IndexByteString", "internal/bytealg.IndexString"], unfollowed := true, recurses := true, named := ["math/bits.divideError", "math/bits.overflowError", "internal/bytealg.MaxLen"], apart := false, narrowed := true }
def ExactReadsUptoSaid : Prop := exactReadsUptoRow.holds Tryz.pinned (OpenSpec.upto exactReadsSpec)

end Rows
end Go.Proofs.YtlejfhljdmbcmaaGreat
