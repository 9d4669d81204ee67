/-
  No cell of these rows narrows 'for every input' (looked for: loops, veiled, ifaces, maps, wideKeys, modest, calm, conditions, laid).
  DERIVED. THE GIVEN ROWS OF THIS SEAT. 6 by the template 'for every input the law returns true; each argument reads behind the call as it read before'; 0 by the template 'total and deterministic' (their statements: YtampehijkiencaaGreatTotals.lean).
  GIVEN WITH THE SEED: the statements are not yours to turn. If you find one false, say at which input.
  Laid BY PROGRAM, IN A SANDBOX (cutbox-rows.mjs): the forced cells as the released guide's own fill.sh prints them over the translation 9db19a0d4f817eca… (all of the seat's roots in one cut). By AI agents, Wed Nov 11 2026. No macro, syntax, notation, axiom, sorry.
-/
import Derived.Test.YtampehijkiencaaGreatChecked
import GoSem.Claim
import GoSem.ClaimJoined
import GoSem.ClaimMapViews
import Derived.JoinedTies
import Derived.KernelRfl
namespace Go.Proofs.YtampehijkiencaaGreat
/- THE CELL 'sum', in the pinned program and in every row, IS THE sha256 OF THE DUMP (.gsa) THAT YtampehijkiencaaGreatProg.lean LOADS. Nothing in Lean hashes anything: it is a label: what it is worth is what the hold of that sum in a sandbox is worth. -/
noncomputable def Tryz.pinned : Pinned := { name := "ytampehijkiencaagreat", sum := "9db19a0d4f817ecae86f338da2739351c51917a38d947c19074be6fb193e4331", checked := Tryz.checked }
namespace Rows
def none {H : Type} : Left H := { results := [], args := [] }

/-- 'tyreworkslaw06.CureRuns': WHATEVER THE INPUT: true; the input reads as it did. -/
def cureRunsSpec : ChangeSpec := { name := "cureRuns", fn := fun _ => fun
  | [d1, d2, d3, d4] => { results := [.lit (.bool true)], args := [d1, d2, d3, d4] }
  | _ => none }
def cureRunsRow : OpenClaim := { program := "ytampehijkiencaagreat", sum := "9db19a0d4f817ecae86f338da2739351c51917a38d947c19074be6fb193e4331", func := "tyreworks/tyreworkslaw06.CureRuns", spec := "cureRuns", inPlace := ["math/bits.Add64", "math/bits.Sub64", "internal/abi.NoEscape", "internal/bytealg.MakeNoZero"], unfollowed := true, recurses := true, named := ["math/bits.divideError", "math/bits.overflowError"], plainKeys := false, apart := false }
def CureRunsSaid : Prop := cureRunsRow.holds Tryz.pinned (OpenSpec.ofChange cureRunsSpec)

/-- ITS FALSE NEIGHBOUR: 'it returns false'. Refute it at one input. -/
def cureRunsWrong : ChangeSpec := { name := "cureRuns", fn := fun _ => fun
  | [d1, d2, d3, d4] => { results := [.lit (.bool false)], args := [d1, d2, d3, d4] }
  | _ => none }
def CureRunsWrongFalsely : Prop := cureRunsRow.holds Tryz.pinned (OpenSpec.ofChange cureRunsWrong)

/-- 'tyreworkslaw06.CureBetween': WHATEVER THE INPUT: true; the input reads as it did. -/
def cureBetweenSpec : ChangeSpec := { name := "cureBetween", fn := fun _ => fun
  | [d1, d2, d3, d4] => { results := [.lit (.bool true)], args := [d1, d2, d3, d4] }
  | _ => none }
def cureBetweenRow : OpenClaim := { program := "ytampehijkiencaagreat", sum := "9db19a0d4f817ecae86f338da2739351c51917a38d947c19074be6fb193e4331", func := "tyreworks/tyreworkslaw06.CureBetween", spec := "cureBetween", inPlace := ["math/bits.Add64", "math/bits.Sub64", "internal/abi.NoEscape", "internal/bytealg.MakeNoZero"], unfollowed := true, recurses := true, named := ["math/bits.divideError", "math/bits.overflowError"], plainKeys := false, apart := false }
def CureBetweenSaid : Prop := cureBetweenRow.holds Tryz.pinned (OpenSpec.ofChange cureBetweenSpec)

/-- ITS FALSE NEIGHBOUR: 'it returns false'. Refute it at one input. -/
def cureBetweenWrong : ChangeSpec := { name := "cureBetween", fn := fun _ => fun
  | [d1, d2, d3, d4] => { results := [.lit (.bool false)], args := [d1, d2, d3, d4] }
  | _ => none }
def CureBetweenWrongFalsely : Prop := cureBetweenRow.holds Tryz.pinned (OpenSpec.ofChange cureBetweenWrong)

/-- 'tyreworkslaw06.CureValid': WHATEVER THE INPUT: true; the input reads as it did. -/
def cureValidSpec : ChangeSpec := { name := "cureValid", fn := fun _ => fun
  | [d1, d2, d3, d4] => { results := [.lit (.bool true)], args := [d1, d2, d3, d4] }
  | _ => none }
def cureValidRow : OpenClaim := { program := "ytampehijkiencaagreat", sum := "9db19a0d4f817ecae86f338da2739351c51917a38d947c19074be6fb193e4331", func := "tyreworks/tyreworkslaw06.CureValid", spec := "cureValid", inPlace := ["math/bits.Add64", "math/bits.Sub64", "internal/abi.NoEscape", "internal/bytealg.MakeNoZero"], unfollowed := true, recurses := true, named := ["math/bits.divideError", "math/bits.overflowError"], plainKeys := false, apart := false }
def CureValidSaid : Prop := cureValidRow.holds Tryz.pinned (OpenSpec.ofChange cureValidSpec)

/-- ITS FALSE NEIGHBOUR: 'it returns false'. Refute it at one input. -/
def cureValidWrong : ChangeSpec := { name := "cureValid", fn := fun _ => fun
  | [d1, d2, d3, d4] => { results := [.lit (.bool false)], args := [d1, d2, d3, d4] }
  | _ => none }
def CureValidWrongFalsely : Prop := cureValidRow.holds Tryz.pinned (OpenSpec.ofChange cureValidWrong)

/-- 'tyreworkslaw06.CureSteps': WHATEVER THE INPUT: true; the input reads as it did. -/
def cureStepsSpec : ChangeSpec := { name := "cureSteps", fn := fun _ => fun
  | [d1, d2, d3, d4] => { results := [.lit (.bool true)], args := [d1, d2, d3, d4] }
  | _ => none }
def cureStepsRow : OpenClaim := { program := "ytampehijkiencaagreat", sum := "9db19a0d4f817ecae86f338da2739351c51917a38d947c19074be6fb193e4331", func := "tyreworks/tyreworkslaw06.CureSteps", spec := "cureSteps", inPlace := ["math/bits.Add64", "math/bits.Sub64", "internal/abi.NoEscape", "internal/bytealg.MakeNoZero"], unfollowed := true, recurses := true, named := ["math/bits.divideError", "math/bits.overflowError"], plainKeys := false, apart := false }
def CureStepsSaid : Prop := cureStepsRow.holds Tryz.pinned (OpenSpec.ofChange cureStepsSpec)

/-- ITS FALSE NEIGHBOUR: 'it returns false'. Refute it at one input. -/
def cureStepsWrong : ChangeSpec := { name := "cureSteps", fn := fun _ => fun
  | [d1, d2, d3, d4] => { results := [.lit (.bool false)], args := [d1, d2, d3, d4] }
  | _ => none }
def CureStepsWrongFalsely : Prop := cureStepsRow.holds Tryz.pinned (OpenSpec.ofChange cureStepsWrong)

/-- 'tyreworkslaw06.CureHeat': WHATEVER THE INPUT: true; the input reads as it did. -/
def cureHeatSpec : ChangeSpec := { name := "cureHeat", fn := fun _ => fun
  | [d1, d2, d3, d4] => { results := [.lit (.bool true)], args := [d1, d2, d3, d4] }
  | _ => none }
def cureHeatRow : OpenClaim := { program := "ytampehijkiencaagreat", sum := "9db19a0d4f817ecae86f338da2739351c51917a38d947c19074be6fb193e4331", func := "tyreworks/tyreworkslaw06.CureHeat", spec := "cureHeat", inPlace := ["math/bits.Add64", "math/bits.Sub64", "internal/abi.NoEscape", "internal/bytealg.MakeNoZero"], unfollowed := true, recurses := true, named := ["math/bits.divideError", "math/bits.overflowError"], plainKeys := false, apart := false }
def CureHeatSaid : Prop := cureHeatRow.holds Tryz.pinned (OpenSpec.ofChange cureHeatSpec)

/-- ITS FALSE NEIGHBOUR: 'it returns false'. Refute it at one input. -/
def cureHeatWrong : ChangeSpec := { name := "cureHeat", fn := fun _ => fun
  | [d1, d2, d3, d4] => { results := [.lit (.bool false)], args := [d1, d2, d3, d4] }
  | _ => none }
def CureHeatWrongFalsely : Prop := cureHeatRow.holds Tryz.pinned (OpenSpec.ofChange cureHeatWrong)

/-- 'tyreworkslaw06.CureSlabs': WHATEVER THE INPUT: true; the input reads as it did. -/
def cureSlabsSpec : ChangeSpec := { name := "cureSlabs", fn := fun _ => fun
  | [d1, d2, d3, d4] => { results := [.lit (.bool true)], args := [d1, d2, d3, d4] }
  | _ => none }
def cureSlabsRow : OpenClaim := { program := "ytampehijkiencaagreat", sum := "9db19a0d4f817ecae86f338da2739351c51917a38d947c19074be6fb193e4331", func := "tyreworks/tyreworkslaw06.CureSlabs", spec := "cureSlabs", inPlace := ["math/bits.Add64", "math/bits.Sub64", "internal/abi.NoEscape", "internal/bytealg.MakeNoZero"], unfollowed := true, recurses := true, named := ["math/bits.divideError", "math/bits.overflowError"], plainKeys := false, apart := false }
def CureSlabsSaid : Prop := cureSlabsRow.holds Tryz.pinned (OpenSpec.ofChange cureSlabsSpec)

/-- ITS FALSE NEIGHBOUR: 'it returns false'. Refute it at one input. -/
def cureSlabsWrong : ChangeSpec := { name := "cureSlabs", fn := fun _ => fun
  | [d1, d2, d3, d4] => { results := [.lit (.bool false)], args := [d1, d2, d3, d4] }
  | _ => none }
def CureSlabsWrongFalsely : Prop := cureSlabsRow.holds Tryz.pinned (OpenSpec.ofChange cureSlabsWrong)

/- THE SECOND FORM. 'bulk': how many values and letters a reading holds, each counted each time it is reached (what is shared counts as often as it is met; a slice's spare places count too). A statement '..UptoSaid' is the law's where the arguments, and the package variables that the reading takes, are together of bulk at most 1048576: NARROWER than '..Said'. Prove '..Said' where nothing that the law and all that it calls make is longer than what came in: it says more and counts as full. Else prove '..UptoSaid'. A law counts once. -/
mutual
def uptoBulk {H : Type} : DataW H → Nat
  | .lit (.string bytes) => bytes.length + 1
  | .lit _ => 1
  | .nil => 1
  | .ptr d => uptoBulk d + 1
  | .slice elems spare => uptoBulkAll elems + uptoBulkAll spare + 1
  | .agg parts => uptoBulkAll parts + 1
  | .iface _ d => uptoBulk d + 1
  | .map entries => uptoBulkEntries entries + 1
  | .held _ => 1
def uptoBulkAll {H : Type} : List (DataW H) → Nat
  | [] => 0
  | d :: r => uptoBulk d + uptoBulkAll r
def uptoBulkEntries {H : Type} : List (Lit × DataW H) → Nat
  | [] => 0
  | x :: r => uptoBulkEntry x + uptoBulkEntries r
def uptoBulkEntry {H : Type} : Lit × DataW H → Nat
  | (.string bytes, d) => bytes.length + uptoBulk d + 1
  | (_, d) => uptoBulk d + 1
 end
def uptoSmall : (H : Type) → List (DataW H) → Bool := fun _ ds => decide (uptoBulkAll ds ≤ 1048576)
def OpenSpec.upto (s : _root_.Go.ChangeSpec) : _root_.Go.OpenSpec := { _root_.Go.OpenSpec.ofChange s with cond := some uptoSmall }

/-- 'tyreworkslaw06.CureRuns', WHERE WHAT IT READS IS OF BULK AT MOST 1048576: true; the input reads as it did. -/
def cureRunsUptoRow : OpenClaim := { program := "ytampehijkiencaagreat", sum := "9db19a0d4f817ecae86f338da2739351c51917a38d947c19074be6fb193e4331", func := "tyreworks/tyreworkslaw06.CureRuns", spec := "cureRuns", inPlace := ["math/bits.Add64", "math/bits.Sub64", "internal/abi.NoEscape", "internal/bytealg.MakeNoZero"], unfollowed := true, recurses := true, named := ["math/bits.divideError", "math/bits.overflowError"], plainKeys := false, apart := false, narrowed := true }
def CureRunsUptoSaid : Prop := cureRunsUptoRow.holds Tryz.pinned (OpenSpec.upto cureRunsSpec)

/-- 'tyreworkslaw06.CureBetween', WHERE WHAT IT READS IS OF BULK AT MOST 1048576: true; the input reads as it did. -/
def cureBetweenUptoRow : OpenClaim := { program := "ytampehijkiencaagreat", sum := "9db19a0d4f817ecae86f338da2739351c51917a38d947c19074be6fb193e4331", func := "tyreworks/tyreworkslaw06.CureBetween", spec := "cureBetween", inPlace := ["math/bits.Add64", "math/bits.Sub64", "internal/abi.NoEscape", "internal/bytealg.MakeNoZero"], unfollowed := true, recurses := true, named := ["math/bits.divideError", "math/bits.overflowError"], plainKeys := false, apart := false, narrowed := true }
def CureBetweenUptoSaid : Prop := cureBetweenUptoRow.holds Tryz.pinned (OpenSpec.upto cureBetweenSpec)

/-- 'tyreworkslaw06.CureValid', WHERE WHAT IT READS IS OF BULK AT MOST 1048576: true; the input reads as it did. -/
def cureValidUptoRow : OpenClaim := { program := "ytampehijkiencaagreat", sum := "9db19a0d4f817ecae86f338da2739351c51917a38d947c19074be6fb193e4331", func := "tyreworks/tyreworkslaw06.CureValid", spec := "cureValid", inPlace := ["math/bits.Add64", "math/bits.Sub64", "internal/abi.NoEscape", "internal/bytealg.MakeNoZero"], unfollowed := true, recurses := true, named := ["math/bits.divideError", "math/bits.overflowError"], plainKeys := false, apart := false, narrowed := true }
def CureValidUptoSaid : Prop := cureValidUptoRow.holds Tryz.pinned (OpenSpec.upto cureValidSpec)

/-- 'tyreworkslaw06.CureSteps', WHERE WHAT IT READS IS OF BULK AT MOST 1048576: true; the input reads as it did. -/
def cureStepsUptoRow : OpenClaim := { program := "ytampehijkiencaagreat", sum := "9db19a0d4f817ecae86f338da2739351c51917a38d947c19074be6fb193e4331", func := "tyreworks/tyreworkslaw06.CureSteps", spec := "cureSteps", inPlace := ["math/bits.Add64", "math/bits.Sub64", "internal/abi.NoEscape", "internal/bytealg.MakeNoZero"], unfollowed := true, recurses := true, named := ["math/bits.divideError", "math/bits.overflowError"], plainKeys := false, apart := false, narrowed := true }
def CureStepsUptoSaid : Prop := cureStepsUptoRow.holds Tryz.pinned (OpenSpec.upto cureStepsSpec)

/-- 'tyreworkslaw06.CureHeat', WHERE WHAT IT READS IS OF BULK AT MOST 1048576: true; the input reads as it did. -/
def cureHeatUptoRow : OpenClaim := { program := "ytampehijkiencaagreat", sum := "9db19a0d4f817ecae86f338da2739351c51917a38d947c19074be6fb193e4331", func := "tyreworks/tyreworkslaw06.CureHeat", spec := "cureHeat", inPlace := ["math/bits.Add64", "math/bits.Sub64", "internal/abi.NoEscape", "internal/bytealg.MakeNoZero"], unfollowed := true, recurses := true, named := ["math/bits.divideError", "math/bits.overflowError"], plainKeys := false, apart := false, narrowed := true }
def CureHeatUptoSaid : Prop := cureHeatUptoRow.holds Tryz.pinned (OpenSpec.upto cureHeatSpec)

/-- 'tyreworkslaw06.CureSlabs', WHERE WHAT IT READS IS OF BULK AT MOST 1048576: true; the input reads as it did. -/
def cureSlabsUptoRow : OpenClaim := { program := "ytampehijkiencaagreat", sum := "9db19a0d4f817ecae86f338da2739351c51917a38d947c19074be6fb193e4331", func := "tyreworks/tyreworkslaw06.CureSlabs", spec := "cureSlabs", inPlace := ["math/bits.Add64", "math/bits.Sub64", "internal/abi.NoEscape", "internal/bytealg.MakeNoZero"], unfollowed := true, recurses := true, named := ["math/bits.divideError", "math/bits.overflowError"], plainKeys := false, apart := false, narrowed := true }
def CureSlabsUptoSaid : Prop := cureSlabsUptoRow.holds Tryz.pinned (OpenSpec.upto cureSlabsSpec)

end Rows
end Go.Proofs.YtampehijkiencaaGreat
