/-
  No cell of these rows narrows 'for every input' (looked for: loops, veiled, ifaces, maps, wideKeys, modest, calm, conditions, laid).
  DERIVED. THE GIVEN ROWS OF THIS SEAT. 8 by the template 'for every input the law returns true; each argument reads behind the call as it read before'; 0 by the template 'total and deterministic' (their statements: YtmifbgccpdmjpaaGreatTotals.lean).
  GIVEN WITH THE SEED: the statements are not yours to turn. If you find one false, say at which input.
  Laid BY PROGRAM, IN A SANDBOX (cutbox-rows.mjs): the forced cells as the released guide's own fill.sh prints them over the translation 75dc9ab545c8ee70… (all of the seat's roots in one cut). By AI agents, Wed Nov 11 2026. No macro, syntax, notation, axiom, sorry.
-/
import Derived.Test.YtmifbgccpdmjpaaGreatChecked
import GoSem.Claim
import GoSem.ClaimJoined
import GoSem.ClaimMapViews
import Derived.JoinedTies
import Derived.KernelRfl
namespace Go.Proofs.YtmifbgccpdmjpaaGreat
/- THE CELL 'sum', in the pinned program and in every row, IS THE sha256 OF THE DUMP (.gsa) THAT YtmifbgccpdmjpaaGreatProg.lean LOADS. Nothing in Lean hashes anything: it is a label: what it is worth is what the hold of that sum in a sandbox is worth. -/
noncomputable def Tryz.pinned : Pinned := { name := "ytmifbgccpdmjpaagreat", sum := "75dc9ab545c8ee70959af68567887c8f63d304b678a1b818d3f66f16e214a571", checked := Tryz.checked }
namespace Rows
def none {H : Type} : Left H := { results := [], args := [] }

/-- 'tyreworkslaw07.MountWays': WHATEVER THE INPUT: true; the input reads as it did. -/
def mountWaysSpec : ChangeSpec := { name := "mountWays", fn := fun _ => fun
  | [d1, d2, d3, d4] => { results := [.lit (.bool true)], args := [d1, d2, d3, d4] }
  | _ => none }
def mountWaysRow : OpenClaim := { program := "ytmifbgccpdmjpaagreat", sum := "75dc9ab545c8ee70959af68567887c8f63d304b678a1b818d3f66f16e214a571", func := "tyreworks/tyreworkslaw07.MountWays", spec := "mountWays", inPlace := ["math/bits.Add64", "math/bits.Sub64", "internal/abi.NoEscape", "internal/bytealg.MakeNoZero", "math.Float64frombits", "math.Float64bits"], unfollowed := true, recurses := true, named := ["math/bits.divideError", "math/bits.overflowError"], plainKeys := false, apart := false }
def MountWaysSaid : Prop := mountWaysRow.holds Tryz.pinned (OpenSpec.ofChange mountWaysSpec)

/-- ITS FALSE NEIGHBOUR: 'it returns false'. Refute it at one input. -/
def mountWaysWrong : ChangeSpec := { name := "mountWays", fn := fun _ => fun
  | [d1, d2, d3, d4] => { results := [.lit (.bool false)], args := [d1, d2, d3, d4] }
  | _ => none }
def MountWaysWrongFalsely : Prop := mountWaysRow.holds Tryz.pinned (OpenSpec.ofChange mountWaysWrong)

/-- 'tyreworkslaw07.MountTable': WHATEVER THE INPUT: true; the input reads as it did. -/
def mountTableSpec : ChangeSpec := { name := "mountTable", fn := fun _ => fun
  | [d1, d2] => { results := [.lit (.bool true)], args := [d1, d2] }
  | _ => none }
def mountTableRow : OpenClaim := { program := "ytmifbgccpdmjpaagreat", sum := "75dc9ab545c8ee70959af68567887c8f63d304b678a1b818d3f66f16e214a571", func := "tyreworks/tyreworkslaw07.MountTable", spec := "mountTable", inPlace := ["math/bits.Add64", "math/bits.Sub64", "internal/abi.NoEscape", "internal/bytealg.MakeNoZero"], unfollowed := true, recurses := true, named := ["math/bits.divideError", "math/bits.overflowError"], plainKeys := false, apart := false }
def MountTableSaid : Prop := mountTableRow.holds Tryz.pinned (OpenSpec.ofChange mountTableSpec)

/-- ITS FALSE NEIGHBOUR: 'it returns false'. Refute it at one input. -/
def mountTableWrong : ChangeSpec := { name := "mountTable", fn := fun _ => fun
  | [d1, d2] => { results := [.lit (.bool false)], args := [d1, d2] }
  | _ => none }
def MountTableWrongFalsely : Prop := mountTableRow.holds Tryz.pinned (OpenSpec.ofChange mountTableWrong)

/-- 'tyreworkslaw07.MountGrades': WHATEVER THE INPUT: true; the input reads as it did. -/
def mountGradesSpec : ChangeSpec := { name := "mountGrades", fn := fun _ => fun
  | [d1, d2, d3, d4] => { results := [.lit (.bool true)], args := [d1, d2, d3, d4] }
  | _ => none }
def mountGradesRow : OpenClaim := { program := "ytmifbgccpdmjpaagreat", sum := "75dc9ab545c8ee70959af68567887c8f63d304b678a1b818d3f66f16e214a571", func := "tyreworks/tyreworkslaw07.MountGrades", spec := "mountGrades", inPlace := ["math/bits.Add64", "math/bits.Sub64", "internal/abi.NoEscape", "internal/bytealg.MakeNoZero"], unfollowed := true, recurses := true, named := ["math/bits.divideError", "math/bits.overflowError"], plainKeys := false, apart := false }
def MountGradesSaid : Prop := mountGradesRow.holds Tryz.pinned (OpenSpec.ofChange mountGradesSpec)

/-- ITS FALSE NEIGHBOUR: 'it returns false'. Refute it at one input. -/
def mountGradesWrong : ChangeSpec := { name := "mountGrades", fn := fun _ => fun
  | [d1, d2, d3, d4] => { results := [.lit (.bool false)], args := [d1, d2, d3, d4] }
  | _ => none }
def MountGradesWrongFalsely : Prop := mountGradesRow.holds Tryz.pinned (OpenSpec.ofChange mountGradesWrong)

/-- 'tyreworkslaw01.ExactReads': WHATEVER THE INPUT: true; the input reads as it did. -/
def exactReadsSpec : ChangeSpec := { name := "exactReads", fn := fun _ => fun
  | [d1, d2] => { results := [.lit (.bool true)], args := [d1, d2] }
  | _ => none }
def exactReadsRow : OpenClaim := { program := "ytmifbgccpdmjpaagreat", sum := "75dc9ab545c8ee70959af68567887c8f63d304b678a1b818d3f66f16e214a571", func := "tyreworks/tyreworkslaw01.ExactReads", spec := "exactReads", inPlace := ["math/bits.Add64", "math/bits.Sub64", "internal/abi.NoEscape", "internal/bytealg.MakeNoZero", "internal/bytealg.IndexByteString", "internal/bytealg.IndexString"], unfollowed := true, recurses := true, named := ["math/bits.divideError", "math/bits.overflowError", "internal/bytealg.MaxLen"], plainKeys := false, apart := false }
def ExactReadsSaid : Prop := exactReadsRow.holds Tryz.pinned (OpenSpec.ofChange exactReadsSpec)

/-- ITS FALSE NEIGHBOUR: 'it returns false'. Refute it at one input. -/
def exactReadsWrong : ChangeSpec := { name := "exactReads", fn := fun _ => fun
  | [d1, d2] => { results := [.lit (.bool false)], args := [d1, d2] }
  | _ => none }
def ExactReadsWrongFalsely : Prop := exactReadsRow.holds Tryz.pinned (OpenSpec.ofChange exactReadsWrong)

/-- 'tyreworkslaw03.OrdersApart': WHATEVER THE INPUT: true; the input reads as it did. -/
def ordersApartSpec : ChangeSpec := { name := "ordersApart", fn := fun _ => fun
  | [d1, d2, d3] => { results := [.lit (.bool true)], args := [d1, d2, d3] }
  | _ => none }
def ordersApartRow : OpenClaim := { program := "ytmifbgccpdmjpaagreat", sum := "75dc9ab545c8ee70959af68567887c8f63d304b678a1b818d3f66f16e214a571", func := "tyreworks/tyreworkslaw03.OrdersApart", spec := "ordersApart", inPlace := ["math/bits.Add64", "math/bits.Sub64", "internal/abi.NoEscape", "internal/bytealg.MakeNoZero"], unfollowed := true, recurses := true, named := ["math/bits.divideError", "math/bits.overflowError"], plainKeys := false, apart := false }
def OrdersApartSaid : Prop := ordersApartRow.holds Tryz.pinned (OpenSpec.ofChange ordersApartSpec)

/-- ITS FALSE NEIGHBOUR: 'it returns false'. Refute it at one input. -/
def ordersApartWrong : ChangeSpec := { name := "ordersApart", fn := fun _ => fun
  | [d1, d2, d3] => { results := [.lit (.bool false)], args := [d1, d2, d3] }
  | _ => none }
def OrdersApartWrongFalsely : Prop := ordersApartRow.holds Tryz.pinned (OpenSpec.ofChange ordersApartWrong)

/-- 'tyreworkslaw06.CureSteady': WHATEVER THE INPUT: true; the input reads as it did. -/
def cureSteadySpec : ChangeSpec := { name := "cureSteady", fn := fun _ => fun
  | [d1, d2, d3] => { results := [.lit (.bool true)], args := [d1, d2, d3] }
  | _ => none }
def cureSteadyRow : OpenClaim := { program := "ytmifbgccpdmjpaagreat", sum := "75dc9ab545c8ee70959af68567887c8f63d304b678a1b818d3f66f16e214a571", func := "tyreworks/tyreworkslaw06.CureSteady", spec := "cureSteady", inPlace := ["math/bits.Add64", "math/bits.Sub64", "internal/abi.NoEscape", "internal/bytealg.MakeNoZero"], unfollowed := true, recurses := true, named := ["math/bits.divideError", "math/bits.overflowError"], plainKeys := false, apart := false }
def CureSteadySaid : Prop := cureSteadyRow.holds Tryz.pinned (OpenSpec.ofChange cureSteadySpec)

/-- ITS FALSE NEIGHBOUR: 'it returns false'. Refute it at one input. -/
def cureSteadyWrong : ChangeSpec := { name := "cureSteady", fn := fun _ => fun
  | [d1, d2, d3] => { results := [.lit (.bool false)], args := [d1, d2, d3] }
  | _ => none }
def CureSteadyWrongFalsely : Prop := cureSteadyRow.holds Tryz.pinned (OpenSpec.ofChange cureSteadyWrong)

/-- 'tyreworkslaw06.CureTraces': WHATEVER THE INPUT: true; the input reads as it did. -/
def cureTracesSpec : ChangeSpec := { name := "cureTraces", fn := fun _ => fun
  | [d1, d2, d3, d4, d5] => { results := [.lit (.bool true)], args := [d1, d2, d3, d4, d5] }
  | _ => none }
def cureTracesRow : OpenClaim := { program := "ytmifbgccpdmjpaagreat", sum := "75dc9ab545c8ee70959af68567887c8f63d304b678a1b818d3f66f16e214a571", func := "tyreworks/tyreworkslaw06.CureTraces", spec := "cureTraces", inPlace := ["math/bits.Add64", "math/bits.Sub64", "internal/abi.NoEscape", "internal/bytealg.MakeNoZero", "math.Float64bits", "math.Float64frombits"], unfollowed := true, recurses := true, named := ["math/bits.divideError", "math/bits.overflowError"], plainKeys := false, apart := false }
def CureTracesSaid : Prop := cureTracesRow.holds Tryz.pinned (OpenSpec.ofChange cureTracesSpec)

/-- ITS FALSE NEIGHBOUR: 'it returns false'. Refute it at one input. -/
def cureTracesWrong : ChangeSpec := { name := "cureTraces", fn := fun _ => fun
  | [d1, d2, d3, d4, d5] => { results := [.lit (.bool false)], args := [d1, d2, d3, d4, d5] }
  | _ => none }
def CureTracesWrongFalsely : Prop := cureTracesRow.holds Tryz.pinned (OpenSpec.ofChange cureTracesWrong)

/-- 'tyreworkslaw06.CureThermocouples': WHATEVER THE INPUT: true; the input reads as it did. -/
def cureThermocouplesSpec : ChangeSpec := { name := "cureThermocouples", fn := fun _ => fun
  | [d1, d2, d3, d4, d5, d6, d7, d8] => { results := [.lit (.bool true)], args := [d1, d2, d3, d4, d5, d6, d7, d8] }
  | _ => none }
def cureThermocouplesRow : OpenClaim := { program := "ytmifbgccpdmjpaagreat", sum := "75dc9ab545c8ee70959af68567887c8f63d304b678a1b818d3f66f16e214a571", func := "tyreworks/tyreworkslaw06.CureThermocouples", spec := "cureThermocouples", inPlace := ["math/bits.Add64", "math/bits.Sub64", "internal/abi.NoEscape", "internal/bytealg.MakeNoZero", "math.Float64frombits", "math.Float64bits"], unfollowed := true, recurses := true, named := ["math/bits.divideError", "math/bits.overflowError"], plainKeys := false, apart := false }
def CureThermocouplesSaid : Prop := cureThermocouplesRow.holds Tryz.pinned (OpenSpec.ofChange cureThermocouplesSpec)

/-- ITS FALSE NEIGHBOUR: 'it returns false'. Refute it at one input. -/
def cureThermocouplesWrong : ChangeSpec := { name := "cureThermocouples", fn := fun _ => fun
  | [d1, d2, d3, d4, d5, d6, d7, d8] => { results := [.lit (.bool false)], args := [d1, d2, d3, d4, d5, d6, d7, d8] }
  | _ => none }
def CureThermocouplesWrongFalsely : Prop := cureThermocouplesRow.holds Tryz.pinned (OpenSpec.ofChange cureThermocouplesWrong)

/- THE SECOND FORM. 'bulk': how many values and letters a reading holds, each counted each time it is reached (what is shared counts as often as it is met; a slice's spare places count too). A statement '..UptoSaid' is the law's where the arguments, and the package variables that the reading takes, are together of bulk at most 1048576: NARROWER than '..Said'. Prove '..Said' where nothing that the law and all that it calls make is longer than what came in: it says more and counts as full. Else prove '..UptoSaid'. A law counts once. -/
mutual
def uptoBulk {H : Type} : DataW H → Nat
  | .lit (.string bytes) => bytes.length + 1
  | .lit _ => 1
  | .nil => 1
  | .ptr d => uptoBulk d + 1
  | .slice elems spare => uptoBulkAll elems + uptoBulkAll spare + 1
  | .agg parts => uptoBulkAll parts + 1
  | .iface _ d => uptoBulk d + 1
  | .map entries => uptoBulkEntries entries + 1
  | .held _ => 1
def uptoBulkAll {H : Type} : List (DataW H) → Nat
  | [] => 0
  | d :: r => uptoBulk d + uptoBulkAll r
def uptoBulkEntries {H : Type} : List (Lit × DataW H) → Nat
  | [] => 0
  | x :: r => uptoBulkEntry x + uptoBulkEntries r
def uptoBulkEntry {H : Type} : Lit × DataW H → Nat
  | (.string bytes, d) => bytes.length + uptoBulk d + 1
  | (_, d) => uptoBulk d + 1
 end
def uptoSmall : (H : Type) → List (DataW H) → Bool := fun _ ds => decide (uptoBulkAll ds ≤ 1048576)
def OpenSpec.upto (s : _root_.Go.ChangeSpec) : _root_.Go.OpenSpec := { _root_.Go.OpenSpec.ofChange s with cond := some uptoSmall }

/-- 'tyreworkslaw07.MountWays', WHERE WHAT IT READS IS OF BULK AT MOST 1048576: true; the input reads as it did. -/
def mountWaysUptoRow : OpenClaim := { program := "ytmifbgccpdmjpaagreat", sum := "75dc9ab545c8ee70959af68567887c8f63d304b678a1b818d3f66f16e214a571", func := "tyreworks/tyreworkslaw07.MountWays", spec := "mountWays", inPlace := ["math/bits.Add64", "math/bits.Sub64", "internal/abi.NoEscape", "internal/bytealg.MakeNoZero", "math.Float64frombits", "math.Float64bits"], unfollowed := true, recurses := true, named := ["math/bits.divideError", "math/bits.overflowError"], plainKeys := false, apart := false, narrowed := true }
def MountWaysUptoSaid : Prop := mountWaysUptoRow.holds Tryz.pinned (OpenSpec.upto mountWaysSpec)

/-- 'tyreworkslaw07.MountTable', WHERE WHAT IT READS IS OF BULK AT MOST 1048576: true; the input reads as it did. -/
def mountTableUptoRow : OpenClaim := { program := "ytmifbgccpdmjpaagreat", sum := "75dc9ab545c8ee70959af68567887c8f63d304b678a1b818d3f66f16e214a571", func := "tyreworks/tyreworkslaw07.MountTable", spec := "mountTable", inPlace := ["math/bits.Add64", "math/bits.Sub64", "internal/abi.NoEscape", "internal/bytealg.MakeNoZero"], unfollowed := true, recurses := true, named := ["math/bits.divideError", "math/bits.overflowError"], plainKeys := false, apart := false, narrowed := true }
def MountTableUptoSaid : Prop := mountTableUptoRow.holds Tryz.pinned (OpenSpec.upto mountTableSpec)

/-- 'tyreworkslaw07.MountGrades', WHERE WHAT IT READS IS OF BULK AT MOST 1048576: true; the input reads as it did. -/
def mountGradesUptoRow : OpenClaim := { program := "ytmifbgccpdmjpaagreat", sum := "75dc9ab545c8ee70959af68567887c8f63d304b678a1b818d3f66f16e214a571", func := "tyreworks/tyreworkslaw07.MountGrades", spec := "mountGrades", inPlace := ["math/bits.Add64", "math/bits.Sub64", "internal/abi.NoEscape", "internal/bytealg.MakeNoZero"], unfollowed := true, recurses := true, named := ["math/bits.divideError", "math/bits.overflowError"], plainKeys := false, apart := false, narrowed := true }
def MountGradesUptoSaid : Prop := mountGradesUptoRow.holds Tryz.pinned (OpenSpec.upto mountGradesSpec)

/-- 'tyreworkslaw01.ExactReads', WHERE WHAT IT READS IS OF BULK AT MOST 1048576: true; the input reads as it did. -/
def exactReadsUptoRow : OpenClaim := { program := "ytmifbgccpdmjpaagreat", sum := "75dc9ab545c8ee70959af68567887c8f63d304b678a1b818d3f66f16e214a571", func := "tyreworks/tyreworkslaw01.ExactReads", spec := "exactReads", inPlace := ["math/bits.Add64", "math/bits.Sub64", "internal/abi.NoEscape", "internal/bytealg.MakeNoZero", "internal/bytealg.IndexByteString", "internal/bytealg.IndexString"], unfollowed := true, recurses := true, named := ["math/bits.divideError", "math/bits.overflowError", "internal/bytealg.MaxLen"], plainKeys := false, apart := false, narrowed := true }
def ExactReadsUptoSaid : Prop := exactReadsUptoRow.holds Tryz.pinned (OpenSpec.upto exactReadsSpec)

/-- 'tyreworkslaw03.OrdersApart', WHERE WHAT IT READS IS OF BULK AT MOST 1048576: true; the input reads as it did. -/
def ordersApartUptoRow : OpenClaim := { program := "ytmifbgccpdmjpaagreat", sum := "75dc9ab545c8ee70959af68567887c8f63d304b678a1b818d3f66f16e214a571", func := "tyreworks/tyreworkslaw03.OrdersApart", spec := "ordersApart", inPlace := ["math/bits.Add64", "math/bits.Sub64", "internal/abi.NoEscape", "internal/bytealg.MakeNoZero"], unfollowed := true, recurses := true, named := ["math/bits.divideError", "math/bits.overflowError"], plainKeys := false, apart := false, narrowed := true }
def OrdersApartUptoSaid : Prop := ordersApartUptoRow.holds Tryz.pinned (OpenSpec.upto ordersApartSpec)

/-- 'tyreworkslaw06.CureSteady', WHERE WHAT IT READS IS OF BULK AT MOST 1048576: true; the input reads as it did. -/
def cureSteadyUptoRow : OpenClaim := { program := "ytmifbgccpdmjpaagreat", sum := "75dc9ab545c8ee70959af68567887c8f63d304b678a1b818d3f66f16e214a571", func := "tyreworks/tyreworkslaw06.CureSteady", spec := "cureSteady", inPlace := ["math/bits.Add64", "math/bits.Sub64", "internal/abi.NoEscape", "internal/bytealg.MakeNoZero"], unfollowed := true, recurses := true, named := ["math/bits.divideError", "math/bits.overflowError"], plainKeys := false, apart := false, narrowed := true }
def CureSteadyUptoSaid : Prop := cureSteadyUptoRow.holds Tryz.pinned (OpenSpec.upto cureSteadySpec)

/-- 'tyreworkslaw06.CureTraces', WHERE WHAT IT READS IS OF BULK AT MOST 1048576: true; the input reads as it did. -/
def cureTracesUptoRow : OpenClaim := { program := "ytmifbgccpdmjpaagreat", sum := "75dc9ab545c8ee70959af68567887c8f63d304b678a1b818d3f66f16e214a571", func := "tyreworks/tyreworkslaw06.CureTraces", spec := "cureTraces", inPlace := ["math/bits.Add64", "math/bits.Sub64", "internal/abi.NoEscape", "internal/bytealg.MakeNoZero", "math.Float64bits", "math.Float64frombits"], unfollowed := true, recurses := true, named := ["math/bits.divideError", "math/bits.overflowError"], plainKeys := false, apart := false, narrowed := true }
def CureTracesUptoSaid : Prop := cureTracesUptoRow.holds Tryz.pinned (OpenSpec.upto cureTracesSpec)

/-- 'tyreworkslaw06.CureThermocouples', WHERE WHAT IT READS IS OF BULK AT MOST 1048576: true; the input reads as it did. -/
def cureThermocouplesUptoRow : OpenClaim := { program := "ytmifbgccpdmjpaagreat", sum := "75dc9ab545c8ee70959af68567887c8f63d304b678a1b818d3f66f16e214a571", func := "tyreworks/tyreworkslaw06.CureThermocouples", spec := "cureThermocouples", inPlace := ["math/bits.Add64", "math/bits.Sub64", "internal/abi.NoEscape", "internal/bytealg.MakeNoZero", "math.Float64frombits", "math.Float64bits"], unfollowed := true, recurses := true, named := ["math/bits.divideError", "math/bits.overflowError"], plainKeys := false, apart := false, narrowed := true }
def CureThermocouplesUptoSaid : Prop := cureThermocouplesUptoRow.holds Tryz.pinned (OpenSpec.upto cureThermocouplesSpec)

end Rows
end Go.Proofs.YtmifbgccpdmjpaaGreat
