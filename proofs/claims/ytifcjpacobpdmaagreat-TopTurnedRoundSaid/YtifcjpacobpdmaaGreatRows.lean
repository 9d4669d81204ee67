/-
  No cell of these rows narrows 'for every input' (looked for: loops, veiled, ifaces, maps, wideKeys, modest, calm, conditions, laid).
  DERIVED. THE GIVEN ROWS OF THIS SEAT. 7 by the template 'for every input the law returns true; each argument reads behind the call as it read before'; 0 by the template 'total and deterministic' (their statements: YtifcjpacobpdmaaGreatTotals.lean).
  GIVEN WITH THE SEED: the statements are not yours to turn. If you find one false, say at which input.
  Laid BY PROGRAM, IN A SANDBOX (cutbox-rows.mjs): the forced cells as the released guide's own fill.sh prints them over the translation 9704e693759756d0… (all of the seat's roots in one cut). By AI agents, Wed Nov 11 2026. No macro, syntax, notation, axiom, sorry.
-/
import Derived.Test.YtifcjpacobpdmaaGreatChecked
import GoSem.Claim
import GoSem.ClaimJoined
import GoSem.ClaimMapViews
import Derived.JoinedTies
import Derived.KernelRfl
namespace Go.Proofs.YtifcjpacobpdmaaGreat
/- THE CELL 'sum', in the pinned program and in every row, IS THE sha256 OF THE DUMP (.gsa) THAT YtifcjpacobpdmaaGreatProg.lean LOADS. Nothing in Lean hashes anything: it is a label: what it is worth is what the hold of that sum in a sandbox is worth. -/
noncomputable def Tryz.pinned : Pinned := { name := "ytifcjpacobpdmaagreat", sum := "9704e693759756d07ebeec86b4bb352a36cb655b97a2014c9cdf0ed91a93c4d9", checked := Tryz.checked }
namespace Rows
def none {H : Type} : Left H := { results := [], args := [] }

/-- 'tyreworkslaw03.OrdersReports': WHATEVER THE INPUT: true; the input reads as it did. -/
def ordersReportsSpec : ChangeSpec := { name := "ordersReports", fn := fun _ => fun
  | [d] => { results := [.lit (.bool true)], args := [d] }
  | _ => none }
def ordersReportsRow : OpenClaim := { program := "ytifcjpacobpdmaagreat", sum := "9704e693759756d07ebeec86b4bb352a36cb655b97a2014c9cdf0ed91a93c4d9", func := "tyreworks/tyreworkslaw03.OrdersReports", spec := "ordersReports", inPlace := ["math/bits.Add64", "math/bits.Sub64", "math.Float64frombits", "math.Float64bits", "internal/abi.NoEscape", "internal/bytealg.MakeNoZero"], unfollowed := true, recurses := true, named := ["math/bits.divideError", "math/bits.overflowError"], plainKeys := false, apart := false }
def OrdersReportsSaid : Prop := ordersReportsRow.holds Tryz.pinned (OpenSpec.ofChange ordersReportsSpec)

/-- ITS FALSE NEIGHBOUR: 'it returns false'. Refute it at one input. -/
def ordersReportsWrong : ChangeSpec := { name := "ordersReports", fn := fun _ => fun
  | [d] => { results := [.lit (.bool false)], args := [d] }
  | _ => none }
def OrdersReportsWrongFalsely : Prop := ordersReportsRow.holds Tryz.pinned (OpenSpec.ofChange ordersReportsWrong)

/-- 'tyreworkslaw03.OrdersRestores': WHATEVER THE INPUT: true; the input reads as it did. -/
def ordersRestoresSpec : ChangeSpec := { name := "ordersRestores", fn := fun _ => fun
  | [d] => { results := [.lit (.bool true)], args := [d] }
  | _ => none }
def ordersRestoresRow : OpenClaim := { program := "ytifcjpacobpdmaagreat", sum := "9704e693759756d07ebeec86b4bb352a36cb655b97a2014c9cdf0ed91a93c4d9", func := "tyreworks/tyreworkslaw03.OrdersRestores", spec := "ordersRestores", inPlace := ["math.Float32frombits", "math.Float64bits", "math.Float64frombits", "math/bits.Add64", "math/bits.Sub64", "internal/abi.NoEscape", "internal/bytealg.MakeNoZero"], unfollowed := true, recurses := true, named := ["math/bits.divideError", "math/bits.overflowError"], plainKeys := false, apart := false }
def OrdersRestoresSaid : Prop := ordersRestoresRow.holds Tryz.pinned (OpenSpec.ofChange ordersRestoresSpec)

/-- ITS FALSE NEIGHBOUR: 'it returns false'. Refute it at one input. -/
def ordersRestoresWrong : ChangeSpec := { name := "ordersRestores", fn := fun _ => fun
  | [d] => { results := [.lit (.bool false)], args := [d] }
  | _ => none }
def OrdersRestoresWrongFalsely : Prop := ordersRestoresRow.holds Tryz.pinned (OpenSpec.ofChange ordersRestoresWrong)

/-- 'tyreworkslaw03.OrdersAverages': WHATEVER THE INPUT: true; the input reads as it did. -/
def ordersAveragesSpec : ChangeSpec := { name := "ordersAverages", fn := fun _ => fun
  | [d1, d2] => { results := [.lit (.bool true)], args := [d1, d2] }
  | _ => none }
def ordersAveragesRow : OpenClaim := { program := "ytifcjpacobpdmaagreat", sum := "9704e693759756d07ebeec86b4bb352a36cb655b97a2014c9cdf0ed91a93c4d9", func := "tyreworks/tyreworkslaw03.OrdersAverages", spec := "ordersAverages", inPlace := ["math/bits.Add64", "math/bits.Sub64", "internal/abi.NoEscape", "internal/bytealg.MakeNoZero", "math.Float64bits", "math.Float64frombits"], unfollowed := true, recurses := true, named := ["math/bits.divideError", "math/bits.overflowError"], plainKeys := false, apart := false }
def OrdersAveragesSaid : Prop := ordersAveragesRow.holds Tryz.pinned (OpenSpec.ofChange ordersAveragesSpec)

/-- ITS FALSE NEIGHBOUR: 'it returns false'. Refute it at one input. -/
def ordersAveragesWrong : ChangeSpec := { name := "ordersAverages", fn := fun _ => fun
  | [d1, d2] => { results := [.lit (.bool false)], args := [d1, d2] }
  | _ => none }
def OrdersAveragesWrongFalsely : Prop := ordersAveragesRow.holds Tryz.pinned (OpenSpec.ofChange ordersAveragesWrong)

/-- 'tyreworkstop.TopTurnedRound': WHATEVER THE INPUT: true; the input reads as it did. -/
def topTurnedRoundSpec : ChangeSpec := { name := "topTurnedRound", fn := fun _ => fun
  | [d1, d2, d3, d4, d5] => { results := [.lit (.bool true)], args := [d1, d2, d3, d4, d5] }
  | _ => none }
def topTurnedRoundRow : OpenClaim := { program := "ytifcjpacobpdmaagreat", sum := "9704e693759756d07ebeec86b4bb352a36cb655b97a2014c9cdf0ed91a93c4d9", func := "tyreworks/tyreworkstop.TopTurnedRound", spec := "topTurnedRound", inPlace := ["math.Float64bits", "math.Float64frombits", "math/bits.Add64", "math/bits.Sub64", "internal/abi.NoEscape", "internal/bytealg.MakeNoZero"], unfollowed := true, recurses := true, named := ["math/bits.divideError", "math/bits.overflowError"], plainKeys := false, apart := false }
def TopTurnedRoundSaid : Prop := topTurnedRoundRow.holds Tryz.pinned (OpenSpec.ofChange topTurnedRoundSpec)

/-- ITS FALSE NEIGHBOUR: 'it returns false'. Refute it at one input. -/
def topTurnedRoundWrong : ChangeSpec := { name := "topTurnedRound", fn := fun _ => fun
  | [d1, d2, d3, d4, d5] => { results := [.lit (.bool false)], args := [d1, d2, d3, d4, d5] }
  | _ => none }
def TopTurnedRoundWrongFalsely : Prop := topTurnedRoundRow.holds Tryz.pinned (OpenSpec.ofChange topTurnedRoundWrong)

/-- 'tyreworkslaw06.CureTraces': WHATEVER THE INPUT: true; the input reads as it did. -/
def cureTracesSpec : ChangeSpec := { name := "cureTraces", fn := fun _ => fun
  | [d1, d2, d3, d4, d5] => { results := [.lit (.bool true)], args := [d1, d2, d3, d4, d5] }
  | _ => none }
def cureTracesRow : OpenClaim := { program := "ytifcjpacobpdmaagreat", sum := "9704e693759756d07ebeec86b4bb352a36cb655b97a2014c9cdf0ed91a93c4d9", func := "tyreworks/tyreworkslaw06.CureTraces", spec := "cureTraces", inPlace := ["math/bits.Add64", "math/bits.Sub64", "internal/abi.NoEscape", "internal/bytealg.MakeNoZero", "math.Float64bits", "math.Float64frombits"], unfollowed := true, recurses := true, named := ["math/bits.divideError", "math/bits.overflowError"], plainKeys := false, apart := false }
def CureTracesSaid : Prop := cureTracesRow.holds Tryz.pinned (OpenSpec.ofChange cureTracesSpec)

/-- ITS FALSE NEIGHBOUR: 'it returns false'. Refute it at one input. -/
def cureTracesWrong : ChangeSpec := { name := "cureTraces", fn := fun _ => fun
  | [d1, d2, d3, d4, d5] => { results := [.lit (.bool false)], args := [d1, d2, d3, d4, d5] }
  | _ => none }
def CureTracesWrongFalsely : Prop := cureTracesRow.holds Tryz.pinned (OpenSpec.ofChange cureTracesWrong)

/-- 'tyreworkslaw06.CureThermocouples': WHATEVER THE INPUT: true; the input reads as it did. -/
def cureThermocouplesSpec : ChangeSpec := { name := "cureThermocouples", fn := fun _ => fun
  | [d1, d2, d3, d4, d5, d6, d7, d8] => { results := [.lit (.bool true)], args := [d1, d2, d3, d4, d5, d6, d7, d8] }
  | _ => none }
def cureThermocouplesRow : OpenClaim := { program := "ytifcjpacobpdmaagreat", sum := "9704e693759756d07ebeec86b4bb352a36cb655b97a2014c9cdf0ed91a93c4d9", func := "tyreworks/tyreworkslaw06.CureThermocouples", spec := "cureThermocouples", inPlace := ["math/bits.Add64", "math/bits.Sub64", "internal/abi.NoEscape", "internal/bytealg.MakeNoZero", "math.Float64frombits", "math.Float64bits"], unfollowed := true, recurses := true, named := ["math/bits.divideError", "math/bits.overflowError"], plainKeys := false, apart := false }
def CureThermocouplesSaid : Prop := cureThermocouplesRow.holds Tryz.pinned (OpenSpec.ofChange cureThermocouplesSpec)

/-- ITS FALSE NEIGHBOUR: 'it returns false'. Refute it at one input. -/
def cureThermocouplesWrong : ChangeSpec := { name := "cureThermocouples", fn := fun _ => fun
  | [d1, d2, d3, d4, d5, d6, d7, d8] => { results := [.lit (.bool false)], args := [d1, d2, d3, d4, d5, d6, d7, d8] }
  | _ => none }
def CureThermocouplesWrongFalsely : Prop := cureThermocouplesRow.holds Tryz.pinned (OpenSpec.ofChange cureThermocouplesWrong)

/-- 'tyreworkslaw07.MountTable': WHATEVER THE INPUT: true; the input reads as it did. -/
def mountTableSpec : ChangeSpec := { name := "mountTable", fn := fun _ => fun
  | [d1, d2] => { results := [.lit (.bool true)], args := [d1, d2] }
  | _ => none }
def mountTableRow : OpenClaim := { program := "ytifcjpacobpdmaagreat", sum := "9704e693759756d07ebeec86b4bb352a36cb655b97a2014c9cdf0ed91a93c4d9", func := "tyreworks/tyreworkslaw07.MountTable", spec := "mountTable", inPlace := ["math/bits.Add64", "math/bits.Sub64", "internal/abi.NoEscape", "internal/bytealg.MakeNoZero"], unfollowed := true, recurses := true, named := ["math/bits.divideError", "math/bits.overflowError"], plainKeys := false, apart := false }
def MountTableSaid : Prop := mountTableRow.holds Tryz.pinned (OpenSpec.ofChange mountTableSpec)

/-- ITS FALSE NEIGHBOUR: 'it returns false'. Refute it at one input. -/
def mountTableWrong : ChangeSpec := { name := "mountTable", fn := fun _ => fun
  | [d1, d2] => { results := [.lit (.bool false)], args := [d1, d2] }
  | _ => none }
def MountTableWrongFalsely : Prop := mountTableRow.holds Tryz.pinned (OpenSpec.ofChange mountTableWrong)

/- THE SECOND FORM. 'bulk': how many values and letters a reading holds, each counted each time it is reached (what is shared counts as often as it is met; a slice's spare places count too). A statement '..UptoSaid' is the law's where the arguments, and the package variables that the reading takes, are together of bulk at most 1048576: NARROWER than '..Said'. Prove '..Said' where nothing that the law and all that it calls make is longer than what came in: it says more and counts as full. Else prove '..UptoSaid'. A law counts once. -/
mutual
def uptoBulk {H : Type} : DataW H → Nat
  | .lit (.string bytes) => bytes.length + 1
  | .lit _ => 1
  | .nil => 1
  | .ptr d => uptoBulk d + 1
  | .slice elems spare => uptoBulkAll elems + uptoBulkAll spare + 1
  | .agg parts => uptoBulkAll parts + 1
  | .iface _ d => uptoBulk d + 1
  | .map entries => uptoBulkEntries entries + 1
  | .held _ => 1
def uptoBulkAll {H : Type} : List (DataW H) → Nat
  | [] => 0
  | d :: r => uptoBulk d + uptoBulkAll r
def uptoBulkEntries {H : Type} : List (Lit × DataW H) → Nat
  | [] => 0
  | x :: r => uptoBulkEntry x + uptoBulkEntries r
def uptoBulkEntry {H : Type} : Lit × DataW H → Nat
  | (.string bytes, d) => bytes.length + uptoBulk d + 1
  | (_, d) => uptoBulk d + 1
 end
def uptoSmall : (H : Type) → List (DataW H) → Bool := fun _ ds => decide (uptoBulkAll ds ≤ 1048576)
def OpenSpec.upto (s : _root_.Go.ChangeSpec) : _root_.Go.OpenSpec := { _root_.Go.OpenSpec.ofChange s with cond := some uptoSmall }

/-- 'tyreworkslaw03.OrdersReports', WHERE WHAT IT READS IS OF BULK AT MOST 1048576: true; the input reads as it did. -/
def ordersReportsUptoRow : OpenClaim := { program := "ytifcjpacobpdmaagreat", sum := "9704e693759756d07ebeec86b4bb352a36cb655b97a2014c9cdf0ed91a93c4d9", func := "tyreworks/tyreworkslaw03.OrdersReports", spec := "ordersReports", inPlace := ["math/bits.Add64", "math/bits.Sub64", "math.Float64frombits", "math.Float64bits", "internal/abi.NoEscape", "internal/bytealg.MakeNoZero"], unfollowed := true, recurses := true, named := ["math/bits.divideError", "math/bits.overflowError"], plainKeys := false, apart := false, narrowed := true }
def OrdersReportsUptoSaid : Prop := ordersReportsUptoRow.holds Tryz.pinned (OpenSpec.upto ordersReportsSpec)

/-- 'tyreworkslaw03.OrdersRestores', WHERE WHAT IT READS IS OF BULK AT MOST 1048576: true; the input reads as it did. -/
def ordersRestoresUptoRow : OpenClaim := { program := "ytifcjpacobpdmaagreat", sum := "9704e693759756d07ebeec86b4bb352a36cb655b97a2014c9cdf0ed91a93c4d9", func := "tyreworks/tyreworkslaw03.OrdersRestores", spec := "ordersRestores", inPlace := ["math.Float32frombits", "math.Float64bits", "math.Float64frombits", "math/bits.Add64", "math/bits.Sub64", "internal/abi.NoEscape", "internal/bytealg.MakeNoZero"], unfollowed := true, recurses := true, named := ["math/bits.divideError", "math/bits.overflowError"], plainKeys := false, apart := false, narrowed := true }
def OrdersRestoresUptoSaid : Prop := ordersRestoresUptoRow.holds Tryz.pinned (OpenSpec.upto ordersRestoresSpec)

/-- 'tyreworkslaw03.OrdersAverages', WHERE WHAT IT READS IS OF BULK AT MOST 1048576: true; the input reads as it did. -/
def ordersAveragesUptoRow : OpenClaim := { program := "ytifcjpacobpdmaagreat", sum := "9704e693759756d07ebeec86b4bb352a36cb655b97a2014c9cdf0ed91a93c4d9", func := "tyreworks/tyreworkslaw03.OrdersAverages", spec := "ordersAverages", inPlace := ["math/bits.Add64", "math/bits.Sub64", "internal/abi.NoEscape", "internal/bytealg.MakeNoZero", "math.Float64bits", "math.Float64frombits"], unfollowed := true, recurses := true, named := ["math/bits.divideError", "math/bits.overflowError"], plainKeys := false, apart := false, narrowed := true }
def OrdersAveragesUptoSaid : Prop := ordersAveragesUptoRow.holds Tryz.pinned (OpenSpec.upto ordersAveragesSpec)

/-- 'tyreworkstop.TopTurnedRound', WHERE WHAT IT READS IS OF BULK AT MOST 1048576: true; the input reads as it did. -/
def topTurnedRoundUptoRow : OpenClaim := { program := "ytifcjpacobpdmaagreat", sum := "9704e693759756d07ebeec86b4bb352a36cb655b97a2014c9cdf0ed91a93c4d9", func := "tyreworks/tyreworkstop.TopTurnedRound", spec := "topTurnedRound", inPlace := ["math.Float64bits", "math.Float64frombits", "math/bits.Add64", "math/bits.Sub64", "internal/abi.NoEscape", "internal/bytealg.MakeNoZero"], unfollowed := true, recurses := true, named := ["math/bits.divideError", "math/bits.overflowError"], plainKeys := false, apart := false, narrowed := true }
def TopTurnedRoundUptoSaid : Prop := topTurnedRoundUptoRow.holds Tryz.pinned (OpenSpec.upto topTurnedRoundSpec)

/-- 'tyreworkslaw06.CureTraces', WHERE WHAT IT READS IS OF BULK AT MOST 1048576: true; the input reads as it did. -/
def cureTracesUptoRow : OpenClaim := { program := "ytifcjpacobpdmaagreat", sum := "9704e693759756d07ebeec86b4bb352a36cb655b97a2014c9cdf0ed91a93c4d9", func := "tyreworks/tyreworkslaw06.CureTraces", spec := "cureTraces", inPlace := ["math/bits.Add64", "math/bits.Sub64", "internal/abi.NoEscape", "internal/bytealg.MakeNoZero", "math.Float64bits", "math.Float64frombits"], unfollowed := true, recurses := true, named := ["math/bits.divideError", "math/bits.overflowError"], plainKeys := false, apart := false, narrowed := true }
def CureTracesUptoSaid : Prop := cureTracesUptoRow.holds Tryz.pinned (OpenSpec.upto cureTracesSpec)

/-- 'tyreworkslaw06.CureThermocouples', WHERE WHAT IT READS IS OF BULK AT MOST 1048576: true; the input reads as it did. -/
def cureThermocouplesUptoRow : OpenClaim := { program := "ytifcjpacobpdmaagreat", sum := "9704e693759756d07ebeec86b4bb352a36cb655b97a2014c9cdf0ed91a93c4d9", func := "tyreworks/tyreworkslaw06.CureThermocouples", spec := "cureThermocouples", inPlace := ["math/bits.Add64", "math/bits.Sub64", "internal/abi.NoEscape", "internal/bytealg.MakeNoZero", "math.Float64frombits", "math.Float64bits"], unfollowed := true, recurses := true, named := ["math/bits.divideError", "math/bits.overflowError"], plainKeys := false, apart := false, narrowed := true }
def CureThermocouplesUptoSaid : Prop := cureThermocouplesUptoRow.holds Tryz.pinned (OpenSpec.upto cureThermocouplesSpec)

/-- 'tyreworkslaw07.MountTable', WHERE WHAT IT READS IS OF BULK AT MOST 1048576: true; the input reads as it did. -/
def mountTableUptoRow : OpenClaim := { program := "ytifcjpacobpdmaagreat", sum := "9704e693759756d07ebeec86b4bb352a36cb655b97a2014c9cdf0ed91a93c4d9", func := "tyreworks/tyreworkslaw07.MountTable", spec := "mountTable", inPlace := ["math/bits.Add64", "math/bits.Sub64", "internal/abi.NoEscape", "internal/bytealg.MakeNoZero"], unfollowed := true, recurses := true, named := ["math/bits.divideError", "math/bits.overflowError"], plainKeys := false, apart := false, narrowed := true }
def MountTableUptoSaid : Prop := mountTableUptoRow.holds Tryz.pinned (OpenSpec.upto mountTableSpec)

end Rows
end Go.Proofs.YtifcjpacobpdmaaGreat
