/-
  No cell of these rows narrows 'for every input' (looked for: loops, veiled, ifaces, maps, wideKeys, modest, calm, conditions, laid).
  DERIVED. THE GIVEN ROWS OF THIS SEAT. 7 by the template 'for every input the law returns true; each argument reads behind the call as it read before'; 0 by the template 'total and deterministic' (their statements: YtjgnlflbgmnfaaaGreatTotals.lean).
  GIVEN WITH THE SEED: the statements are not yours to turn. If you find one false, say at which input.
  Laid BY PROGRAM, IN A SANDBOX (cutbox-rows.mjs): the forced cells as the released guide's own fill.sh prints them over the translation 392a461d780cc6d4… (all of the seat's roots in one cut). By AI agents, Wed Nov 11 2026. No macro, syntax, notation, axiom, sorry.
-/
import Derived.Test.YtjgnlflbgmnfaaaGreatChecked
import GoSem.Claim
import GoSem.ClaimJoined
import GoSem.ClaimMapViews
import Derived.JoinedTies
import Derived.KernelRfl
namespace Go.Proofs.YtjgnlflbgmnfaaaGreat
/- THE CELL 'sum', in the pinned program and in every row, IS THE sha256 OF THE DUMP (.gsa) THAT YtjgnlflbgmnfaaaGreatProg.lean LOADS. Nothing in Lean hashes anything: it is a label: what it is worth is what the hold of that sum in a sandbox is worth. -/
noncomputable def Tryz.pinned : Pinned := { name := "ytjgnlflbgmnfaaagreat", sum := "392a461d780cc6d430dbdc0bcd99afaf1794887ee514fccbc382240f9495cf27", checked := Tryz.checked }
namespace Rows
def none {H : Type} : Left H := { results := [], args := [] }

/-- 'tyreworkslaw01.ExactNears': WHATEVER THE INPUT: true; the input reads as it did. -/
def exactNearsSpec : ChangeSpec := { name := "exactNears", fn := fun _ => fun
  | [d1, d2] => { results := [.lit (.bool true)], args := [d1, d2] }
  | _ => none }
def exactNearsRow : OpenClaim := { program := "ytjgnlflbgmnfaaagreat", sum := "392a461d780cc6d430dbdc0bcd99afaf1794887ee514fccbc382240f9495cf27", func := "tyreworks/tyreworkslaw01.ExactNears", spec := "exactNears", inPlace := ["math/bits.Add64", "math/bits.Sub64", "internal/abi.NoEscape", "internal/bytealg.MakeNoZero", "math.Float64frombits", "math.Float64bits"], unfollowed := true, recurses := true, named := ["math/bits.divideError", "math/bits.overflowError"], plainKeys := false, apart := false }
def ExactNearsSaid : Prop := exactNearsRow.holds Tryz.pinned (OpenSpec.ofChange exactNearsSpec)

/-- ITS FALSE NEIGHBOUR: 'it returns false'. Refute it at one input. -/
def exactNearsWrong : ChangeSpec := { name := "exactNears", fn := fun _ => fun
  | [d1, d2] => { results := [.lit (.bool false)], args := [d1, d2] }
  | _ => none }
def ExactNearsWrongFalsely : Prop := exactNearsRow.holds Tryz.pinned (OpenSpec.ofChange exactNearsWrong)

/-- 'tyreworkslaw01.ExactFloats': WHATEVER THE INPUT: true; the input reads as it did. -/
def exactFloatsSpec : ChangeSpec := { name := "exactFloats", fn := fun _ => fun
  | [d1, d2] => { results := [.lit (.bool true)], args := [d1, d2] }
  | _ => none }
def exactFloatsRow : OpenClaim := { program := "ytjgnlflbgmnfaaagreat", sum := "392a461d780cc6d430dbdc0bcd99afaf1794887ee514fccbc382240f9495cf27", func := "tyreworks/tyreworkslaw01.ExactFloats", spec := "exactFloats", inPlace := ["math/bits.Add64", "math/bits.Sub64", "internal/abi.NoEscape", "internal/bytealg.MakeNoZero", "math.Float64frombits", "math.Float32frombits", "math.Float64bits"], unfollowed := true, recurses := true, named := ["math/bits.divideError", "math/bits.overflowError"], plainKeys := false, apart := false }
def ExactFloatsSaid : Prop := exactFloatsRow.holds Tryz.pinned (OpenSpec.ofChange exactFloatsSpec)

/-- ITS FALSE NEIGHBOUR: 'it returns false'. Refute it at one input. -/
def exactFloatsWrong : ChangeSpec := { name := "exactFloats", fn := fun _ => fun
  | [d1, d2] => { results := [.lit (.bool false)], args := [d1, d2] }
  | _ => none }
def ExactFloatsWrongFalsely : Prop := exactFloatsRow.holds Tryz.pinned (OpenSpec.ofChange exactFloatsWrong)

/-- 'tyreworkslaw01.ExactSigns': WHATEVER THE INPUT: true; the input reads as it did. -/
def exactSignsSpec : ChangeSpec := { name := "exactSigns", fn := fun _ => fun
  | [d1, d2, d3] => { results := [.lit (.bool true)], args := [d1, d2, d3] }
  | _ => none }
def exactSignsRow : OpenClaim := { program := "ytjgnlflbgmnfaaagreat", sum := "392a461d780cc6d430dbdc0bcd99afaf1794887ee514fccbc382240f9495cf27", func := "tyreworks/tyreworkslaw01.ExactSigns", spec := "exactSigns", inPlace := ["math/bits.Add64", "math/bits.Sub64", "internal/abi.NoEscape", "internal/bytealg.MakeNoZero", "math.Float64frombits", "math.Float64bits"], unfollowed := true, recurses := true, named := ["math/bits.divideError", "math/bits.overflowError"], plainKeys := false, apart := false }
def ExactSignsSaid : Prop := exactSignsRow.holds Tryz.pinned (OpenSpec.ofChange exactSignsSpec)

/-- ITS FALSE NEIGHBOUR: 'it returns false'. Refute it at one input. -/
def exactSignsWrong : ChangeSpec := { name := "exactSigns", fn := fun _ => fun
  | [d1, d2, d3] => { results := [.lit (.bool false)], args := [d1, d2, d3] }
  | _ => none }
def ExactSignsWrongFalsely : Prop := exactSignsRow.holds Tryz.pinned (OpenSpec.ofChange exactSignsWrong)

/-- 'tyreworkslaw01.ExactHighs': WHATEVER THE INPUT: true; the input reads as it did. -/
def exactHighsSpec : ChangeSpec := { name := "exactHighs", fn := fun _ => fun
  | [d] => { results := [.lit (.bool true)], args := [d] }
  | _ => none }
def exactHighsRow : OpenClaim := { program := "ytjgnlflbgmnfaaagreat", sum := "392a461d780cc6d430dbdc0bcd99afaf1794887ee514fccbc382240f9495cf27", func := "tyreworks/tyreworkslaw01.ExactHighs", spec := "exactHighs", inPlace := ["math/bits.Add64", "math/bits.Sub64", "internal/abi.NoEscape", "internal/bytealg.MakeNoZero", "math.Float64frombits", "math.Float64bits", "math.Float32bits"], unfollowed := true, recurses := true, named := ["math/bits.divideError", "math/bits.overflowError"], plainKeys := false, apart := false }
def ExactHighsSaid : Prop := exactHighsRow.holds Tryz.pinned (OpenSpec.ofChange exactHighsSpec)

/-- ITS FALSE NEIGHBOUR: 'it returns false'. Refute it at one input. -/
def exactHighsWrong : ChangeSpec := { name := "exactHighs", fn := fun _ => fun
  | [d] => { results := [.lit (.bool false)], args := [d] }
  | _ => none }
def ExactHighsWrongFalsely : Prop := exactHighsRow.holds Tryz.pinned (OpenSpec.ofChange exactHighsWrong)

/-- 'tyreworkslaw01.ExactBounds': WHATEVER THE INPUT: true; the input reads as it did. -/
def exactBoundsSpec : ChangeSpec := { name := "exactBounds", fn := fun _ => fun
  | [d1, d2] => { results := [.lit (.bool true)], args := [d1, d2] }
  | _ => none }
def exactBoundsRow : OpenClaim := { program := "ytjgnlflbgmnfaaagreat", sum := "392a461d780cc6d430dbdc0bcd99afaf1794887ee514fccbc382240f9495cf27", func := "tyreworks/tyreworkslaw01.ExactBounds", spec := "exactBounds", inPlace := ["math/bits.Add64", "math/bits.Sub64", "internal/abi.NoEscape", "internal/bytealg.MakeNoZero", "math.Float64frombits", "math.Float64bits"], unfollowed := true, recurses := true, named := ["math/bits.divideError", "math/bits.overflowError"], plainKeys := false, apart := false }
def ExactBoundsSaid : Prop := exactBoundsRow.holds Tryz.pinned (OpenSpec.ofChange exactBoundsSpec)

/-- ITS FALSE NEIGHBOUR: 'it returns false'. Refute it at one input. -/
def exactBoundsWrong : ChangeSpec := { name := "exactBounds", fn := fun _ => fun
  | [d1, d2] => { results := [.lit (.bool false)], args := [d1, d2] }
  | _ => none }
def ExactBoundsWrongFalsely : Prop := exactBoundsRow.holds Tryz.pinned (OpenSpec.ofChange exactBoundsWrong)

/-- 'tyreworkslaw06.CureTraces': WHATEVER THE INPUT: true; the input reads as it did. -/
def cureTracesSpec : ChangeSpec := { name := "cureTraces", fn := fun _ => fun
  | [d1, d2, d3, d4, d5] => { results := [.lit (.bool true)], args := [d1, d2, d3, d4, d5] }
  | _ => none }
def cureTracesRow : OpenClaim := { program := "ytjgnlflbgmnfaaagreat", sum := "392a461d780cc6d430dbdc0bcd99afaf1794887ee514fccbc382240f9495cf27", func := "tyreworks/tyreworkslaw06.CureTraces", spec := "cureTraces", inPlace := ["math/bits.Add64", "math/bits.Sub64", "internal/abi.NoEscape", "internal/bytealg.MakeNoZero", "math.Float64bits", "math.Float64frombits"], unfollowed := true, recurses := true, named := ["math/bits.divideError", "math/bits.overflowError"], plainKeys := false, apart := false }
def CureTracesSaid : Prop := cureTracesRow.holds Tryz.pinned (OpenSpec.ofChange cureTracesSpec)

/-- ITS FALSE NEIGHBOUR: 'it returns false'. Refute it at one input. -/
def cureTracesWrong : ChangeSpec := { name := "cureTraces", fn := fun _ => fun
  | [d1, d2, d3, d4, d5] => { results := [.lit (.bool false)], args := [d1, d2, d3, d4, d5] }
  | _ => none }
def CureTracesWrongFalsely : Prop := cureTracesRow.holds Tryz.pinned (OpenSpec.ofChange cureTracesWrong)

/-- 'tyreworkslaw06.CureThermocouples': WHATEVER THE INPUT: true; the input reads as it did. -/
def cureThermocouplesSpec : ChangeSpec := { name := "cureThermocouples", fn := fun _ => fun
  | [d1, d2, d3, d4, d5, d6, d7, d8] => { results := [.lit (.bool true)], args := [d1, d2, d3, d4, d5, d6, d7, d8] }
  | _ => none }
def cureThermocouplesRow : OpenClaim := { program := "ytjgnlflbgmnfaaagreat", sum := "392a461d780cc6d430dbdc0bcd99afaf1794887ee514fccbc382240f9495cf27", func := "tyreworks/tyreworkslaw06.CureThermocouples", spec := "cureThermocouples", inPlace := ["math/bits.Add64", "math/bits.Sub64", "internal/abi.NoEscape", "internal/bytealg.MakeNoZero", "math.Float64frombits", "math.Float64bits"], unfollowed := true, recurses := true, named := ["math/bits.divideError", "math/bits.overflowError"], plainKeys := false, apart := false }
def CureThermocouplesSaid : Prop := cureThermocouplesRow.holds Tryz.pinned (OpenSpec.ofChange cureThermocouplesSpec)

/-- ITS FALSE NEIGHBOUR: 'it returns false'. Refute it at one input. -/
def cureThermocouplesWrong : ChangeSpec := { name := "cureThermocouples", fn := fun _ => fun
  | [d1, d2, d3, d4, d5, d6, d7, d8] => { results := [.lit (.bool false)], args := [d1, d2, d3, d4, d5, d6, d7, d8] }
  | _ => none }
def CureThermocouplesWrongFalsely : Prop := cureThermocouplesRow.holds Tryz.pinned (OpenSpec.ofChange cureThermocouplesWrong)

/- THE SECOND FORM. 'bulk': how many values and letters a reading holds, each counted each time it is reached (what is shared counts as often as it is met; a slice's spare places count too). A statement '..UptoSaid' is the law's where the arguments, and the package variables that the reading takes, are together of bulk at most 1048576: NARROWER than '..Said'. Prove '..Said' where nothing that the law and all that it calls make is longer than what came in: it says more and counts as full. Else prove '..UptoSaid'. A law counts once. -/
mutual
def uptoBulk {H : Type} : DataW H → Nat
  | .lit (.string bytes) => bytes.length + 1
  | .lit _ => 1
  | .nil => 1
  | .ptr d => uptoBulk d + 1
  | .slice elems spare => uptoBulkAll elems + uptoBulkAll spare + 1
  | .agg parts => uptoBulkAll parts + 1
  | .iface _ d => uptoBulk d + 1
  | .map entries => uptoBulkEntries entries + 1
  | .held _ => 1
def uptoBulkAll {H : Type} : List (DataW H) → Nat
  | [] => 0
  | d :: r => uptoBulk d + uptoBulkAll r
def uptoBulkEntries {H : Type} : List (Lit × DataW H) → Nat
  | [] => 0
  | x :: r => uptoBulkEntry x + uptoBulkEntries r
def uptoBulkEntry {H : Type} : Lit × DataW H → Nat
  | (.string bytes, d) => bytes.length + uptoBulk d + 1
  | (_, d) => uptoBulk d + 1
 end
def uptoSmall : (H : Type) → List (DataW H) → Bool := fun _ ds => decide (uptoBulkAll ds ≤ 1048576)
def OpenSpec.upto (s : _root_.Go.ChangeSpec) : _root_.Go.OpenSpec := { _root_.Go.OpenSpec.ofChange s with cond := some uptoSmall }

/-- 'tyreworkslaw01.ExactNears', WHERE WHAT IT READS IS OF BULK AT MOST 1048576: true; the input reads as it did. -/
def exactNearsUptoRow : OpenClaim := { program := "ytjgnlflbgmnfaaagreat", sum := "392a461d780cc6d430dbdc0bcd99afaf1794887ee514fccbc382240f9495cf27", func := "tyreworks/tyreworkslaw01.ExactNears", spec := "exactNears", inPlace := ["math/bits.Add64", "math/bits.Sub64", "internal/abi.NoEscape", "internal/bytealg.MakeNoZero", "math.Float64frombits", "math.Float64bits"], unfollowed := true, recurses := true, named := ["math/bits.divideError", "math/bits.overflowError"], plainKeys := false, apart := false, narrowed := true }
def ExactNearsUptoSaid : Prop := exactNearsUptoRow.holds Tryz.pinned (OpenSpec.upto exactNearsSpec)

/-- 'tyreworkslaw01.ExactFloats', WHERE WHAT IT READS IS OF BULK AT MOST 1048576: true; the input reads as it did. -/
def exactFloatsUptoRow : OpenClaim := { program := "ytjgnlflbgmnfaaagreat", sum := "392a461d780cc6d430dbdc0bcd99afaf1794887ee514fccbc382240f9495cf27", func := "tyreworks/tyreworkslaw01.ExactFloats", spec := "exactFloats", inPlace := ["math/bits.Add64", "math/bits.Sub64", "internal/abi.NoEscape", "internal/bytealg.MakeNoZero", "math.Float64frombits", "math.Float32frombits", "math.Float64bits"], unfollowed := true, recurses := true, named := ["math/bits.divideError", "math/bits.overflowError"], plainKeys := false, apart := false, narrowed := true }
def ExactFloatsUptoSaid : Prop := exactFloatsUptoRow.holds Tryz.pinned (OpenSpec.upto exactFloatsSpec)

/-- 'tyreworkslaw01.ExactSigns', WHERE WHAT IT READS IS OF BULK AT MOST 1048576: true; the input reads as it did. -/
def exactSignsUptoRow : OpenClaim := { program := "ytjgnlflbgmnfaaagreat", sum := "392a461d780cc6d430dbdc0bcd99afaf1794887ee514fccbc382240f9495cf27", func := "tyreworks/tyreworkslaw01.ExactSigns", spec := "exactSigns", inPlace := ["math/bits.Add64", "math/bits.Sub64", "internal/abi.NoEscape", "internal/bytealg.MakeNoZero", "math.Float64frombits", "math.Float64bits"], unfollowed := true, recurses := true, named := ["math/bits.divideError", "math/bits.overflowError"], plainKeys := false, apart := false, narrowed := true }
def ExactSignsUptoSaid : Prop := exactSignsUptoRow.holds Tryz.pinned (OpenSpec.upto exactSignsSpec)

/-- 'tyreworkslaw01.ExactHighs', WHERE WHAT IT READS IS OF BULK AT MOST 1048576: true; the input reads as it did. -/
def exactHighsUptoRow : OpenClaim := { program := "ytjgnlflbgmnfaaagreat", sum := "392a461d780cc6d430dbdc0bcd99afaf1794887ee514fccbc382240f9495cf27", func := "tyreworks/tyreworkslaw01.ExactHighs", spec := "exactHighs", inPlace := ["math/bits.Add64", "math/bits.Sub64", "internal/abi.NoEscape", "internal/bytealg.MakeNoZero", "math.Float64frombits", "math.Float64bits", "math.Float32bits"], unfollowed := true, recurses := true, named := ["math/bits.divideError", "math/bits.overflowError"], plainKeys := false, apart := false, narrowed := true }
def ExactHighsUptoSaid : Prop := exactHighsUptoRow.holds Tryz.pinned (OpenSpec.upto exactHighsSpec)

/-- 'tyreworkslaw01.ExactBounds', WHERE WHAT IT READS IS OF BULK AT MOST 1048576: true; the input reads as it did. -/
def exactBoundsUptoRow : OpenClaim := { program := "ytjgnlflbgmnfaaagreat", sum := "392a461d780cc6d430dbdc0bcd99afaf1794887ee514fccbc382240f9495cf27", func := "tyreworks/tyreworkslaw01.ExactBounds", spec := "exactBounds", inPlace := ["math/bits.Add64", "math/bits.Sub64", "internal/abi.NoEscape", "internal/bytealg.MakeNoZero", "math.Float64frombits", "math.Float64bits"], unfollowed := true, recurses := true, named := ["math/bits.divideError", "math/bits.overflowError"], plainKeys := false, apart := false, narrowed := true }
def ExactBoundsUptoSaid : Prop := exactBoundsUptoRow.holds Tryz.pinned (OpenSpec.upto exactBoundsSpec)

/-- 'tyreworkslaw06.CureTraces', WHERE WHAT IT READS IS OF BULK AT MOST 1048576: true; the input reads as it did. -/
def cureTracesUptoRow : OpenClaim := { program := "ytjgnlflbgmnfaaagreat", sum := "392a461d780cc6d430dbdc0bcd99afaf1794887ee514fccbc382240f9495cf27", func := "tyreworks/tyreworkslaw06.CureTraces", spec := "cureTraces", inPlace := ["math/bits.Add64", "math/bits.Sub64", "internal/abi.NoEscape", "internal/bytealg.MakeNoZero", "math.Float64bits", "math.Float64frombits"], unfollowed := true, recurses := true, named := ["math/bits.divideError", "math/bits.overflowError"], plainKeys := false, apart := false, narrowed := true }
def CureTracesUptoSaid : Prop := cureTracesUptoRow.holds Tryz.pinned (OpenSpec.upto cureTracesSpec)

/-- 'tyreworkslaw06.CureThermocouples', WHERE WHAT IT READS IS OF BULK AT MOST 1048576: true; the input reads as it did. -/
def cureThermocouplesUptoRow : OpenClaim := { program := "ytjgnlflbgmnfaaagreat", sum := "392a461d780cc6d430dbdc0bcd99afaf1794887ee514fccbc382240f9495cf27", func := "tyreworks/tyreworkslaw06.CureThermocouples", spec := "cureThermocouples", inPlace := ["math/bits.Add64", "math/bits.Sub64", "internal/abi.NoEscape", "internal/bytealg.MakeNoZero", "math.Float64frombits", "math.Float64bits"], unfollowed := true, recurses := true, named := ["math/bits.divideError", "math/bits.overflowError"], plainKeys := false, apart := false, narrowed := true }
def CureThermocouplesUptoSaid : Prop := cureThermocouplesUptoRow.holds Tryz.pinned (OpenSpec.upto cureThermocouplesSpec)

end Rows
end Go.Proofs.YtjgnlflbgmnfaaaGreat
