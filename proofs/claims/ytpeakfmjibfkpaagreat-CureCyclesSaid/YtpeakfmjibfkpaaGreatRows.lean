/-
  No cell of these rows narrows 'for every input' (looked for: loops, veiled, ifaces, maps, wideKeys, modest, calm, conditions, laid).
  DERIVED. THE GIVEN ROWS OF THIS SEAT. 7 by the template 'for every input the law returns true; each argument reads behind the call as it read before'; 0 by the template 'total and deterministic' (their statements: YtpeakfmjibfkpaaGreatTotals.lean).
  GIVEN WITH THE SEED: the statements are not yours to turn. If you find one false, say at which input.
  Laid BY PROGRAM, IN A SANDBOX (cutbox-rows.mjs): the forced cells as the released guide's own fill.sh prints them over the translation 676baa01c4639f3c… (all of the seat's roots in one cut). By AI agents, Wed Nov 11 2026. No macro, syntax, notation, axiom, sorry.
-/
import Derived.Test.YtpeakfmjibfkpaaGreatChecked
import GoSem.Claim
import GoSem.ClaimJoined
import GoSem.ClaimMapViews
import Derived.JoinedTies
import Derived.KernelRfl
namespace Go.Proofs.YtpeakfmjibfkpaaGreat
/- THE CELL 'sum', in the pinned program and in every row, IS THE sha256 OF THE DUMP (.gsa) THAT YtpeakfmjibfkpaaGreatProg.lean LOADS. Nothing in Lean hashes anything: it is a label: what it is worth is what the hold of that sum in a sandbox is worth. -/
noncomputable def Tryz.pinned : Pinned := { name := "ytpeakfmjibfkpaagreat", sum := "676baa01c4639f3c5247fb124c03267a9fbf5c9608790a211239b6679f8009bf", checked := Tryz.checked }
namespace Rows
def none {H : Type} : Left H := { results := [], args := [] }

/-- 'tyreworkslaw06.CureBands': WHATEVER THE INPUT: true; the input reads as it did. -/
def cureBandsSpec : ChangeSpec := { name := "cureBands", fn := fun _ => fun
  | [d1, d2, d3, d4, d5] => { results := [.lit (.bool true)], args := [d1, d2, d3, d4, d5] }
  | _ => none }
def cureBandsRow : OpenClaim := { program := "ytpeakfmjibfkpaagreat", sum := "676baa01c4639f3c5247fb124c03267a9fbf5c9608790a211239b6679f8009bf", func := "tyreworks/tyreworkslaw06.CureBands", spec := "cureBands", inPlace := ["math/bits.Add64", "math/bits.Sub64", "internal/abi.NoEscape", "internal/bytealg.MakeNoZero"], unfollowed := true, recurses := true, named := ["math/bits.divideError", "math/bits.overflowError"], plainKeys := false, apart := false }
def CureBandsSaid : Prop := cureBandsRow.holds Tryz.pinned (OpenSpec.ofChange cureBandsSpec)

/-- ITS FALSE NEIGHBOUR: 'it returns false'. Refute it at one input. -/
def cureBandsWrong : ChangeSpec := { name := "cureBands", fn := fun _ => fun
  | [d1, d2, d3, d4, d5] => { results := [.lit (.bool false)], args := [d1, d2, d3, d4, d5] }
  | _ => none }
def CureBandsWrongFalsely : Prop := cureBandsRow.holds Tryz.pinned (OpenSpec.ofChange cureBandsWrong)

/-- 'tyreworkslaw06.CureJudges': WHATEVER THE INPUT: true; the input reads as it did. -/
def cureJudgesSpec : ChangeSpec := { name := "cureJudges", fn := fun _ => fun
  | [d1, d2] => { results := [.lit (.bool true)], args := [d1, d2] }
  | _ => none }
def cureJudgesRow : OpenClaim := { program := "ytpeakfmjibfkpaagreat", sum := "676baa01c4639f3c5247fb124c03267a9fbf5c9608790a211239b6679f8009bf", func := "tyreworks/tyreworkslaw06.CureJudges", spec := "cureJudges", inPlace := ["math/bits.Add64", "math/bits.Sub64", "internal/abi.NoEscape", "internal/bytealg.MakeNoZero"], unfollowed := true, recurses := true, named := ["math/bits.divideError", "math/bits.overflowError"], plainKeys := false, apart := false }
def CureJudgesSaid : Prop := cureJudgesRow.holds Tryz.pinned (OpenSpec.ofChange cureJudgesSpec)

/-- ITS FALSE NEIGHBOUR: 'it returns false'. Refute it at one input. -/
def cureJudgesWrong : ChangeSpec := { name := "cureJudges", fn := fun _ => fun
  | [d1, d2] => { results := [.lit (.bool false)], args := [d1, d2] }
  | _ => none }
def CureJudgesWrongFalsely : Prop := cureJudgesRow.holds Tryz.pinned (OpenSpec.ofChange cureJudgesWrong)

/-- 'tyreworkslaw06.CureShortest': WHATEVER THE INPUT: true; the input reads as it did. -/
def cureShortestSpec : ChangeSpec := { name := "cureShortest", fn := fun _ => fun
  | [d1, d2, d3, d4] => { results := [.lit (.bool true)], args := [d1, d2, d3, d4] }
  | _ => none }
def cureShortestRow : OpenClaim := { program := "ytpeakfmjibfkpaagreat", sum := "676baa01c4639f3c5247fb124c03267a9fbf5c9608790a211239b6679f8009bf", func := "tyreworks/tyreworkslaw06.CureShortest", spec := "cureShortest", inPlace := ["math/bits.Add64", "math/bits.Sub64", "internal/abi.NoEscape", "internal/bytealg.MakeNoZero"], unfollowed := true, recurses := true, named := ["math/bits.divideError", "math/bits.overflowError"], plainKeys := false, apart := false }
def CureShortestSaid : Prop := cureShortestRow.holds Tryz.pinned (OpenSpec.ofChange cureShortestSpec)

/-- ITS FALSE NEIGHBOUR: 'it returns false'. Refute it at one input. -/
def cureShortestWrong : ChangeSpec := { name := "cureShortest", fn := fun _ => fun
  | [d1, d2, d3, d4] => { results := [.lit (.bool false)], args := [d1, d2, d3, d4] }
  | _ => none }
def CureShortestWrongFalsely : Prop := cureShortestRow.holds Tryz.pinned (OpenSpec.ofChange cureShortestWrong)

/-- 'tyreworkslaw06.CureFollows': WHATEVER THE INPUT: true; the input reads as it did. -/
def cureFollowsSpec : ChangeSpec := { name := "cureFollows", fn := fun _ => fun
  | [d1, d2, d3] => { results := [.lit (.bool true)], args := [d1, d2, d3] }
  | _ => none }
def cureFollowsRow : OpenClaim := { program := "ytpeakfmjibfkpaagreat", sum := "676baa01c4639f3c5247fb124c03267a9fbf5c9608790a211239b6679f8009bf", func := "tyreworks/tyreworkslaw06.CureFollows", spec := "cureFollows", inPlace := ["math/bits.Add64", "math/bits.Sub64", "internal/abi.NoEscape", "internal/bytealg.MakeNoZero"], unfollowed := true, recurses := true, named := ["math/bits.divideError", "math/bits.overflowError"], plainKeys := false, apart := false }
def CureFollowsSaid : Prop := cureFollowsRow.holds Tryz.pinned (OpenSpec.ofChange cureFollowsSpec)

/-- ITS FALSE NEIGHBOUR: 'it returns false'. Refute it at one input. -/
def cureFollowsWrong : ChangeSpec := { name := "cureFollows", fn := fun _ => fun
  | [d1, d2, d3] => { results := [.lit (.bool false)], args := [d1, d2, d3] }
  | _ => none }
def CureFollowsWrongFalsely : Prop := cureFollowsRow.holds Tryz.pinned (OpenSpec.ofChange cureFollowsWrong)

/-- 'tyreworkslaw06.CureWhatever': WHATEVER THE INPUT: true; the input reads as it did. -/
def cureWhateverSpec : ChangeSpec := { name := "cureWhatever", fn := fun _ => fun
  | [d1, d2, d3, d4, d5, d6] => { results := [.lit (.bool true)], args := [d1, d2, d3, d4, d5, d6] }
  | _ => none }
def cureWhateverRow : OpenClaim := { program := "ytpeakfmjibfkpaagreat", sum := "676baa01c4639f3c5247fb124c03267a9fbf5c9608790a211239b6679f8009bf", func := "tyreworks/tyreworkslaw06.CureWhatever", spec := "cureWhatever", inPlace := ["math/bits.Add64", "math/bits.Sub64", "internal/abi.NoEscape", "internal/bytealg.MakeNoZero"], unfollowed := true, recurses := true, named := ["math/bits.divideError", "math/bits.overflowError"], plainKeys := false, apart := false }
def CureWhateverSaid : Prop := cureWhateverRow.holds Tryz.pinned (OpenSpec.ofChange cureWhateverSpec)

/-- ITS FALSE NEIGHBOUR: 'it returns false'. Refute it at one input. -/
def cureWhateverWrong : ChangeSpec := { name := "cureWhatever", fn := fun _ => fun
  | [d1, d2, d3, d4, d5, d6] => { results := [.lit (.bool false)], args := [d1, d2, d3, d4, d5, d6] }
  | _ => none }
def CureWhateverWrongFalsely : Prop := cureWhateverRow.holds Tryz.pinned (OpenSpec.ofChange cureWhateverWrong)

/-- 'tyreworkslaw06.CureLosses': WHATEVER THE INPUT: true; the input reads as it did. -/
def cureLossesSpec : ChangeSpec := { name := "cureLosses", fn := fun _ => fun
  | [d1, d2, d3, d4, d5, d6, d7, d8] => { results := [.lit (.bool true)], args := [d1, d2, d3, d4, d5, d6, d7, d8] }
  | _ => none }
def cureLossesRow : OpenClaim := { program := "ytpeakfmjibfkpaagreat", sum := "676baa01c4639f3c5247fb124c03267a9fbf5c9608790a211239b6679f8009bf", func := "tyreworks/tyreworkslaw06.CureLosses", spec := "cureLosses", inPlace := ["math/bits.Add64", "math/bits.Sub64", "internal/abi.NoEscape", "internal/bytealg.MakeNoZero"], unfollowed := true, recurses := true, named := ["math/bits.divideError", "math/bits.overflowError"], plainKeys := false, apart := false }
def CureLossesSaid : Prop := cureLossesRow.holds Tryz.pinned (OpenSpec.ofChange cureLossesSpec)

/-- ITS FALSE NEIGHBOUR: 'it returns false'. Refute it at one input. -/
def cureLossesWrong : ChangeSpec := { name := "cureLosses", fn := fun _ => fun
  | [d1, d2, d3, d4, d5, d6, d7, d8] => { results := [.lit (.bool false)], args := [d1, d2, d3, d4, d5, d6, d7, d8] }
  | _ => none }
def CureLossesWrongFalsely : Prop := cureLossesRow.holds Tryz.pinned (OpenSpec.ofChange cureLossesWrong)

/-- 'tyreworkslaw06.CureCycles': WHATEVER THE INPUT: true; the input reads as it did. -/
def cureCyclesSpec : ChangeSpec := { name := "cureCycles", fn := fun _ => fun
  | [d1, d2, d3, d4, d5] => { results := [.lit (.bool true)], args := [d1, d2, d3, d4, d5] }
  | _ => none }
def cureCyclesRow : OpenClaim := { program := "ytpeakfmjibfkpaagreat", sum := "676baa01c4639f3c5247fb124c03267a9fbf5c9608790a211239b6679f8009bf", func := "tyreworks/tyreworkslaw06.CureCycles", spec := "cureCycles", inPlace := ["math/bits.Add64", "math/bits.Sub64", "internal/abi.NoEscape", "internal/bytealg.MakeNoZero"], unfollowed := true, recurses := true, named := ["math/bits.divideError", "math/bits.overflowError"], plainKeys := false, apart := false }
def CureCyclesSaid : Prop := cureCyclesRow.holds Tryz.pinned (OpenSpec.ofChange cureCyclesSpec)

/-- ITS FALSE NEIGHBOUR: 'it returns false'. Refute it at one input. -/
def cureCyclesWrong : ChangeSpec := { name := "cureCycles", fn := fun _ => fun
  | [d1, d2, d3, d4, d5] => { results := [.lit (.bool false)], args := [d1, d2, d3, d4, d5] }
  | _ => none }
def CureCyclesWrongFalsely : Prop := cureCyclesRow.holds Tryz.pinned (OpenSpec.ofChange cureCyclesWrong)

/- THE SECOND FORM. 'bulk': how many values and letters a reading holds, each counted each time it is reached (what is shared counts as often as it is met; a slice's spare places count too). A statement '..UptoSaid' is the law's where the arguments, and the package variables that the reading takes, are together of bulk at most 1048576: NARROWER than '..Said'. Prove '..Said' where nothing that the law and all that it calls make is longer than what came in: it says more and counts as full. Else prove '..UptoSaid'. A law counts once. -/
mutual
def uptoBulk {H : Type} : DataW H → Nat
  | .lit (.string bytes) => bytes.length + 1
  | .lit _ => 1
  | .nil => 1
  | .ptr d => uptoBulk d + 1
  | .slice elems spare => uptoBulkAll elems + uptoBulkAll spare + 1
  | .agg parts => uptoBulkAll parts + 1
  | .iface _ d => uptoBulk d + 1
  | .map entries => uptoBulkEntries entries + 1
  | .held _ => 1
def uptoBulkAll {H : Type} : List (DataW H) → Nat
  | [] => 0
  | d :: r => uptoBulk d + uptoBulkAll r
def uptoBulkEntries {H : Type} : List (Lit × DataW H) → Nat
  | [] => 0
  | x :: r => uptoBulkEntry x + uptoBulkEntries r
def uptoBulkEntry {H : Type} : Lit × DataW H → Nat
  | (.string bytes, d) => bytes.length + uptoBulk d + 1
  | (_, d) => uptoBulk d + 1
 end
def uptoSmall : (H : Type) → List (DataW H) → Bool := fun _ ds => decide (uptoBulkAll ds ≤ 1048576)
def OpenSpec.upto (s : _root_.Go.ChangeSpec) : _root_.Go.OpenSpec := { _root_.Go.OpenSpec.ofChange s with cond := some uptoSmall }

/-- 'tyreworkslaw06.CureBands', WHERE WHAT IT READS IS OF BULK AT MOST 1048576: true; the input reads as it did. -/
def cureBandsUptoRow : OpenClaim := { program := "ytpeakfmjibfkpaagreat", sum := "676baa01c4639f3c5247fb124c03267a9fbf5c9608790a211239b6679f8009bf", func := "tyreworks/tyreworkslaw06.CureBands", spec := "cureBands", inPlace := ["math/bits.Add64", "math/bits.Sub64", "internal/abi.NoEscape", "internal/bytealg.MakeNoZero"], unfollowed := true, recurses := true, named := ["math/bits.divideError", "math/bits.overflowError"], plainKeys := false, apart := false, narrowed := true }
def CureBandsUptoSaid : Prop := cureBandsUptoRow.holds Tryz.pinned (OpenSpec.upto cureBandsSpec)

/-- 'tyreworkslaw06.CureJudges', WHERE WHAT IT READS IS OF BULK AT MOST 1048576: true; the input reads as it did. -/
def cureJudgesUptoRow : OpenClaim := { program := "ytpeakfmjibfkpaagreat", sum := "676baa01c4639f3c5247fb124c03267a9fbf5c9608790a211239b6679f8009bf", func := "tyreworks/tyreworkslaw06.CureJudges", spec := "cureJudges", inPlace := ["math/bits.Add64", "math/bits.Sub64", "internal/abi.NoEscape", "internal/bytealg.MakeNoZero"], unfollowed := true, recurses := true, named := ["math/bits.divideError", "math/bits.overflowError"], plainKeys := false, apart := false, narrowed := true }
def CureJudgesUptoSaid : Prop := cureJudgesUptoRow.holds Tryz.pinned (OpenSpec.upto cureJudgesSpec)

/-- 'tyreworkslaw06.CureShortest', WHERE WHAT IT READS IS OF BULK AT MOST 1048576: true; the input reads as it did. -/
def cureShortestUptoRow : OpenClaim := { program := "ytpeakfmjibfkpaagreat", sum := "676baa01c4639f3c5247fb124c03267a9fbf5c9608790a211239b6679f8009bf", func := "tyreworks/tyreworkslaw06.CureShortest", spec := "cureShortest", inPlace := ["math/bits.Add64", "math/bits.Sub64", "internal/abi.NoEscape", "internal/bytealg.MakeNoZero"], unfollowed := true, recurses := true, named := ["math/bits.divideError", "math/bits.overflowError"], plainKeys := false, apart := false, narrowed := true }
def CureShortestUptoSaid : Prop := cureShortestUptoRow.holds Tryz.pinned (OpenSpec.upto cureShortestSpec)

/-- 'tyreworkslaw06.CureFollows', WHERE WHAT IT READS IS OF BULK AT MOST 1048576: true; the input reads as it did. -/
def cureFollowsUptoRow : OpenClaim := { program := "ytpeakfmjibfkpaagreat", sum := "676baa01c4639f3c5247fb124c03267a9fbf5c9608790a211239b6679f8009bf", func := "tyreworks/tyreworkslaw06.CureFollows", spec := "cureFollows", inPlace := ["math/bits.Add64", "math/bits.Sub64", "internal/abi.NoEscape", "internal/bytealg.MakeNoZero"], unfollowed := true, recurses := true, named := ["math/bits.divideError", "math/bits.overflowError"], plainKeys := false, apart := false, narrowed := true }
def CureFollowsUptoSaid : Prop := cureFollowsUptoRow.holds Tryz.pinned (OpenSpec.upto cureFollowsSpec)

/-- 'tyreworkslaw06.CureWhatever', WHERE WHAT IT READS IS OF BULK AT MOST 1048576: true; the input reads as it did. -/
def cureWhateverUptoRow : OpenClaim := { program := "ytpeakfmjibfkpaagreat", sum := "676baa01c4639f3c5247fb124c03267a9fbf5c9608790a211239b6679f8009bf", func := "tyreworks/tyreworkslaw06.CureWhatever", spec := "cureWhatever", inPlace := ["math/bits.Add64", "math/bits.Sub64", "internal/abi.NoEscape", "internal/bytealg.MakeNoZero"], unfollowed := true, recurses := true, named := ["math/bits.divideError", "math/bits.overflowError"], plainKeys := false, apart := false, narrowed := true }
def CureWhateverUptoSaid : Prop := cureWhateverUptoRow.holds Tryz.pinned (OpenSpec.upto cureWhateverSpec)

/-- 'tyreworkslaw06.CureLosses', WHERE WHAT IT READS IS OF BULK AT MOST 1048576: true; the input reads as it did. -/
def cureLossesUptoRow : OpenClaim := { program := "ytpeakfmjibfkpaagreat", sum := "676baa01c4639f3c5247fb124c03267a9fbf5c9608790a211239b6679f8009bf", func := "tyreworks/tyreworkslaw06.CureLosses", spec := "cureLosses", inPlace := ["math/bits.Add64", "math/bits.Sub64", "internal/abi.NoEscape", "internal/bytealg.MakeNoZero"], unfollowed := true, recurses := true, named := ["math/bits.divideError", "math/bits.overflowError"], plainKeys := false, apart := false, narrowed := true }
def CureLossesUptoSaid : Prop := cureLossesUptoRow.holds Tryz.pinned (OpenSpec.upto cureLossesSpec)

/-- 'tyreworkslaw06.CureCycles', WHERE WHAT IT READS IS OF BULK AT MOST 1048576: true; the input reads as it did. -/
def cureCyclesUptoRow : OpenClaim := { program := "ytpeakfmjibfkpaagreat", sum := "676baa01c4639f3c5247fb124c03267a9fbf5c9608790a211239b6679f8009bf", func := "tyreworks/tyreworkslaw06.CureCycles", spec := "cureCycles", inPlace := ["math/bits.Add64", "math/bits.Sub64", "internal/abi.NoEscape", "internal/bytealg.MakeNoZero"], unfollowed := true, recurses := true, named := ["math/bits.divideError", "math/bits.overflowError"], plainKeys := false, apart := false, narrowed := true }
def CureCyclesUptoSaid : Prop := cureCyclesUptoRow.holds Tryz.pinned (OpenSpec.upto cureCyclesSpec)

end Rows
end Go.Proofs.YtpeakfmjibfkpaaGreat
