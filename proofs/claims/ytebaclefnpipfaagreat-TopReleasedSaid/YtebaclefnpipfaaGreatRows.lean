/-
  No cell of these rows narrows 'for every input' (looked for: loops, veiled, ifaces, maps, wideKeys, modest, calm, conditions, laid).
  DERIVED. THE GIVEN ROWS OF THIS SEAT. 2 by the template 'for every input the law returns true; each argument reads behind the call as it read before'; 0 by the template 'total and deterministic' (their statements: YtebaclefnpipfaaGreatTotals.lean).
  GIVEN WITH THE SEED: the statements are not yours to turn. If you find one false, say at which input.
  Laid BY PROGRAM, IN A SANDBOX (cutbox-rows.mjs): the forced cells as the released guide's own fill.sh prints them over the translation c129aa602f5bd47e… (all of the seat's roots in one cut). By AI agents, Wed Nov 11 2026. No macro, syntax, notation, axiom, sorry.
-/
import Derived.Test.YtebaclefnpipfaaGreatChecked
import GoSem.Claim
import GoSem.ClaimJoined
import GoSem.ClaimMapViews
import Derived.JoinedTies
import Derived.KernelRfl
namespace Go.Proofs.YtebaclefnpipfaaGreat
/- THE CELL 'sum', in the pinned program and in every row, IS THE sha256 OF THE DUMP (.gsa) THAT YtebaclefnpipfaaGreatProg.lean LOADS. Nothing in Lean hashes anything: it is a label: what it is worth is what the hold of that sum in a sandbox is worth. -/
noncomputable def Tryz.pinned : Pinned := { name := "ytebaclefnpipfaagreat", sum := "c129aa602f5bd47e5a7a0a453482770562b7567a7b544e45a0d9602650ba268d", checked := Tryz.checked }
namespace Rows
def none {H : Type} : Left H := { results := [], args := [] }

/-- 'tyreworkstop.TopLostSteam': WHATEVER THE INPUT: true; the input reads as it did. -/
def topLostSteamSpec : ChangeSpec := { name := "topLostSteam", fn := fun _ => fun
  | [d1, d2, d3, d4, d5] => { results := [.lit (.bool true)], args := [d1, d2, d3, d4, d5] }
  | _ => none }
def topLostSteamRow : OpenClaim := { program := "ytebaclefnpipfaagreat", sum := "c129aa602f5bd47e5a7a0a453482770562b7567a7b544e45a0d9602650ba268d", func := "tyreworks/tyreworkstop.TopLostSteam", spec := "topLostSteam", inPlace := ["math/bits.Add64", "math/bits.Sub64", "internal/abi.NoEscape", "internal/bytealg.MakeNoZero"], unfollowed := true, recurses := true, named := ["math/bits.divideError", "math/bits.overflowError"], plainKeys := false, apart := false }
def TopLostSteamSaid : Prop := topLostSteamRow.holds Tryz.pinned (OpenSpec.ofChange topLostSteamSpec)

/-- ITS FALSE NEIGHBOUR: 'it returns false'. Refute it at one input. -/
def topLostSteamWrong : ChangeSpec := { name := "topLostSteam", fn := fun _ => fun
  | [d1, d2, d3, d4, d5] => { results := [.lit (.bool false)], args := [d1, d2, d3, d4, d5] }
  | _ => none }
def TopLostSteamWrongFalsely : Prop := topLostSteamRow.holds Tryz.pinned (OpenSpec.ofChange topLostSteamWrong)

/-- 'tyreworkstop.TopReleased': WHATEVER THE INPUT: true; the input reads as it did. -/
def topReleasedSpec : ChangeSpec := { name := "topReleased", fn := fun _ => fun
  | [d1, d2, d3, d4] => { results := [.lit (.bool true)], args := [d1, d2, d3, d4] }
  | _ => none }
def topReleasedRow : OpenClaim := { program := "ytebaclefnpipfaagreat", sum := "c129aa602f5bd47e5a7a0a453482770562b7567a7b544e45a0d9602650ba268d", func := "tyreworks/tyreworkstop.TopReleased", spec := "topReleased", inPlace := ["math/bits.Add64", "math/bits.Sub64", "internal/abi.NoEscape", "internal/bytealg.MakeNoZero"], unfollowed := true, recurses := true, named := ["math/bits.divideError", "math/bits.overflowError"], plainKeys := false, apart := false }
def TopReleasedSaid : Prop := topReleasedRow.holds Tryz.pinned (OpenSpec.ofChange topReleasedSpec)

/-- ITS FALSE NEIGHBOUR: 'it returns false'. Refute it at one input. -/
def topReleasedWrong : ChangeSpec := { name := "topReleased", fn := fun _ => fun
  | [d1, d2, d3, d4] => { results := [.lit (.bool false)], args := [d1, d2, d3, d4] }
  | _ => none }
def TopReleasedWrongFalsely : Prop := topReleasedRow.holds Tryz.pinned (OpenSpec.ofChange topReleasedWrong)

/- THE SECOND FORM. 'bulk': how many values and letters a reading holds, each counted each time it is reached (what is shared counts as often as it is met; a slice's spare places count too). A statement '..UptoSaid' is the law's where the arguments, and the package variables that the reading takes, are together of bulk at most 1048576: NARROWER than '..Said'. Prove '..Said' where nothing that the law and all that it calls make is longer than what came in: it says more and counts as full. Else prove '..UptoSaid'. A law counts once. -/
mutual
def uptoBulk {H : Type} : DataW H → Nat
  | .lit (.string bytes) => bytes.length + 1
  | .lit _ => 1
  | .nil => 1
  | .ptr d => uptoBulk d + 1
  | .slice elems spare => uptoBulkAll elems + uptoBulkAll spare + 1
  | .agg parts => uptoBulkAll parts + 1
  | .iface _ d => uptoBulk d + 1
  | .map entries => uptoBulkEntries entries + 1
  | .held _ => 1
def uptoBulkAll {H : Type} : List (DataW H) → Nat
  | [] => 0
  | d :: r => uptoBulk d + uptoBulkAll r
def uptoBulkEntries {H : Type} : List (Lit × DataW H) → Nat
  | [] => 0
  | x :: r => uptoBulkEntry x + uptoBulkEntries r
def uptoBulkEntry {H : Type} : Lit × DataW H → Nat
  | (.string bytes, d) => bytes.length + uptoBulk d + 1
  | (_, d) => uptoBulk d + 1
 end
def uptoSmall : (H : Type) → List (DataW H) → Bool := fun _ ds => decide (uptoBulkAll ds ≤ 1048576)
def OpenSpec.upto (s : _root_.Go.ChangeSpec) : _root_.Go.OpenSpec := { _root_.Go.OpenSpec.ofChange s with cond := some uptoSmall }

/-- 'tyreworkstop.TopLostSteam', WHERE WHAT IT READS IS OF BULK AT MOST 1048576: true; the input reads as it did. -/
def topLostSteamUptoRow : OpenClaim := { program := "ytebaclefnpipfaagreat", sum := "c129aa602f5bd47e5a7a0a453482770562b7567a7b544e45a0d9602650ba268d", func := "tyreworks/tyreworkstop.TopLostSteam", spec := "topLostSteam", inPlace := ["math/bits.Add64", "math/bits.Sub64", "internal/abi.NoEscape", "internal/bytealg.MakeNoZero"], unfollowed := true, recurses := true, named := ["math/bits.divideError", "math/bits.overflowError"], plainKeys := false, apart := false, narrowed := true }
def TopLostSteamUptoSaid : Prop := topLostSteamUptoRow.holds Tryz.pinned (OpenSpec.upto topLostSteamSpec)

/-- 'tyreworkstop.TopReleased', WHERE WHAT IT READS IS OF BULK AT MOST 1048576: true; the input reads as it did. -/
def topReleasedUptoRow : OpenClaim := { program := "ytebaclefnpipfaagreat", sum := "c129aa602f5bd47e5a7a0a453482770562b7567a7b544e45a0d9602650ba268d", func := "tyreworks/tyreworkstop.TopReleased", spec := "topReleased", inPlace := ["math/bits.Add64", "math/bits.Sub64", "internal/abi.NoEscape", "internal/bytealg.MakeNoZero"], unfollowed := true, recurses := true, named := ["math/bits.divideError", "math/bits.overflowError"], plainKeys := false, apart := false, narrowed := true }
def TopReleasedUptoSaid : Prop := topReleasedUptoRow.holds Tryz.pinned (OpenSpec.upto topReleasedSpec)

end Rows
end Go.Proofs.YtebaclefnpipfaaGreat
