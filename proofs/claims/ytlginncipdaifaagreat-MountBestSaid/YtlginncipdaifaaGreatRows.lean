/-
  No cell of these rows narrows 'for every input' (looked for: loops, veiled, ifaces, maps, wideKeys, modest, calm, conditions, laid).
  DERIVED. THE GIVEN ROWS OF THIS SEAT. 8 by the template 'for every input the law returns true; each argument reads behind the call as it read before'; 0 by the template 'total and deterministic' (their statements: YtlginncipdaifaaGreatTotals.lean).
  GIVEN WITH THE SEED: the statements are not yours to turn. If you find one false, say at which input.
  Laid BY PROGRAM, IN A SANDBOX (cutbox-rows.mjs): the forced cells as the released guide's own fill.sh prints them over the translation bde1be1443b036d4… (all of the seat's roots in one cut). By AI agents, Wed Nov 11 2026. No macro, syntax, notation, axiom, sorry.
-/
import Derived.Test.YtlginncipdaifaaGreatChecked
import GoSem.Claim
import GoSem.ClaimJoined
import GoSem.ClaimMapViews
import Derived.JoinedTies
import Derived.KernelRfl
namespace Go.Proofs.YtlginncipdaifaaGreat
/- THE CELL 'sum', in the pinned program and in every row, IS THE sha256 OF THE DUMP (.gsa) THAT YtlginncipdaifaaGreatProg.lean LOADS. Nothing in Lean hashes anything: it is a label: what it is worth is what the hold of that sum in a sandbox is worth. -/
noncomputable def Tryz.pinned : Pinned := { name := "ytlginncipdaifaagreat", sum := "bde1be1443b036d4f6815a256bb5ea5b5f969ff4cbb5a22d26b5b149d451788c", checked := Tryz.checked }
namespace Rows
def none {H : Type} : Left H := { results := [], args := [] }

/-- 'tyreworkslaw07.MountBest': WHATEVER THE INPUT: true; the input reads as it did. -/
def mountBestSpec : ChangeSpec := { name := "mountBest", fn := fun _ => fun
  | [d1, d2, d3] => { results := [.lit (.bool true)], args := [d1, d2, d3] }
  | _ => none }
def mountBestRow : OpenClaim := { program := "ytlginncipdaifaagreat", sum := "bde1be1443b036d4f6815a256bb5ea5b5f969ff4cbb5a22d26b5b149d451788c", func := "tyreworks/tyreworkslaw07.MountBest", spec := "mountBest", inPlace := ["math/bits.Add64", "math/bits.Sub64", "internal/abi.NoEscape", "internal/bytealg.MakeNoZero"], unfollowed := true, recurses := true, named := ["math/bits.divideError", "math/bits.overflowError"], apart := false }
def MountBestSaid : Prop := mountBestRow.holds Tryz.pinned (OpenSpec.ofChange mountBestSpec)

/-- ITS FALSE NEIGHBOUR: 'it returns false'. Refute it at one input. -/
def mountBestWrong : ChangeSpec := { name := "mountBest", fn := fun _ => fun
  | [d1, d2, d3] => { results := [.lit (.bool false)], args := [d1, d2, d3] }
  | _ => none }
def MountBestWrongFalsely : Prop := mountBestRow.holds Tryz.pinned (OpenSpec.ofChange mountBestWrong)

/-- 'tyreworkslaw03.OrdersSynthesizes': WHATEVER THE INPUT: true; the input reads as it did. -/
def ordersSynthesizesSpec : ChangeSpec := { name := "ordersSynthesizes", fn := fun _ => fun
  | [d] => { results := [.lit (.bool true)], args := [d] }
  | _ => none }
def ordersSynthesizesRow : OpenClaim := { program := "ytlginncipdaifaagreat", sum := "bde1be1443b036d4f6815a256bb5ea5b5f969ff4cbb5a22d26b5b149d451788c", func := "tyreworks/tyreworkslaw03.OrdersSynthesizes", spec := "ordersSynthesizes", inPlace := ["math/bits.Add64", "math/bits.Sub64", "internal/abi.NoEscape", "internal/bytealg.MakeNoZero"], unfollowed := true, recurses := true, named := ["math/bits.divideError", "math/bits.overflowError"], apart := false }
def OrdersSynthesizesSaid : Prop := ordersSynthesizesRow.holds Tryz.pinned (OpenSpec.ofChange ordersSynthesizesSpec)

/-- ITS FALSE NEIGHBOUR: 'it returns false'. Refute it at one input. -/
def ordersSynthesizesWrong : ChangeSpec := { name := "ordersSynthesizes", fn := fun _ => fun
  | [d] => { results := [.lit (.bool false)], args := [d] }
  | _ => none }
def OrdersSynthesizesWrongFalsely : Prop := ordersSynthesizesRow.holds Tryz.pinned (OpenSpec.ofChange ordersSynthesizesWrong)

/-- 'tyreworkslaw03.OrdersMeasures': WHATEVER THE INPUT: true; the input reads as it did. -/
def ordersMeasuresSpec : ChangeSpec := { name := "ordersMeasures", fn := fun _ => fun
  | [d1, d2, d3, d4] => { results := [.lit (.bool true)], args := [d1, d2, d3, d4] }
  | _ => none }
def ordersMeasuresRow : OpenClaim := { program := "ytlginncipdaifaagreat", sum := "bde1be1443b036d4f6815a256bb5ea5b5f969ff4cbb5a22d26b5b149d451788c", func := "tyreworks/tyreworkslaw03.OrdersMeasures", spec := "ordersMeasures", inPlace := ["math/bits.Add64", "math/bits.Sub64", "internal/abi.NoEscape", "internal/bytealg.MakeNoZero"], unfollowed := true, recurses := true, named := ["math/bits.divideError", "math/bits.overflowError"], apart := false }
def OrdersMeasuresSaid : Prop := ordersMeasuresRow.holds Tryz.pinned (OpenSpec.ofChange ordersMeasuresSpec)

/-- ITS FALSE NEIGHBOUR: 'it returns false'. Refute it at one input. -/
def ordersMeasuresWrong : ChangeSpec := { name := "ordersMeasures", fn := fun _ => fun
  | [d1, d2, d3, d4] => { results := [.lit (.bool false)], args := [d1, d2, d3, d4] }
  | _ => none }
def OrdersMeasuresWrongFalsely : Prop := ordersMeasuresRow.holds Tryz.pinned (OpenSpec.ofChange ordersMeasuresWrong)

/-- 'tyreworkslaw03.OrdersSides': WHATEVER THE INPUT: true; the input reads as it did. -/
def ordersSidesSpec : ChangeSpec := { name := "ordersSides", fn := fun _ => fun
  | [d] => { results := [.lit (.bool true)], args := [d] }
  | _ => none }
def ordersSidesRow : OpenClaim := { program := "ytlginncipdaifaagreat", sum := "bde1be1443b036d4f6815a256bb5ea5b5f969ff4cbb5a22d26b5b149d451788c", func := "tyreworks/tyreworkslaw03.OrdersSides", spec := "ordersSides", inPlace := ["math/bits.Add64", "math/bits.Sub64", "internal/abi.NoEscape", "internal/bytealg.MakeNoZero"], unfollowed := true, recurses := true, named := ["math/bits.divideError", "math/bits.overflowError"], apart := false }
def OrdersSidesSaid : Prop := ordersSidesRow.holds Tryz.pinned (OpenSpec.ofChange ordersSidesSpec)

/-- ITS FALSE NEIGHBOUR: 'it returns false'. Refute it at one input. -/
def ordersSidesWrong : ChangeSpec := { name := "ordersSides", fn := fun _ => fun
  | [d] => { results := [.lit (.bool false)], args := [d] }
  | _ => none }
def OrdersSidesWrongFalsely : Prop := ordersSidesRow.holds Tryz.pinned (OpenSpec.ofChange ordersSidesWrong)

/-- 'tyreworkslaw03.OrdersParts': WHATEVER THE INPUT: true; the input reads as it did. -/
def ordersPartsSpec : ChangeSpec := { name := "ordersParts", fn := fun _ => fun
  | [d1, d2, d3] => { results := [.lit (.bool true)], args := [d1, d2, d3] }
  | _ => none }
def ordersPartsRow : OpenClaim := { program := "ytlginncipdaifaagreat", sum := "bde1be1443b036d4f6815a256bb5ea5b5f969ff4cbb5a22d26b5b149d451788c", func := "tyreworks/tyreworkslaw03.OrdersParts", spec := "ordersParts", inPlace := ["math/bits.Add64", "math/bits.Sub64", "internal/abi.NoEscape", "internal/bytealg.MakeNoZero"], unfollowed := true, recurses := true, named := ["math/bits.divideError", "math/bits.overflowError"], apart := false }
def OrdersPartsSaid : Prop := ordersPartsRow.holds Tryz.pinned (OpenSpec.ofChange ordersPartsSpec)

/-- ITS FALSE NEIGHBOUR: 'it returns false'. Refute it at one input. -/
def ordersPartsWrong : ChangeSpec := { name := "ordersParts", fn := fun _ => fun
  | [d1, d2, d3] => { results := [.lit (.bool false)], args := [d1, d2, d3] }
  | _ => none }
def OrdersPartsWrongFalsely : Prop := ordersPartsRow.holds Tryz.pinned (OpenSpec.ofChange ordersPartsWrong)

/-- 'tyreworkslaw03.OrdersTurns': WHATEVER THE INPUT: true; the input reads as it did. -/
def ordersTurnsSpec : ChangeSpec := { name := "ordersTurns", fn := fun _ => fun
  | [d1, d2, d3, d4] => { results := [.lit (.bool true)], args := [d1, d2, d3, d4] }
  | _ => none }
def ordersTurnsRow : OpenClaim := { program := "ytlginncipdaifaagreat", sum := "bde1be1443b036d4f6815a256bb5ea5b5f969ff4cbb5a22d26b5b149d451788c", func := "tyreworks/tyreworkslaw03.OrdersTurns", spec := "ordersTurns", inPlace := ["math/bits.Add64", "math/bits.Sub64", "internal/abi.NoEscape", "internal/bytealg.MakeNoZero"], unfollowed := true, recurses := true, named := ["math/bits.divideError", "math/bits.overflowError"], apart := false }
def OrdersTurnsSaid : Prop := ordersTurnsRow.holds Tryz.pinned (OpenSpec.ofChange ordersTurnsSpec)

/-- ITS FALSE NEIGHBOUR: 'it returns false'. Refute it at one input. -/
def ordersTurnsWrong : ChangeSpec := { name := "ordersTurns", fn := fun _ => fun
  | [d1, d2, d3, d4] => { results := [.lit (.bool false)], args := [d1, d2, d3, d4] }
  | _ => none }
def OrdersTurnsWrongFalsely : Prop := ordersTurnsRow.holds Tryz.pinned (OpenSpec.ofChange ordersTurnsWrong)

/-- 'tyreworkslaw03.OrdersAnalyzes': WHATEVER THE INPUT: true; the input reads as it did. -/
def ordersAnalyzesSpec : ChangeSpec := { name := "ordersAnalyzes", fn := fun _ => fun
  | [d] => { results := [.lit (.bool true)], args := [d] }
  | _ => none }
def ordersAnalyzesRow : OpenClaim := { program := "ytlginncipdaifaagreat", sum := "bde1be1443b036d4f6815a256bb5ea5b5f969ff4cbb5a22d26b5b149d451788c", func := "tyreworks/tyreworkslaw03.OrdersAnalyzes", spec := "ordersAnalyzes", inPlace := ["math/bits.Add64", "math/bits.Sub64", "internal/abi.NoEscape", "internal/bytealg.MakeNoZero"], unfollowed := true, recurses := true, named := ["math/bits.divideError", "math/bits.overflowError"], apart := false }
def OrdersAnalyzesSaid : Prop := ordersAnalyzesRow.holds Tryz.pinned (OpenSpec.ofChange ordersAnalyzesSpec)

/-- ITS FALSE NEIGHBOUR: 'it returns false'. Refute it at one input. -/
def ordersAnalyzesWrong : ChangeSpec := { name := "ordersAnalyzes", fn := fun _ => fun
  | [d] => { results := [.lit (.bool false)], args := [d] }
  | _ => none }
def OrdersAnalyzesWrongFalsely : Prop := ordersAnalyzesRow.holds Tryz.pinned (OpenSpec.ofChange ordersAnalyzesWrong)

/-- 'tyreworkslaw03.OrdersTurnings': WHATEVER THE INPUT: true; the input reads as it did. -/
def ordersTurningsSpec : ChangeSpec := { name := "ordersTurnings", fn := fun _ => fun
  | [d1, d2, d3, d4] => { results := [.lit (.bool true)], args := [d1, d2, d3, d4] }
  | _ => none }
def ordersTurningsRow : OpenClaim := { program := "ytlginncipdaifaagreat", sum := "bde1be1443b036d4f6815a256bb5ea5b5f969ff4cbb5a22d26b5b149d451788c", func := "tyreworks/tyreworkslaw03.OrdersTurnings", spec := "ordersTurnings", inPlace := ["math/bits.Add64", "math/bits.Sub64", "internal/abi.NoEscape", "internal/bytealg.MakeNoZero"], unfollowed := true, recurses := true, named := ["math/bits.divideError", "math/bits.overflowError"], apart := false }
def OrdersTurningsSaid : Prop := ordersTurningsRow.holds Tryz.pinned (OpenSpec.ofChange ordersTurningsSpec)

/-- ITS FALSE NEIGHBOUR: 'it returns false'. Refute it at one input. -/
def ordersTurningsWrong : ChangeSpec := { name := "ordersTurnings", fn := fun _ => fun
  | [d1, d2, d3, d4] => { results := [.lit (.bool false)], args := [d1, d2, d3, d4] }
  | _ => none }
def OrdersTurningsWrongFalsely : Prop := ordersTurningsRow.holds Tryz.pinned (OpenSpec.ofChange ordersTurningsWrong)

/- THE SECOND FORM. 'bulk': how many values and letters a reading holds, each counted each time it is reached (what is shared counts as often as it is met; a slice's spare places count too). A statement '..UptoSaid' is the law's where the arguments, and the package variables that the reading takes, are together of bulk at most 1048576: NARROWER than '..Said'. Prove '..Said' where nothing that the law and all that it calls make is longer than what came in: it says more and counts as full. Else prove '..UptoSaid'. A law counts once. -/
mutual
def uptoBulk {H : Type} : DataW H → Nat
  | .lit (.string bytes) => bytes.length + 1
  | .lit _ => 1
  | .nil => 1
  | .ptr d => uptoBulk d + 1
  | .slice elems spare => uptoBulkAll elems + uptoBulkAll spare + 1
  | .agg parts => uptoBulkAll parts + 1
  | .iface _ d => uptoBulk d + 1
  | .map entries => uptoBulkEntries entries + 1
  | .held _ => 1
def uptoBulkAll {H : Type} : List (DataW H) → Nat
  | [] => 0
  | d :: r => uptoBulk d + uptoBulkAll r
def uptoBulkEntries {H : Type} : List (Lit × DataW H) → Nat
  | [] => 0
  | x :: r => uptoBulkEntry x + uptoBulkEntries r
def uptoBulkEntry {H : Type} : Lit × DataW H → Nat
  | (.string bytes, d) => bytes.length + uptoBulk d + 1
  | (_, d) => uptoBulk d + 1
 end
def uptoSmall : (H : Type) → List (DataW H) → Bool := fun _ ds => decide (uptoBulkAll ds ≤ 1048576)
def OpenSpec.upto (s : _root_.Go.ChangeSpec) : _root_.Go.OpenSpec := { _root_.Go.OpenSpec.ofChange s with cond := some uptoSmall }

/-- 'tyreworkslaw07.MountBest', WHERE WHAT IT READS IS OF BULK AT MOST 1048576: true; the input reads as it did. -/
def mountBestUptoRow : OpenClaim := { program := "ytlginncipdaifaagreat", sum := "bde1be1443b036d4f6815a256bb5ea5b5f969ff4cbb5a22d26b5b149d451788c", func := "tyreworks/tyreworkslaw07.MountBest", spec := "mountBest", inPlace := ["math/bits.Add64", "math/bits.Sub64", "internal/abi.NoEscape", "internal/bytealg.MakeNoZero"], unfollowed := true, recurses := true, named := ["math/bits.divideError", "math/bits.overflowError"], apart := false, narrowed := true }
def MountBestUptoSaid : Prop := mountBestUptoRow.holds Tryz.pinned (OpenSpec.upto mountBestSpec)

/-- 'tyreworkslaw03.OrdersSynthesizes', WHERE WHAT IT READS IS OF BULK AT MOST 1048576: true; the input reads as it did. -/
def ordersSynthesizesUptoRow : OpenClaim := { program := "ytlginncipdaifaagreat", sum := "bde1be1443b036d4f6815a256bb5ea5b5f969ff4cbb5a22d26b5b149d451788c", func := "tyreworks/tyreworkslaw03.OrdersSynthesizes", spec := "ordersSynthesizes", inPlace := ["math/bits.Add64", "math/bits.Sub64", "internal/abi.NoEscape", "internal/bytealg.MakeNoZero"], unfollowed := true, recurses := true, named := ["math/bits.divideError", "math/bits.overflowError"], apart := false, narrowed := true }
def OrdersSynthesizesUptoSaid : Prop := ordersSynthesizesUptoRow.holds Tryz.pinned (OpenSpec.upto ordersSynthesizesSpec)

/-- 'tyreworkslaw03.OrdersMeasures', WHERE WHAT IT READS IS OF BULK AT MOST 1048576: true; the input reads as it did. -/
def ordersMeasuresUptoRow : OpenClaim := { program := "ytlginncipdaifaagreat", sum := "bde1be1443b036d4f6815a256bb5ea5b5f969ff4cbb5a22d26b5b149d451788c", func := "tyreworks/tyreworkslaw03.OrdersMeasures", spec := "ordersMeasures", inPlace := ["math/bits.Add64", "math/bits.Sub64", "internal/abi.NoEscape", "internal/bytealg.MakeNoZero"], unfollowed := true, recurses := true, named := ["math/bits.divideError", "math/bits.overflowError"], apart := false, narrowed := true }
def OrdersMeasuresUptoSaid : Prop := ordersMeasuresUptoRow.holds Tryz.pinned (OpenSpec.upto ordersMeasuresSpec)

/-- 'tyreworkslaw03.OrdersSides', WHERE WHAT IT READS IS OF BULK AT MOST 1048576: true; the input reads as it did. -/
def ordersSidesUptoRow : OpenClaim := { program := "ytlginncipdaifaagreat", sum := "bde1be1443b036d4f6815a256bb5ea5b5f969ff4cbb5a22d26b5b149d451788c", func := "tyreworks/tyreworkslaw03.OrdersSides", spec := "ordersSides", inPlace := ["math/bits.Add64", "math/bits.Sub64", "internal/abi.NoEscape", "internal/bytealg.MakeNoZero"], unfollowed := true, recurses := true, named := ["math/bits.divideError", "math/bits.overflowError"], apart := false, narrowed := true }
def OrdersSidesUptoSaid : Prop := ordersSidesUptoRow.holds Tryz.pinned (OpenSpec.upto ordersSidesSpec)

/-- 'tyreworkslaw03.OrdersParts', WHERE WHAT IT READS IS OF BULK AT MOST 1048576: true; the input reads as it did. -/
def ordersPartsUptoRow : OpenClaim := { program := "ytlginncipdaifaagreat", sum := "bde1be1443b036d4f6815a256bb5ea5b5f969ff4cbb5a22d26b5b149d451788c", func := "tyreworks/tyreworkslaw03.OrdersParts", spec := "ordersParts", inPlace := ["math/bits.Add64", "math/bits.Sub64", "internal/abi.NoEscape", "internal/bytealg.MakeNoZero"], unfollowed := true, recurses := true, named := ["math/bits.divideError", "math/bits.overflowError"], apart := false, narrowed := true }
def OrdersPartsUptoSaid : Prop := ordersPartsUptoRow.holds Tryz.pinned (OpenSpec.upto ordersPartsSpec)

/-- 'tyreworkslaw03.OrdersTurns', WHERE WHAT IT READS IS OF BULK AT MOST 1048576: true; the input reads as it did. -/
def ordersTurnsUptoRow : OpenClaim := { program := "ytlginncipdaifaagreat", sum := "bde1be1443b036d4f6815a256bb5ea5b5f969ff4cbb5a22d26b5b149d451788c", func := "tyreworks/tyreworkslaw03.OrdersTurns", spec := "ordersTurns", inPlace := ["math/bits.Add64", "math/bits.Sub64", "internal/abi.NoEscape", "internal/bytealg.MakeNoZero"], unfollowed := true, recurses := true, named := ["math/bits.divideError", "math/bits.overflowError"], apart := false, narrowed := true }
def OrdersTurnsUptoSaid : Prop := ordersTurnsUptoRow.holds Tryz.pinned (OpenSpec.upto ordersTurnsSpec)

/-- 'tyreworkslaw03.OrdersAnalyzes', WHERE WHAT IT READS IS OF BULK AT MOST 1048576: true; the input reads as it did. -/
def ordersAnalyzesUptoRow : OpenClaim := { program := "ytlginncipdaifaagreat", sum := "bde1be1443b036d4f6815a256bb5ea5b5f969ff4cbb5a22d26b5b149d451788c", func := "tyreworks/tyreworkslaw03.OrdersAnalyzes", spec := "ordersAnalyzes", inPlace := ["math/bits.Add64", "math/bits.Sub64", "internal/abi.NoEscape", "internal/bytealg.MakeNoZero"], unfollowed := true, recurses := true, named := ["math/bits.divideError", "math/bits.overflowError"], apart := false, narrowed := true }
def OrdersAnalyzesUptoSaid : Prop := ordersAnalyzesUptoRow.holds Tryz.pinned (OpenSpec.upto ordersAnalyzesSpec)

/-- 'tyreworkslaw03.OrdersTurnings', WHERE WHAT IT READS IS OF BULK AT MOST 1048576: true; the input reads as it did. -/
def ordersTurningsUptoRow : OpenClaim := { program := "ytlginncipdaifaagreat", sum := "bde1be1443b036d4f6815a256bb5ea5b5f969ff4cbb5a22d26b5b149d451788c", func := "tyreworks/tyreworkslaw03.OrdersTurnings", spec := "ordersTurnings", inPlace := ["math/bits.Add64", "math/bits.Sub64", "internal/abi.NoEscape", "internal/bytealg.MakeNoZero"], unfollowed := true, recurses := true, named := ["math/bits.divideError", "math/bits.overflowError"], apart := false, narrowed := true }
def OrdersTurningsUptoSaid : Prop := ordersTurningsUptoRow.holds Tryz.pinned (OpenSpec.upto ordersTurningsSpec)

end Rows
end Go.Proofs.YtlginncipdaifaaGreat
