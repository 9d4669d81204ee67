/-
  No cell of these rows narrows 'for every input' (looked for: loops, veiled, ifaces, maps, wideKeys, modest, calm, conditions, laid).
  DERIVED. THE GIVEN ROWS OF THIS SEAT. 6 by the template 'for every input the law returns true; each argument reads behind the call as it read before'; 0 by the template 'total and deterministic' (their statements: YtpjakokgmgggiaaTotals.lean).
  GIVEN WITH THE SEED: the statements are not yours to turn. If you find one false, say at which input.
  Laid BY PROGRAM, IN A SANDBOX (cutbox-rows.mjs): the forced cells as the released guide's own fill.sh prints them over the translation e34b62e436a7bb23… (all of the seat's roots in one cut). By AI agents, Wed Nov 11 2026. No macro, syntax, notation, axiom, sorry.
-/
import Derived.Test.YtpjakokgmgggiaaChecked
import GoSem.Claim
import GoSem.ClaimJoined
import GoSem.ClaimMapViews
import Derived.JoinedTies
import Derived.KernelRfl
namespace Go.Proofs.Ytpjakokgmgggiaa
/- THE CELL 'sum', in the pinned program and in every row, IS THE sha256 OF THE DUMP (.gsa) THAT YtpjakokgmgggiaaProg.lean LOADS. Nothing in Lean hashes anything: it is a label: what it is worth is what the hold of that sum in a sandbox is worth. -/
noncomputable def Try.pinned : Pinned := { name := "ytpjakokgmgggiaa", sum := "e34b62e436a7bb23955d5ba7fa3cd54037ef856cf1ad540a4b8e899d4ddf65c4", checked := Try.checked }
namespace Rows
def none {H : Type} : Left H := { results := [], args := [] }

/-- 'tyreworkslaw01.ExactNews': WHATEVER THE INPUT: true; the input reads as it did. -/
def exactNewsSpec : ChangeSpec := { name := "exactNews", fn := fun _ => fun
  | [d1, d2] => { results := [.lit (.bool true)], args := [d1, d2] }
  | _ => none }
def exactNewsRow : OpenClaim := { program := "ytpjakokgmgggiaa", sum := "e34b62e436a7bb23955d5ba7fa3cd54037ef856cf1ad540a4b8e899d4ddf65c4", func := "tyreworks/tyreworkslaw01.ExactNews", spec := "exactNews", inPlace := ["math/bits.Add64", "math/bits.Sub64", "internal/abi.NoEscape", "internal/bytealg.MakeNoZero"], unfollowed := true, recurses := true, named := ["math/bits.divideError", "math/bits.overflowError"], apart := false }
def ExactNewsSaid : Prop := exactNewsRow.holds Try.pinned (OpenSpec.ofChange exactNewsSpec)

/-- ITS FALSE NEIGHBOUR: 'it returns false'. Refute it at one input. -/
def exactNewsWrong : ChangeSpec := { name := "exactNews", fn := fun _ => fun
  | [d1, d2] => { results := [.lit (.bool false)], args := [d1, d2] }
  | _ => none }
def ExactNewsWrongFalsely : Prop := exactNewsRow.holds Try.pinned (OpenSpec.ofChange exactNewsWrong)

/-- 'tyreworkslaw01.ExactTexts': WHATEVER THE INPUT: true; the input reads as it did. -/
def exactTextsSpec : ChangeSpec := { name := "exactTexts", fn := fun _ => fun
  | [d1, d2] => { results := [.lit (.bool true)], args := [d1, d2] }
  | _ => none }
def exactTextsRow : OpenClaim := { program := "ytpjakokgmgggiaa", sum := "e34b62e436a7bb23955d5ba7fa3cd54037ef856cf1ad540a4b8e899d4ddf65c4", func := "tyreworks/tyreworkslaw01.ExactTexts", spec := "exactTexts", inPlace := ["math/bits.Add64", "math/bits.Sub64", "internal/abi.NoEscape", "internal/bytealg.MakeNoZero"], unfollowed := true, recurses := true, named := ["math/bits.divideError", "math/bits.overflowError"], apart := false }
def ExactTextsSaid : Prop := exactTextsRow.holds Try.pinned (OpenSpec.ofChange exactTextsSpec)

/-- ITS FALSE NEIGHBOUR: 'it returns false'. Refute it at one input. -/
def exactTextsWrong : ChangeSpec := { name := "exactTexts", fn := fun _ => fun
  | [d1, d2] => { results := [.lit (.bool false)], args := [d1, d2] }
  | _ => none }
def ExactTextsWrongFalsely : Prop := exactTextsRow.holds Try.pinned (OpenSpec.ofChange exactTextsWrong)

/-- 'tyreworkslaw01.ExactParses': WHATEVER THE INPUT: true; the input reads as it did. -/
def exactParsesSpec : ChangeSpec := { name := "exactParses", fn := fun _ => fun
  | [d] => { results := [.lit (.bool true)], args := [d] }
  | _ => none }
def exactParsesRow : OpenClaim := { program := "ytpjakokgmgggiaa", sum := "e34b62e436a7bb23955d5ba7fa3cd54037ef856cf1ad540a4b8e899d4ddf65c4", func := "tyreworks/tyreworkslaw01.ExactParses", spec := "exactParses", inPlace := ["math/bits.Add64", "math/bits.Sub64", "internal/abi.NoEscape", "internal/bytealg.MakeNoZero"], unfollowed := true, recurses := true, named := ["math/bits.divideError", "math/bits.overflowError"], apart := false }
def ExactParsesSaid : Prop := exactParsesRow.holds Try.pinned (OpenSpec.ofChange exactParsesSpec)

/-- ITS FALSE NEIGHBOUR: 'it returns false'. Refute it at one input. -/
def exactParsesWrong : ChangeSpec := { name := "exactParses", fn := fun _ => fun
  | [d] => { results := [.lit (.bool false)], args := [d] }
  | _ => none }
def ExactParsesWrongFalsely : Prop := exactParsesRow.holds Try.pinned (OpenSpec.ofChange exactParsesWrong)

/-- 'tyreworkslaw01.ExactFields': WHATEVER THE INPUT: true; the input reads as it did. -/
def exactFieldsSpec : ChangeSpec := { name := "exactFields", fn := fun _ => fun
  | [d1, d2, d3] => { results := [.lit (.bool true)], args := [d1, d2, d3] }
  | _ => none }
def exactFieldsRow : OpenClaim := { program := "ytpjakokgmgggiaa", sum := "e34b62e436a7bb23955d5ba7fa3cd54037ef856cf1ad540a4b8e899d4ddf65c4", func := "tyreworks/tyreworkslaw01.ExactFields", spec := "exactFields", inPlace := ["math/bits.Add64", "math/bits.Sub64", "internal/abi.NoEscape", "internal/bytealg.MakeNoZero"], unfollowed := true, recurses := true, named := ["math/bits.divideError", "math/bits.overflowError"], apart := false }
def ExactFieldsSaid : Prop := exactFieldsRow.holds Try.pinned (OpenSpec.ofChange exactFieldsSpec)

/-- ITS FALSE NEIGHBOUR: 'it returns false'. Refute it at one input. -/
def exactFieldsWrong : ChangeSpec := { name := "exactFields", fn := fun _ => fun
  | [d1, d2, d3] => { results := [.lit (.bool false)], args := [d1, d2, d3] }
  | _ => none }
def ExactFieldsWrongFalsely : Prop := exactFieldsRow.holds Try.pinned (OpenSpec.ofChange exactFieldsWrong)

/-- 'tyreworkslaw01.ExactOrder': WHATEVER THE INPUT: true; the input reads as it did. -/
def exactOrderSpec : ChangeSpec := { name := "exactOrder", fn := fun _ => fun
  | [d1, d2, d3] => { results := [.lit (.bool true)], args := [d1, d2, d3] }
  | _ => none }
def exactOrderRow : OpenClaim := { program := "ytpjakokgmgggiaa", sum := "e34b62e436a7bb23955d5ba7fa3cd54037ef856cf1ad540a4b8e899d4ddf65c4", func := "tyreworks/tyreworkslaw01.ExactOrder", spec := "exactOrder", inPlace := ["math/bits.Add64", "math/bits.Sub64", "internal/abi.NoEscape", "internal/bytealg.MakeNoZero"], unfollowed := true, recurses := true, named := ["math/bits.divideError", "math/bits.overflowError"], apart := false }
def ExactOrderSaid : Prop := exactOrderRow.holds Try.pinned (OpenSpec.ofChange exactOrderSpec)

/-- ITS FALSE NEIGHBOUR: 'it returns false'. Refute it at one input. -/
def exactOrderWrong : ChangeSpec := { name := "exactOrder", fn := fun _ => fun
  | [d1, d2, d3] => { results := [.lit (.bool false)], args := [d1, d2, d3] }
  | _ => none }
def ExactOrderWrongFalsely : Prop := exactOrderRow.holds Try.pinned (OpenSpec.ofChange exactOrderWrong)

/-- 'tyreworkslaw01.ExactSizes': WHATEVER THE INPUT: true; the input reads as it did. -/
def exactSizesSpec : ChangeSpec := { name := "exactSizes", fn := fun _ => fun
  | [d1, d2] => { results := [.lit (.bool true)], args := [d1, d2] }
  | _ => none }
def exactSizesRow : OpenClaim := { program := "ytpjakokgmgggiaa", sum := "e34b62e436a7bb23955d5ba7fa3cd54037ef856cf1ad540a4b8e899d4ddf65c4", func := "tyreworks/tyreworkslaw01.ExactSizes", spec := "exactSizes", inPlace := ["math/bits.Add64", "math/bits.Sub64", "internal/abi.NoEscape", "internal/bytealg.MakeNoZero"], unfollowed := true, recurses := true, named := ["math/bits.divideError", "math/bits.overflowError"], apart := false }
def ExactSizesSaid : Prop := exactSizesRow.holds Try.pinned (OpenSpec.ofChange exactSizesSpec)

/-- ITS FALSE NEIGHBOUR: 'it returns false'. Refute it at one input. -/
def exactSizesWrong : ChangeSpec := { name := "exactSizes", fn := fun _ => fun
  | [d1, d2] => { results := [.lit (.bool false)], args := [d1, d2] }
  | _ => none }
def ExactSizesWrongFalsely : Prop := exactSizesRow.holds Try.pinned (OpenSpec.ofChange exactSizesWrong)

/- THE SECOND FORM. 'bulk': how many values and letters a reading holds, each counted each time it is reached (what is shared counts as often as it is met; a slice's spare places count too). A statement '..UptoSaid' is the law's where the arguments, and the package variables that the reading takes, are together of bulk at most 1048576: NARROWER than '..Said'. Prove '..Said' where nothing that the law and all that it calls make is longer than what came in: it says more and counts as full. Else prove '..UptoSaid'. A law counts once. -/
mutual
def uptoBulk {H : Type} : DataW H → Nat
  | .lit (.string bytes) => bytes.length + 1
  | .lit _ => 1
  | .nil => 1
  | .ptr d => uptoBulk d + 1
  | .slice elems spare => uptoBulkAll elems + uptoBulkAll spare + 1
  | .agg parts => uptoBulkAll parts + 1
  | .iface _ d => uptoBulk d + 1
  | .map entries => uptoBulkEntries entries + 1
  | .held _ => 1
def uptoBulkAll {H : Type} : List (DataW H) → Nat
  | [] => 0
  | d :: r => uptoBulk d + uptoBulkAll r
def uptoBulkEntries {H : Type} : List (Lit × DataW H) → Nat
  | [] => 0
  | x :: r => uptoBulkEntry x + uptoBulkEntries r
def uptoBulkEntry {H : Type} : Lit × DataW H → Nat
  | (.string bytes, d) => bytes.length + uptoBulk d + 1
  | (_, d) => uptoBulk d + 1
 end
def uptoSmall : (H : Type) → List (DataW H) → Bool := fun _ ds => decide (uptoBulkAll ds ≤ 1048576)
def OpenSpec.upto (s : _root_.Go.ChangeSpec) : _root_.Go.OpenSpec := { _root_.Go.OpenSpec.ofChange s with cond := some uptoSmall }

/-- 'tyreworkslaw01.ExactNews', WHERE WHAT IT READS IS OF BULK AT MOST 1048576: true; the input reads as it did. -/
def exactNewsUptoRow : OpenClaim := { program := "ytpjakokgmgggiaa", sum := "e34b62e436a7bb23955d5ba7fa3cd54037ef856cf1ad540a4b8e899d4ddf65c4", func := "tyreworks/tyreworkslaw01.ExactNews", spec := "exactNews", inPlace := ["math/bits.Add64", "math/bits.Sub64", "internal/abi.NoEscape", "internal/bytealg.MakeNoZero"], unfollowed := true, recurses := true, named := ["math/bits.divideError", "math/bits.overflowError"], apart := false, narrowed := true }
def ExactNewsUptoSaid : Prop := exactNewsUptoRow.holds Try.pinned (OpenSpec.upto exactNewsSpec)

/-- 'tyreworkslaw01.ExactTexts', WHERE WHAT IT READS IS OF BULK AT MOST 1048576: true; the input reads as it did. -/
def exactTextsUptoRow : OpenClaim := { program := "ytpjakokgmgggiaa", sum := "e34b62e436a7bb23955d5ba7fa3cd54037ef856cf1ad540a4b8e899d4ddf65c4", func := "tyreworks/tyreworkslaw01.ExactTexts", spec := "exactTexts", inPlace := ["math/bits.Add64", "math/bits.Sub64", "internal/abi.NoEscape", "internal/bytealg.MakeNoZero"], unfollowed := true, recurses := true, named := ["math/bits.divideError", "math/bits.overflowError"], apart := false, narrowed := true }
def ExactTextsUptoSaid : Prop := exactTextsUptoRow.holds Try.pinned (OpenSpec.upto exactTextsSpec)

/-- 'tyreworkslaw01.ExactParses', WHERE WHAT IT READS IS OF BULK AT MOST 1048576: true; the input reads as it did. -/
def exactParsesUptoRow : OpenClaim := { program := "ytpjakokgmgggiaa", sum := "e34b62e436a7bb23955d5ba7fa3cd54037ef856cf1ad540a4b8e899d4ddf65c4", func := "tyreworks/tyreworkslaw01.ExactParses", spec := "exactParses", inPlace := ["math/bits.Add64", "math/bits.Sub64", "internal/abi.NoEscape", "internal/bytealg.MakeNoZero"], unfollowed := true, recurses := true, named := ["math/bits.divideError", "math/bits.overflowError"], apart := false, narrowed := true }
def ExactParsesUptoSaid : Prop := exactParsesUptoRow.holds Try.pinned (OpenSpec.upto exactParsesSpec)

/-- 'tyreworkslaw01.ExactFields', WHERE WHAT IT READS IS OF BULK AT MOST 1048576: true; the input reads as it did. -/
def exactFieldsUptoRow : OpenClaim := { program := "ytpjakokgmgggiaa", sum := "e34b62e436a7bb23955d5ba7fa3cd54037ef856cf1ad540a4b8e899d4ddf65c4", func := "tyreworks/tyreworkslaw01.ExactFields", spec := "exactFields", inPlace := ["math/bits.Add64", "math/bits.Sub64", "internal/abi.NoEscape", "internal/bytealg.MakeNoZero"], unfollowed := true, recurses := true, named := ["math/bits.divideError", "math/bits.overflowError"], apart := false, narrowed := true }
def ExactFieldsUptoSaid : Prop := exactFieldsUptoRow.holds Try.pinned (OpenSpec.upto exactFieldsSpec)

/-- 'tyreworkslaw01.ExactOrder', WHERE WHAT IT READS IS OF BULK AT MOST 1048576: true; the input reads as it did. -/
def exactOrderUptoRow : OpenClaim := { program := "ytpjakokgmgggiaa", sum := "e34b62e436a7bb23955d5ba7fa3cd54037ef856cf1ad540a4b8e899d4ddf65c4", func := "tyreworks/tyreworkslaw01.ExactOrder", spec := "exactOrder", inPlace := ["math/bits.Add64", "math/bits.Sub64", "internal/abi.NoEscape", "internal/bytealg.MakeNoZero"], unfollowed := true, recurses := true, named := ["math/bits.divideError", "math/bits.overflowError"], apart := false, narrowed := true }
def ExactOrderUptoSaid : Prop := exactOrderUptoRow.holds Try.pinned (OpenSpec.upto exactOrderSpec)

/-- 'tyreworkslaw01.ExactSizes', WHERE WHAT IT READS IS OF BULK AT MOST 1048576: true; the input reads as it did. -/
def exactSizesUptoRow : OpenClaim := { program := "ytpjakokgmgggiaa", sum := "e34b62e436a7bb23955d5ba7fa3cd54037ef856cf1ad540a4b8e899d4ddf65c4", func := "tyreworks/tyreworkslaw01.ExactSizes", spec := "exactSizes", inPlace := ["math/bits.Add64", "math/bits.Sub64", "internal/abi.NoEscape", "internal/bytealg.MakeNoZero"], unfollowed := true, recurses := true, named := ["math/bits.divideError", "math/bits.overflowError"], apart := false, narrowed := true }
def ExactSizesUptoSaid : Prop := exactSizesUptoRow.holds Try.pinned (OpenSpec.upto exactSizesSpec)

end Rows
end Go.Proofs.Ytpjakokgmgggiaa
