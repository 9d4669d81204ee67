/- Several texts in one. (Printed by prep.py.) -/
import Derived.Test.YtampehijkiencaaGreatProg
import Derived.Test.YtampehijkiencaaGreatBwSy14
namespace Go.Proofs.YtampehijkiencaaGreat
open Go.RowKit
abbrev Cl (k : World) (f : Nat) (args : Array Value) (P : World→Value→Prop) : Prop:=∀ k',Sy.Up k k'→Sy.CallsG Tryz.prog f args k' P
abbrev Gt (n : Nat) (r : Value) (Q : Array Value→Prop) : Prop:=∃ cs : Array Value,Sy.Seg n cs∧some (Value.agg cs) = some r∧Q cs
end Go.Proofs.YtampehijkiencaaGreat

namespace Go.Proofs.YtampehijkiencaaGreat
open Go.RowKit
open Value (agg slice int bool tuple)
open Sy (Up Sees CallsG Seg aA)
set_option maxRecDepth 100000
variable {k : World} {R : World→Value→Prop}
end Go.Proofs.YtampehijkiencaaGreat

