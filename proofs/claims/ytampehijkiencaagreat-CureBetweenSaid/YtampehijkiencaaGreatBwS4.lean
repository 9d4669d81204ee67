/- Surds: signs. (Printed by gen/surd4.py.) -/
import Derived.Test.YtampehijkiencaaGreatBwS3
import Derived.Test.YtampehijkiencaaGreatBwCone
namespace Go.Proofs.YtampehijkiencaaGreat
open Go.RowKit Num Plain
open Sy (Up Sees CallsG Seg)
def Q4.toQ (v : Q4) : Q23:=e4 v.a v.b v.c v.d
section
variable {k : World} {R : World→Value→Prop} {K L : Nat} {cs cs' : Array Value} {v v' : Q4}
def Box1 (k : World) (p : Nat) (x : Int) (K : Nat) : Prop:=∃ c : Array Value,Sy.Blk k p 69 (c.toList ++ ([])).toArray∧aCh k c x K
end
end Go.Proofs.YtampehijkiencaaGreat
