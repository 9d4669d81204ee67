/- Surds: quotients. (Printed by gen/surd5.py.) -/
import Derived.Test.YtampehijkiencaaGreatBwS4
import Derived.Test.YtampehijkiencaaGreatBwVD
namespace Go.Proofs.YtampehijkiencaaGreat
open Go.RowKit Num Plain
open Sy (Up Sees CallsG Seg)
def em (r : Rat) : Q23:=e4 r 0 0 0
section
variable {k : World} {R : World→Value→Prop} {K L : Nat} {cs cs' : Array Value} {v v' : Q4}
end
end Go.Proofs.YtampehijkiencaaGreat
