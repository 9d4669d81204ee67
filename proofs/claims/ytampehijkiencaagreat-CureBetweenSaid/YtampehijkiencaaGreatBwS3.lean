/- Surds: products, parts. (Printed by gen/surd3.py.) -/
import Derived.Test.YtampehijkiencaaGreatBwS2
import Derived.Test.YtampehijkiencaaGreatBwVT
namespace Go.Proofs.YtampehijkiencaaGreat
open Go.RowKit Num
open Sy (Up Sees CallsG Seg)
section
variable {k : World} {R : World→Value→Prop} {K L : Nat} {cs cs' : Array Value} {v v' : Q4}
end
end Go.Proofs.YtampehijkiencaaGreat
