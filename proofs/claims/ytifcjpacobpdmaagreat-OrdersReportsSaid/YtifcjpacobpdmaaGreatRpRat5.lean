/- Walks: package exact's fractions, fourth part: Whole. (Printed by gen/rat.py.) -/
import Derived.Test.YtifcjpacobpdmaaGreatRpRat4
namespace Go.Proofs.YtifcjpacobpdmaaGreat
open Go.RowKit Num
def uM (x:Rat):Value:=if x.den=1∧-9223372036854775808≤x.num∧x.num<9223372036854775808 then .tuple #[.int .i64 x.num,.bool true] else .tuple #[.int .i64 0,.bool false]
theorem nC {x:Rat}(h:x.den=1) (h1:-9223372036854775808≤x.num) (h2:x.num<9223372036854775808):uM x=.tuple #[.int .i64 x.num,.bool true]:=og ⟨h,h1,h2⟩
theorem lY {x:Rat}(h:¬ (x.den=1∧-9223372036854775808≤x.num∧x.num<9223372036854775808)):uM x=.tuple #[.int .i64 0,.bool false]:=oh h
