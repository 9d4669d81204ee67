/- Walks: package exact's fractions, fourth part: Whole. (Printed by gen/rat.py.) -/
import Derived.Test.YtjgnlflbgmnfaaaGreatHsRat4
namespace Go.Proofs.YtjgnlflbgmnfaaaGreat
open Go.RowKit Num
def vB (x:Rat):Value:=if x.den=1∧-9223372036854775808≤x.num∧x.num<9223372036854775808 then .tuple #[.int .i64 x.num,.bool true] else .tuple #[.int .i64 0,.bool false]
theorem nT {x:Rat}(h:x.den=1) (h1:-9223372036854775808≤x.num) (h2:x.num<9223372036854775808):vB x=.tuple #[.int .i64 x.num,.bool true]:=od ⟨h,h1,h2⟩
theorem mX {x:Rat}(h:¬ (x.den=1∧-9223372036854775808≤x.num∧x.num<9223372036854775808)):vB x=.tuple #[.int .i64 0,.bool false]:=oh h
