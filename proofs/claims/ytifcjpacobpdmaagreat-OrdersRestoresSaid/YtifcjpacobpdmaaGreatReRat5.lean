/- Walks: package exact's fractions, fourth part: Whole. (Printed by gen/rat.py.) -/
import Derived.Test.YtifcjpacobpdmaaGreatReRat4
namespace Go.Proofs.YtifcjpacobpdmaaGreat
open Go.RowKit Num
def bCk (x:Rat):Value:=if x.den=1∧-9223372036854775808≤x.num∧x.num<9223372036854775808 then .tuple #[.int .i64 x.num,.bool true] else .tuple #[.int .i64 0,.bool false]
