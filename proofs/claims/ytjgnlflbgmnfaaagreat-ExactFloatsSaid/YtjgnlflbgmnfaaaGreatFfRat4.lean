/- Walks: package exact's fractions, third part: Same, New, Div. (Printed by gen/rat.py.) -/
import Derived.Test.YtjgnlflbgmnfaaaGreatFfRat3
namespace Go.Proofs.YtjgnlflbgmnfaaaGreat
open Go.RowKit Num
