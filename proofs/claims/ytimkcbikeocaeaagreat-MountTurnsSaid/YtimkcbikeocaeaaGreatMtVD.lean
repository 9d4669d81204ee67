/- What is to be shown of the calls of some functions. (Printed by gen/vc.py.) -/
import Derived.Test.YtimkcbikeocaeaaGreatProg
import Derived.Test.YtimkcbikeocaeaaGreatMtSy14
namespace Go.Proofs.YtimkcbikeocaeaaGreat
open Go.RowKit
open Sy (Up Sees CallsG Seg execFn_use)
set_option maxRecDepth 100000
variable {k : World} {R : World → Value → Prop}
end Go.Proofs.YtimkcbikeocaeaaGreat
