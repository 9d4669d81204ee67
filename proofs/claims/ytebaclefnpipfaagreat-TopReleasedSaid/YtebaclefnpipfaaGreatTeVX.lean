/- What is to be shown of the calls of some functions. (Printed by gen/vc.py.) -/
import Derived.Test.YtebaclefnpipfaaGreatProg
import Derived.Test.YtebaclefnpipfaaGreatTeSy14
namespace Go.Proofs.YtebaclefnpipfaaGreat
open Go.RowKit
open Value (agg slice int bool tuple)
open Sy (Up Sees CallsG Seg execFn_use)
set_option maxRecDepth 100000
variable {k:World}{R:World→Value→Prop}
