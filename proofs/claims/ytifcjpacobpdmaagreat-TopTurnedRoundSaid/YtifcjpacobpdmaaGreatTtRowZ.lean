/- Arguments of the statements: integers, and aggregates of integers. -/
import Derived.ProofKit
import Derived.OpenShut
import Derived.Carry
import Derived.Test.YtifcjpacobpdmaaGreatTtQ5
namespace Go.Proofs.YtifcjpacobpdmaaGreat.Row
open Go.ChangeShapes Go.WideShapes Go.ChangeAt Go.RowKit
theorem own:ownKnob Tryz.prog.godebug=none:=by kernel_rfl
theorem laid:laidOutB Tryz.prog=true:=by kernel_rfl
