/- Several texts in one. (Printed by prep.py.) -/
import Derived.Test.YtmifbgccpdmjpaaGreatRdVS
namespace Go.Proofs.YtmifbgccpdmjpaaGreat
open Go.RowKit
open Value (agg slice int bool tuple)
open Sy (Up Sees CallsG Seg execFn_use)
set_option maxRecDepth 100000
variable {k:World}{R:World→Value→Prop}{cs0:Array Value}
theorem aLt (hcs0:Seg 3 cs0)
 (h:Cl k 79 #[int .i64 0] fun k1 r0=>Gt 3 r0 fun cs1=>
 Cl k1 79 #[int .i64 0] fun k3 r2=>Gt 3 r2 fun cs2=>
 Cl k3 79 #[int .i64 0] fun k5 r4=>Gt 3 r4 fun cs3=>
 Rt R k5 (Rg cs0 cs1 cs2 cs3)) :
  CallsG Tryz.prog 78 #[agg cs0] k R:=
  qX { opq:=[49] } [.agg [.seg 0 3]] [agg cs0] [.seg 3] ⟨⟨cs0,rfl,hcs0⟩,trivial⟩ h
