/- Walks: package exact's fractions, third part: Same, New, Div. (Printed by gen/rat.py.) -/
import Derived.Test.YtpjakokgmgggiaaGreatTuRat3
import Derived.Deep.DeepCutAuto
namespace Go.Proofs.YtpjakokgmgggiaaGreat
open Go.RowKit Num
theorem sgn_div (n b : Int) : sgn (decide (n < 0) != decide (b < 0)) n.natAbs = if b < 0 then -n else n := by
 unfold sgn
 by_cases h1 : n < 0 <;> by_cases h2 : b < 0 <;> simp [h1, h2] <;> omega
theorem rat_div_neg (a b : Int) (hb : b ≠ 0) : mkRat (sgn (decide (a < 0) != decide (b < 0)) a.natAbs) b.natAbs = (a : Rat) / (b : Rat) := by
 rw [sgn_div, Rat.mkRat_eq_div]
 by_cases h : b < 0
 · rw [if_pos h]
   have e : ((b.natAbs : Nat) : Rat) = -(b : Rat) := by
     rw [← Rat.intCast_natCast, ← Rat.intCast_neg]; congr 1; omega
   rw [e, Rat.intCast_neg]
   have : (b : Rat) ≠ 0 := by simpa using hb
   grind
 · rw [if_neg h]
   have e : ((b.natAbs : Nat) : Rat) = (b : Rat) := by
     rw [← Rat.intCast_natCast]; congr 1; omega
   rw [e]
end Go.Proofs.YtpjakokgmgggiaaGreat
