/- Surds: sums, products, parts. (Printed by gen/surd2.py.) -/
import Derived.Test.YtampehijkiencaaGreatBwS1
namespace Go.Proofs.YtampehijkiencaaGreat
open Go.RowKit Num
open Sy (Up Sees CallsG Seg)
def Q4.add (x y : Q4) : Q4:=⟨x.a+y.a,x.b+y.b,x.c+y.c,x.d+y.d⟩
def Q4.neg (x : Q4) : Q4:=⟨-x.a,-x.b,-x.c,-x.d⟩
def Q4.mul (x y : Q4) : Q4:=⟨x.a*y.a+2*(x.b*y.b)+3*(x.c*y.c)+6*(x.d*y.d),x.a*y.b+x.b*y.a+3*(x.c*y.d+x.d*y.c),x.a*y.c+x.c*y.a+2*(x.b*y.d+x.d*y.b),x.a*y.d+x.d*y.a+x.b*y.c+x.c*y.b⟩
def Q4.sub (x y : Q4) : Q4:=x.add y.neg
def Q4.zero : Q4:=⟨0,0,0,0⟩
def Q4.real (x : Rat) : Q4:=⟨x,0,0,0⟩
theorem xP (x : Int) {m : Nat} (_h : 0 < m) : mkRat x m = (x : Rat) / (m : Rat):=by
 rw [Rat.mkRat_eq_div]
theorem rE {m : Nat} (h : 0 < m) : (m : Rat) ≠ 0:=by
 intro e
 have : ((m : Nat) : Rat) = ((0 : Nat) : Rat):=by rw [e]; rfl
 have:=Rat.natCast_inj.1 this
 omega
theorem rF (x y : Int) {m n : Nat} (hm : 0 < m) (hn : 0 < n) : mkRat (x*n+y*m) (m*n) = mkRat x m+mkRat y n:=by
 rw [Rat.mkRat_add_mkRat _ _ (by omega) (by omega)]
theorem qK (x : Int) (m : Nat) : mkRat (-x) m = - mkRat x m:=by rw [Rat.neg_mkRat]
theorem yC (x y : Int) (m n : Nat) : mkRat (x*y) (m*n) = mkRat x m*mkRat y n:=by rw [Rat.mkRat_mul_mkRat]
section
variable {k : World} {R : World→Value→Prop} {K : Nat} {cs cs' : Array Value} {v v' : Q4}
end
end Go.Proofs.YtampehijkiencaaGreat
