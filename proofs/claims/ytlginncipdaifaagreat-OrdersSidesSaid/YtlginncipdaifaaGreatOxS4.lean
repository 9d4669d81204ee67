/- Surds: signs. (Printed by gen/surd4.py.) -/
import Derived.Test.YtlginncipdaifaaGreatOxS3
import Derived.Test.YtlginncipdaifaaGreatOxCone
namespace Go.Proofs.YtlginncipdaifaaGreat
open Go.RowKit Num Plain
open Sy (Up Sees CallsG Seg)
def Q4.toQ (v : Q4) : Q23:=e4 v.a v.b v.c v.d
theorem toQ_add (x y : Q4) : (x.add y).toQ = x.toQ+y.toQ:=rfl
theorem toQ_neg (x : Q4) : x.neg.toQ = -x.toQ:=rfl
theorem toQ_mul (x y : Q4) : (x.mul y).toQ = x.toQ*y.toQ:=(e4_mul _ _ _ _ _ _ _ _).symm
theorem toQ_sub (x y : Q4) : (x.sub y).toQ = x.toQ - y.toQ:=by
 have : (x.sub y).toQ = x.toQ+-y.toQ:=rfl
 rw [this]
 generalize x.toQ = a
 generalize y.toQ = b
 (refine Q23.ext' (Q2.ext' ?_ ?_) (Q2.ext' ?_ ?_) <;> (simp only [Q23.add_re,Q23.add_im,Q23.neg_re,Q23.neg_im,Q23.sub_re,Q23.sub_im,Q2.add_re,Q2.add_im,Q2.neg_re,Q2.neg_im,Q2.sub_re,Q2.sub_im]; grind))
theorem toQ_inj {x y : Q4} (h : x.toQ = y.toQ) : x = y:=by
 obtain ⟨h1,h2,h3,h4⟩:=e4_inj h
 exact Q4.ext' h1 h2 h3 h4
section
variable {k : World} {R : World→Value→Prop} {K L : Nat} {cs cs' : Array Value} {v v' : Q4}
def Box1 (k : World) (p : Nat) (x : Int) (K : Nat) : Prop:=∃ c : Array Value,Sy.Blk k p 29 (c.toList ++ ([])).toArray∧IntV k c x K
end
end Go.Proofs.YtlginncipdaifaaGreat
