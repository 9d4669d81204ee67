/- The signs of numbers with the roots of 2 and 3. (Printed by gen/cone.py.) -/
import Derived.Test.YtampehijkiencaaGreatBwSy1
namespace Go.Proofs.YtampehijkiencaaGreat.Plain
def aPm (s t q : Int) : Int:=if s = t then s else if t = 0 then s else if s = 0 then t else s*q
structure Q2 where
 re : Rat
 im : Rat
theorem Q2.ext' {x y : Q2} (h1 : x.re = y.re) (h2 : x.im = y.im) : x = y:=by cases x; cases y; simp_all
instance : Add Q2:=⟨fun x y=>⟨x.re+y.re,x.im+y.im⟩⟩
instance : Mul Q2:=⟨fun x y=>⟨x.re*y.re+2*(x.im*y.im),x.re*y.im+x.im*y.re⟩⟩
instance : Neg Q2:=⟨fun x=>⟨-x.re,-x.im⟩⟩
instance : Sub Q2:=⟨fun x y=>⟨x.re - y.re,x.im - y.im⟩⟩
instance : OfNat Q2 0:=⟨⟨0,0⟩⟩
instance : OfNat Q2 1:=⟨⟨1,0⟩⟩
instance : OfNat Q2 2:=⟨⟨2,0⟩⟩
instance : OfNat Q2 3:=⟨⟨3,0⟩⟩
theorem Q2.three_re : (3 : Q2).re = 3:=rfl
theorem Q2.three_im : (3 : Q2).im = 0:=rfl
theorem Q2.add_re (x y : Q2) : (x+y).re = x.re+y.re:=rfl
theorem Q2.add_im (x y : Q2) : (x+y).im = x.im+y.im:=rfl
theorem Q2.mul_re (x y : Q2) : (x*y).re = x.re*y.re+2*(x.im*y.im):=rfl
theorem Q2.mul_im (x y : Q2) : (x*y).im = x.re*y.im+x.im*y.re:=rfl
structure Q23 where
 re : Q2
 im : Q2
theorem Q23.ext' {x y : Q23} (h1 : x.re = y.re) (h2 : x.im = y.im) : x = y:=by cases x; cases y; simp_all
instance : Add Q23:=⟨fun x y=>⟨x.re+y.re,x.im+y.im⟩⟩
instance : Mul Q23:=⟨fun x y=>⟨x.re*y.re+3*(x.im*y.im),x.re*y.im+x.im*y.re⟩⟩
instance : Neg Q23:=⟨fun x=>⟨-x.re,-x.im⟩⟩
instance : Sub Q23:=⟨fun x y=>⟨x.re - y.re,x.im - y.im⟩⟩
instance : OfNat Q23 0:=⟨⟨0,0⟩⟩
instance : OfNat Q23 1:=⟨⟨1,0⟩⟩
theorem Q23.mul_re (x y : Q23) : (x*y).re = x.re*y.re+3*(x.im*y.im):=rfl
theorem Q23.mul_im (x y : Q23) : (x*y).im = x.re*y.im+x.im*y.re:=rfl
namespace A
def pos (x : Rat) : Prop:=0 < x
open Classical in
noncomputable def sg (x : Rat) : Int:=if pos x then 1 else if pos (-x) then -1 else 0
end A
namespace B
def NN (x : Q2) : Rat:=x.re*x.re - 2*(x.im*x.im)
def pos (x : Q2) : Prop:=(A.pos (NN x)∧A.pos x.re)∨(A.pos (-NN x)∧A.pos x.im)
open Classical in
noncomputable def sg (x : Q2) : Int:=if pos x then 1 else if pos (-x) then -1 else 0
end B
namespace C
def NN (x : Q23) : Q2:=x.re*x.re - 3*(x.im*x.im)
def pos (x : Q23) : Prop:=(B.pos (NN x)∧B.pos x.re)∨(B.pos (-NN x)∧B.pos x.im)
open Classical in
noncomputable def sg (x : Q23) : Int:=if pos x then 1 else if pos (-x) then -1 else 0
end C
theorem aBv (a b c : Q23) : a*b*c = a*(b*c):=by (refine Q23.ext' (Q2.ext' ?_ ?_) (Q2.ext' ?_ ?_) <;> (simp only [Q23.mul_re,Q23.mul_im,Q2.add_re,Q2.add_im,Q2.mul_re,Q2.mul_im,Q2.three_re,Q2.three_im]; grind))
theorem aIm (a b : Q23) : a*b = b*a:=by (refine Q23.ext' (Q2.ext' ?_ ?_) (Q2.ext' ?_ ?_) <;> (simp only [Q23.mul_re,Q23.mul_im,Q2.add_re,Q2.add_im,Q2.mul_re,Q2.mul_im,Q2.three_re,Q2.three_im]; grind))
instance : Std.Associative (α:=Q23) (·*·):=⟨aBv⟩
instance : Std.Commutative (α:=Q23) (·*·):=⟨aIm⟩
def e4 (a b c d : Rat) : Q23:=⟨⟨a,b⟩,⟨c,d⟩⟩
end Go.Proofs.YtampehijkiencaaGreat.Plain
