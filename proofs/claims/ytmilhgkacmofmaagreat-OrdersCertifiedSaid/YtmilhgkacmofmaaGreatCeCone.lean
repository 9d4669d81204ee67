/- The signs of numbers with the roots of 2 and 3. (Printed by gen/cone.py.) -/
import Derived.Test.YtmilhgkacmofmaaGreatCeSy1
namespace Go.Proofs.YtmilhgkacmofmaaGreat.Plain
theorem wrap_tiny {x y : Int} (hx : x = 0∨x = 1∨x = -1) (hy : y = 0∨y = 1∨y = -1) : IntKind.wrap .i64 (x*y) = x*y:=by
 rcases hx with rfl | rfl | rfl <;> rcases hy with rfl | rfl | rfl <;> decide
def weighI (s t q : Int) : Int:=if s = t then s else if t = 0 then s else if s = 0 then t else s*q
structure Q2 where
 re : Rat
 im : Rat
theorem Q2.ext' {x y : Q2} (h1 : x.re = y.re) (h2 : x.im = y.im) : x = y:=by cases x; cases y; simp_all
instance : Add Q2:=⟨fun x y=>⟨x.re+y.re,x.im+y.im⟩⟩
instance : Mul Q2:=⟨fun x y=>⟨x.re*y.re+2*(x.im*y.im),x.re*y.im+x.im*y.re⟩⟩
instance : Neg Q2:=⟨fun x=>⟨-x.re,-x.im⟩⟩
instance : Sub Q2:=⟨fun x y=>⟨x.re - y.re,x.im - y.im⟩⟩
instance : OfNat Q2 0:=⟨⟨0,0⟩⟩
theorem Q2.zero_re : (0 : Q2).re = 0:=rfl
theorem Q2.zero_im : (0 : Q2).im = 0:=rfl
instance : OfNat Q2 1:=⟨⟨1,0⟩⟩
theorem Q2.one_re : (1 : Q2).re = 1:=rfl
theorem Q2.one_im : (1 : Q2).im = 0:=rfl
instance : OfNat Q2 2:=⟨⟨2,0⟩⟩
instance : OfNat Q2 3:=⟨⟨3,0⟩⟩
theorem Q2.three_re : (3 : Q2).re = 3:=rfl
theorem Q2.three_im : (3 : Q2).im = 0:=rfl
theorem Q2.add_re (x y : Q2) : (x+y).re = x.re+y.re:=rfl
theorem Q2.add_im (x y : Q2) : (x+y).im = x.im+y.im:=rfl
theorem Q2.neg_re (x : Q2) : (-x).re = -x.re:=rfl
theorem Q2.neg_im (x : Q2) : (-x).im = -x.im:=rfl
theorem Q2.sub_re (x y : Q2) : (x - y).re = x.re - y.re:=rfl
theorem Q2.sub_im (x y : Q2) : (x - y).im = x.im - y.im:=rfl
theorem Q2.mul_re (x y : Q2) : (x*y).re = x.re*y.re+2*(x.im*y.im):=rfl
theorem Q2.mul_im (x y : Q2) : (x*y).im = x.re*y.im+x.im*y.re:=rfl
structure Q23 where
 re : Q2
 im : Q2
theorem Q23.ext' {x y : Q23} (h1 : x.re = y.re) (h2 : x.im = y.im) : x = y:=by cases x; cases y; simp_all
instance : Add Q23:=⟨fun x y=>⟨x.re+y.re,x.im+y.im⟩⟩
instance : Mul Q23:=⟨fun x y=>⟨x.re*y.re+3*(x.im*y.im),x.re*y.im+x.im*y.re⟩⟩
instance : Neg Q23:=⟨fun x=>⟨-x.re,-x.im⟩⟩
instance : Sub Q23:=⟨fun x y=>⟨x.re - y.re,x.im - y.im⟩⟩
instance : OfNat Q23 0:=⟨⟨0,0⟩⟩
theorem Q23.zero_re : (0 : Q23).re = 0:=rfl
theorem Q23.zero_im : (0 : Q23).im = 0:=rfl
instance : OfNat Q23 1:=⟨⟨1,0⟩⟩
theorem Q23.one_re : (1 : Q23).re = 1:=rfl
theorem Q23.one_im : (1 : Q23).im = 0:=rfl
theorem Q23.add_re (x y : Q23) : (x+y).re = x.re+y.re:=rfl
theorem Q23.add_im (x y : Q23) : (x+y).im = x.im+y.im:=rfl
theorem Q23.neg_re (x : Q23) : (-x).re = -x.re:=rfl
theorem Q23.neg_im (x : Q23) : (-x).im = -x.im:=rfl
theorem Q23.sub_re (x y : Q23) : (x - y).re = x.re - y.re:=rfl
theorem Q23.sub_im (x y : Q23) : (x - y).im = x.im - y.im:=rfl
theorem Q23.mul_re (x y : Q23) : (x*y).re = x.re*y.re+3*(x.im*y.im):=rfl
theorem Q23.mul_im (x y : Q23) : (x*y).im = x.re*y.im+x.im*y.re:=rfl
namespace A
def pos (x : Rat) : Prop:=0 < x
theorem one_ne : (1 : Rat) ≠ 0:=by decide
theorem inv (x : Rat) (h : x ≠ 0) : ∃ y,x*y = 1:=⟨x⁻¹,Rat.mul_inv_cancel x h⟩
theorem tri (x : Rat) : x = 0∨pos x∨pos (-x):=by unfold pos; grind
theorem zero : ¬ pos (0 : Rat):=by unfold pos; decide
theorem add {x y : Rat} (h : pos x) (h' : pos y) : pos (x+y):=by unfold pos at *; grind
theorem mul {x y : Rat} (h : pos x) (h' : pos y) : pos (x*y):=Rat.mul_pos h h'
theorem pos_not {x : Rat} (h : pos x) : ¬ pos (-x):=fun h'=>zero (by have:=add h h'; rwa [show x+-x = 0 by grind] at this)
theorem pos_ne {x : Rat} (h : pos x) : x ≠ 0:=fun e=>zero (e ▸ h)
theorem pos_sq {x : Rat} (h : x ≠ 0) : pos (x*x):=by
 rcases tri x with h1 | h1 | h1
 ·exact absurd h1 h
 ·exact mul h1 h1
 ·have:=mul h1 h1
  rwa [show -x*-x = x*x by grind] at this
theorem pos_one : pos (1 : Rat):=by
 have:=pos_sq (x:=1) one_ne
 rwa [show (1 : Rat)*1 = 1 by grind] at this
theorem sub_eq {a b : Rat} (h : a - b = 0) : a = b:=by
 have e : a = (a - b)+b:=by grind
 rw [e,h]; grind
theorem pos_of_sq {a b : Rat} (ha : pos a) (h : pos (a*a - b*b)) : pos (a+b):=by
 rcases tri (a+b) with h1 | h1 | h1
 ·exfalso
  rw [show a*a - b*b = (a+b)*(a - b) by grind,h1,show (0 : Rat)*(a - b) = 0 by grind] at h
  exact zero h
 ·exact h1
 ·exfalso
  have h2 : pos (a - b):=by
   have:=add (add ha ha) h1
   rwa [show a+a+-(a+b) = a - b by grind] at this
  have:=mul h1 h2
  rw [show -(a+b)*(a - b) = -(a*a - b*b) by grind] at this
  exact pos_not h this
theorem pos_cancel {a b : Rat} (ha : pos a) (h : pos (a*b)) : pos b:=by
 rcases tri b with h1 | h1 | h1
 ·exfalso
  rw [h1,show a*(0 : Rat) = 0 by grind] at h
  exact zero h
 ·exact h1
 ·exfalso
  have:=mul ha h1
  rw [show a*-b = -(a*b) by grind] at this
  exact pos_not h this
theorem mul_ne {a b : Rat} (ha : a ≠ 0) (hb : b ≠ 0) : a*b ≠ 0:=by
 obtain ⟨y,hy⟩:=inv a ha
 intro h
 apply hb
 have e : b = 1*b:=by grind
 rw [e,← hy,show a*y*b = (a*b)*y by grind,h]; grind
open Classical in
noncomputable def sg (x : Rat) : Int:=if pos x then 1 else if pos (-x) then -1 else 0
theorem sg_pos {x : Rat} (h : pos x) : sg x = 1:=by unfold sg; rw [if_pos h]
theorem sg_neg {x : Rat} (h : pos (-x)) : sg x = -1:=by
 unfold sg; rw [if_neg (fun h'=>pos_not h' h),if_pos h]
theorem sg_zero : sg (0 : Rat) = 0:=by
 unfold sg; rw [if_neg zero,if_neg (by rw [show -(0 : Rat) = 0 by grind]; exact zero)]
theorem sg_cases (x : Rat) : (sg x = 0∧x = 0)∨(sg x = 1∧pos x)∨(sg x = -1∧pos (-x)):=by
 rcases tri x with h | h | h
 ·exact .inl ⟨h ▸ sg_zero,h⟩
 ·exact .inr (.inl ⟨sg_pos h,h⟩)
 ·exact .inr (.inr ⟨sg_neg h,h⟩)
end A
theorem num_pos {x : Rat} (h : 0 < x) : 0 < x.num:=by
 have h1 : 0≤x.num:=Rat.num_nonneg.2 (by grind)
 have h2 : x.num ≠ 0:=fun e=>by have:=Rat.num_eq_zero.1 e; rw [this] at h; exact absurd h (by decide)
 omega
theorem mul_den_num (u : Rat) : u*(u.den : Rat) = (u.num : Rat):=by
 have e:=Rat.mkRat_self u
 rw [Rat.mkRat_eq_div] at e
 have hd : (u.den : Rat) ≠ 0:=by
  intro h
  have : ((u.den : Nat) : Rat) = ((0 : Nat) : Rat):=h
  have:=Rat.natCast_inj.1 this
  have:=u.den_pos
  omega
 calc u*(u.den : Rat) = ((u.num : Rat) / (u.den : Rat))*(u.den : Rat):=by rw [e]
  _ = (u.num : Rat):=Rat.div_mul_cancel hd
theorem sgRat (x : Rat) : A.sg x = x.num.sign:=by
 rcases A.sg_cases x with ⟨h,h1⟩ | ⟨h,h1⟩ | ⟨h,h1⟩
 ·rw [h,h1]; rfl
 ·rw [h]; have : 0 < x.num:=num_pos h1
  exact (Int.sign_eq_one_of_pos this).symm
 ·rw [h]
  have h1 : 0 < -x:=h1
  have : 0 < (-x).num:=num_pos h1
  rw [Rat.neg_num] at this
  exact (Int.sign_eq_neg_one_of_neg (by omega)).symm
theorem sq2 : ∀ (n : Nat) (x y : Int),y.natAbs≤n→x*x = 2*(y*y)→y = 0
 | 0,x,y,h,_=>by omega
 | n+1,x,y,h,e=>by
  have hx : ∃ a,x = 2*a:=by
   rcases Int.emod_two_eq x with h1 | h1
   ·exact ⟨x / 2,by omega⟩
   ·exfalso
    obtain ⟨a,rfl⟩ : ∃ a,x = 2*a+1:=⟨x / 2,by omega⟩
    have : (2*a+1)*(2*a+1) = 4*(a*a)+4*a+1:=by grind
    omega
  obtain ⟨a,rfl⟩:=hx
  have hy : ∃ b,y = 2*b:=by
   rcases Int.emod_two_eq y with h1 | h1
   ·exact ⟨y / 2,by omega⟩
   ·exfalso
    obtain ⟨b,rfl⟩ : ∃ b,y = 2*b+1:=⟨y / 2,by omega⟩
    have e1 : (2*a)*(2*a) = 4*(a*a):=by grind
    have e2 : (2*b+1)*(2*b+1) = 4*(b*b)+4*b+1:=by grind
    omega
  obtain ⟨b,rfl⟩:=hy
  by_cases hb : b = 0
  ·omega
  ·have:=sq2 n a b (by omega) (by
    have e1 : (2*a)*(2*a) = 4*(a*a):=by grind
    have e2 : (2*b)*(2*b) = 4*(b*b):=by grind
    omega)
   exact absurd this hb
theorem sq6 : ∀ (n : Nat) (x y : Int),y.natAbs≤n→x*x = 6*(y*y)→y = 0
 | 0,x,y,h,_=>by omega
 | n+1,x,y,h,e=>by
  have hx : ∃ a,x = 2*a:=by
   rcases Int.emod_two_eq x with h1 | h1
   ·exact ⟨x / 2,by omega⟩
   ·exfalso
    obtain ⟨a,rfl⟩ : ∃ a,x = 2*a+1:=⟨x / 2,by omega⟩
    have : (2*a+1)*(2*a+1) = 4*(a*a)+4*a+1:=by grind
    omega
  obtain ⟨a,rfl⟩:=hx
  have hy : ∃ b,y = 2*b:=by
   rcases Int.emod_two_eq y with h1 | h1
   ·exact ⟨y / 2,by omega⟩
   ·exfalso
    obtain ⟨b,rfl⟩ : ∃ b,y = 2*b+1:=⟨y / 2,by omega⟩
    have e1 : (2*a)*(2*a) = 4*(a*a):=by grind
    have e2 : (2*b+1)*(2*b+1) = 4*(b*b)+4*b+1:=by grind
    omega
  obtain ⟨b,rfl⟩:=hy
  by_cases hb : b = 0
  ·omega
  ·have:=sq6 n a b (by omega) (by
    have e1 : (2*a)*(2*a) = 4*(a*a):=by grind
    have e2 : (2*b)*(2*b) = 4*(b*b):=by grind
    omega)
   exact absurd this hb
theorem third (x : Int) : ∃ a,x = 3*a∨x = 3*a+1∨x = 3*a+2:=⟨x / 3,by omega⟩
theorem sq3 : ∀ (n : Nat) (x y : Int),y.natAbs≤n→x*x = 3*(y*y)→y = 0
 | 0,x,y,h,_=>by omega
 | n+1,x,y,h,e=>by
  have hx : ∃ a,x = 3*a:=by
   obtain ⟨a,rfl | rfl | rfl⟩:=third x
   ·exact ⟨a,rfl⟩
   ·exfalso
    have : (3*a+1)*(3*a+1) = 9*(a*a)+6*a+1:=by grind
    omega
   ·exfalso
    have : (3*a+2)*(3*a+2) = 9*(a*a)+12*a+4:=by grind
    omega
  obtain ⟨a,rfl⟩:=hx
  have e1 : (3*a)*(3*a) = 9*(a*a):=by grind
  have hy : ∃ b,y = 3*b:=by
   obtain ⟨b,rfl | rfl | rfl⟩:=third y
   ·exact ⟨b,rfl⟩
   ·exfalso
    have : (3*b+1)*(3*b+1) = 9*(b*b)+6*b+1:=by grind
    omega
   ·exfalso
    have : (3*b+2)*(3*b+2) = 9*(b*b)+12*b+4:=by grind
    omega
  obtain ⟨b,rfl⟩:=hy
  by_cases hb : b = 0
  ·omega
  ·have:=sq3 n a b (by omega) (by
    have e2 : (3*b)*(3*b) = 9*(b*b):=by grind
    omega)
   exact absurd this hb
theorem rat_sq {n : Int} (hn : ∀ x y : Int,x*x = n*(y*y)→y = 0) {u v : Rat} (h : u*u = (n : Rat)*(v*v)) : v = 0:=by
 have hu : u*u.den = u.num:=mul_den_num u
 have hv : v*v.den = v.num:=mul_den_num v
 have key:=hn (u.num*v.den) (v.num*u.den) (by
  rw [← Rat.intCast_inj]
  simp only [Rat.intCast_mul,Rat.intCast_natCast,← hu,← hv]
  grind)
 rcases Int.mul_eq_zero.1 key with h1 | h1
 ·exact Rat.num_eq_zero.1 h1
 ·have:=u.den_pos; omega
namespace B
theorem hD : A.pos (2 : Rat):=by show (0 : Rat) < 2; decide
theorem ns (u v : Rat) (h : u*u = 2*(v*v)) : v = 0:=rat_sq (n:=2) (fun x y e=>sq2 _ x y (Nat.le_refl _) e) h
def NN (x : Q2) : Rat:=x.re*x.re - 2*(x.im*x.im)
theorem N_mul (x y : Q2) : NN (x*y) = NN x*NN y:=by
 show (x.re*y.re+2*(x.im*y.im))*(x.re*y.re+2*(x.im*y.im)) - 2*((x.re*y.im+x.im*y.re)*(x.re*y.im+x.im*y.re)) = (x.re*x.re - 2*(x.im*x.im))*(y.re*y.re - 2*(y.im*y.im))
 grind
theorem N_neg (x : Q2) : NN (-x) = NN x:=by
 show -x.re*-x.re - 2*(-x.im*-x.im) = x.re*x.re - 2*(x.im*x.im)
 grind
theorem N_zero {x : Q2} (h : NN x = 0) : x = 0:=by
 have h1 : x.im = 0:=ns x.re x.im (A.sub_eq h)
 have h2 : x.re*x.re = 0:=by
  have:=A.sub_eq h
  rw [this,h1]; grind
 have h3 : x.re = 0:=by
  by_cases h3 : x.re = 0
  ·exact h3
  ·exact absurd h2 (A.mul_ne h3 h3)
 exact Q2.ext' h3 h1
def pos (x : Q2) : Prop:=(A.pos (NN x)∧A.pos x.re)∨(A.pos (-NN x)∧A.pos x.im)
theorem tri (x : Q2) : x = 0∨pos x∨pos (-x):=by
 unfold pos
 rw [N_neg,Q2.neg_re,Q2.neg_im]
 rcases A.tri (NN x) with h | h | h
 ·exact .inl (N_zero h)
 ·rcases A.tri x.re with h1 | h1 | h1
  ·exfalso
   unfold NN at h
   rw [h1,show (0 : Rat)*0 - 2*(x.im*x.im) = -(2*(x.im*x.im)) by grind] at h
   by_cases h2 : x.im = 0
   ·rw [h2,show -((2 : Rat)*(0*0)) = 0 by grind] at h; exact A.zero h
   ·exact A.pos_not (A.mul hD (A.pos_sq h2)) h
  ·exact .inr (.inl (.inl ⟨h,h1⟩))
  ·exact .inr (.inr (.inl ⟨h,h1⟩))
 ·rcases A.tri x.im with h1 | h1 | h1
  ·exfalso
   unfold NN at h
   rw [h1,show -(x.re*x.re - 2*((0 : Rat)*0)) = -(x.re*x.re) by grind] at h
   by_cases h2 : x.re = 0
   ·rw [h2,show -((0 : Rat)*0) = 0 by grind] at h; exact A.zero h
   ·exact A.pos_not (A.pos_sq h2) h
  ·exact .inr (.inl (.inr ⟨h,h1⟩))
  ·exact .inr (.inr (.inr ⟨h,h1⟩))
theorem mul {x y : Q2} (hx : pos x) (hy : pos y) : pos (x*y):=by
 unfold pos
 rw [N_mul,Q2.mul_re,Q2.mul_im]
 unfold pos at hx hy
 have mixed : ∀ {x y : Q2},A.pos (NN x)→A.pos x.re→A.pos (-NN y)→A.pos y.im→A.pos (x.re*y.im+x.im*y.re):=by
  intro x y h1 h2 h3 h4
  refine A.pos_of_sq (A.mul h2 h4) ?_
  refine A.pos_cancel hD ?_
  have e : 2*(x.re*y.im*(x.re*y.im) - x.im*y.re*(x.im*y.re)) = x.re*x.re*(-NN y)+y.re*y.re*NN x:=by unfold NN; grind
  rw [e]
  have p1:=A.mul (A.mul h2 h2) h3
  by_cases h0 : y.re = 0
  ·rw [h0,show (0 : Rat)*0*NN x = 0 by grind,show x.re*x.re*-NN y+0 = x.re*x.re*-NN y by grind]; exact p1
  ·exact A.add p1 (A.mul (A.pos_sq h0) h1)
 rcases hx with ⟨h1,h2⟩ | ⟨h1,h2⟩ <;> rcases hy with ⟨h3,h4⟩ | ⟨h3,h4⟩
 ·refine .inl ⟨A.mul h1 h3,A.pos_of_sq (A.mul h2 h4) ?_⟩
  have e : x.re*y.re*(x.re*y.re) - 2*(x.im*y.im)*(2*(x.im*y.im)) = x.re*x.re*NN y+2*(y.im*y.im)*NN x:=by unfold NN; grind
  rw [e]
  have p1:=A.mul (A.mul h2 h2) h3
  by_cases h0 : y.im = 0
  ·rw [h0,show 2*((0 : Rat)*0)*NN x = 0 by grind,show x.re*x.re*NN y+0 = x.re*x.re*NN y by grind]; exact p1
  ·exact A.add p1 (A.mul (A.mul hD (A.pos_sq h0)) h1)
 ·refine .inr ⟨?_,mixed h1 h2 h3 h4⟩
  have:=A.mul h1 h3
  rwa [show NN x*-NN y = -(NN x*NN y) by grind] at this
 ·refine .inr ⟨?_,?_⟩
  ·have:=A.mul h1 h3
   rwa [show -NN x*NN y = -(NN x*NN y) by grind] at this
  ·have:=mixed h3 h4 h1 h2
   rwa [show y.re*x.im+y.im*x.re = x.re*y.im+x.im*y.re by grind] at this
 ·refine .inl ⟨?_,?_⟩
  ·have:=A.mul h1 h3
   rwa [show -NN x*-NN y = NN x*NN y by grind] at this
  ·rw [show x.re*y.re+2*(x.im*y.im) = 2*(x.im*y.im)+x.re*y.re by grind]
   refine A.pos_of_sq (A.mul hD (A.mul h2 h4)) ?_
   have e : 2*(x.im*y.im)*(2*(x.im*y.im)) - x.re*y.re*(x.re*y.re) = 2*(x.im*x.im)*(-NN y)+y.re*y.re*(-NN x):=by unfold NN; grind
   rw [e]
   have p1:=A.mul (A.mul hD (A.mul h2 h2)) h3
   by_cases h0 : y.re = 0
   ·rw [h0,show (0 : Rat)*0*(-NN x) = 0 by grind,show 2*(x.im*x.im)*-NN y+0 = 2*(x.im*x.im)*-NN y by grind]; exact p1
   ·exact A.add p1 (A.mul (A.pos_sq h0) h1)
theorem zero : ¬ pos (0 : Q2):=by
 rintro (⟨_,h⟩ | ⟨_,h⟩)
 ·exact A.zero h
 ·exact A.zero h
theorem one_ne : (1 : Q2) ≠ 0:=fun h=>A.one_ne (congrArg Q2.re h)
theorem inv (x : Q2) (h : x ≠ 0) : ∃ y,x*y = 1:=by
 have hN : NN x ≠ 0:=fun e=>h (N_zero e)
 obtain ⟨z,hz⟩:=A.inv (NN x) hN
 refine ⟨⟨x.re*z,-x.im*z⟩,Q2.ext' ?_ ?_⟩
 ·show x.re*(x.re*z)+2*(x.im*(-x.im*z)) = 1
  rw [← hz]; unfold NN; grind
 ·show x.re*(-x.im*z)+x.im*(x.re*z) = 0
  grind
theorem pos_add1 {z : Q2} (h : pos z) : pos (1+z):=by
 have hN : NN (1+z) = (1+z.re)*(1+z.re) - 2*(z.im*z.im):=by
  show (1+z.re)*(1+z.re) - 2*((0+z.im)*(0+z.im)) = _
  grind
 have one:=A.pos_one
 have hre : (1+z).re = 1+z.re:=rfl
 have him : (1+z).im = z.im:=by show 0+z.im = z.im; grind
 rcases h with ⟨h1,h2⟩ | ⟨h1,h2⟩
 ·refine .inl ⟨?_,by rw [hre]; exact A.add one h2⟩
  have:=A.add (A.add one (A.add h2 h2)) h1
  rw [hN]
  rwa [show 1+(z.re+z.re)+NN z = (1+z.re)*(1+z.re) - 2*(z.im*z.im) by unfold NN; grind] at this
 ·rcases A.tri (NN (1+z)) with h3 | h3 | h3
  ·exfalso
   have e:=N_zero h3
   have e2 : z.im = 0:=by have:=congrArg Q2.im e; rw [him] at this; exact this
   rw [e2] at h2; exact A.zero h2
  ·refine .inl ⟨h3,?_⟩
   rw [hre]
   have key : (A.pos (-(1+z.re))∨1+z.re = 0)→False:=by
    intro hh
    have : A.pos (-NN (1+z)):=by
     rw [hN]
     have e : -((1+z.re)*(1+z.re) - 2*(z.im*z.im)) = -NN z+(-(1+z.re)+-(1+z.re)+1):=by unfold NN; grind
     rw [e]
     refine A.add h1 ?_
     rcases hh with hh | hh
     ·exact A.add (A.add hh hh) one
     ·rw [hh,show -(0 : Rat)+-0+1 = 1 by grind]; exact one
    exact A.pos_not h3 this
   rcases A.tri (1+z.re) with h4 | h4 | h4
   ·exact (key (.inr h4)).elim
   ·exact h4
   ·exact (key (.inl h4)).elim
  ·exact .inr ⟨h3,by rw [him]; exact h2⟩
theorem add {x y : Q2} (hx : pos x) (hy : pos y) : pos (x+y):=by
 have hx0 : x ≠ 0:=fun e=>by rw [e] at hx; exact zero hx
 obtain ⟨t,ht⟩:=inv x hx0
 have hone : ¬ pos (-(1 : Q2)):=by
  rintro (⟨_,h⟩ | ⟨_,h⟩)
  ·exact A.pos_not A.pos_one h
  ·have h : A.pos (-(0 : Rat)):=h
   rw [show -(0 : Rat) = 0 by grind] at h
   exact A.zero h
 have ht' : pos t:=by
  rcases tri t with h | h | h
  ·exfalso; rw [h,show x*(0 : Q2) = 0 by (refine Q2.ext' ?_ ?_ <;> (simp only [Q2.mul_re,Q2.mul_im,Q2.zero_re,Q2.zero_im]; grind))] at ht
   exact one_ne ht.symm
  ·exact h
  ·exfalso; have:=mul hx h
   rw [show x*-t = -(x*t) by (refine Q2.ext' ?_ ?_ <;> (simp only [Q2.mul_re,Q2.mul_im,Q2.neg_re,Q2.neg_im]; grind)),ht] at this
   exact hone this
 have:=mul hx (pos_add1 (mul ht' hy))
 rwa [show x*(1+t*y) = x+(x*t)*y by (refine Q2.ext' ?_ ?_ <;> (simp only [Q2.add_re,Q2.add_im,Q2.mul_re,Q2.mul_im,Q2.one_re,Q2.one_im]; grind)),ht,show x+1*y = x+y by (refine Q2.ext' ?_ ?_ <;> (simp only [Q2.add_re,Q2.add_im,Q2.mul_re,Q2.mul_im,Q2.one_re,Q2.one_im]; grind))] at this
theorem pos_not {x : Q2} (h : pos x) : ¬ pos (-x):=fun h'=>zero (by have:=add h h'; rwa [show x+-x = 0 by (refine Q2.ext' ?_ ?_ <;> (simp only [Q2.add_re,Q2.add_im,Q2.neg_re,Q2.neg_im,Q2.zero_re,Q2.zero_im]; grind))] at this)
theorem pos_ne {x : Q2} (h : pos x) : x ≠ 0:=fun e=>zero (e ▸ h)
theorem pos_sq {x : Q2} (h : x ≠ 0) : pos (x*x):=by
 rcases tri x with h1 | h1 | h1
 ·exact absurd h1 h
 ·exact mul h1 h1
 ·have:=mul h1 h1
  rwa [show -x*-x = x*x by (refine Q2.ext' ?_ ?_ <;> (simp only [Q2.mul_re,Q2.mul_im,Q2.neg_re,Q2.neg_im]; grind))] at this
theorem pos_one : pos (1 : Q2):=by
 have:=pos_sq (x:=1) one_ne
 rwa [show (1 : Q2)*1 = 1 by (refine Q2.ext' ?_ ?_ <;> (simp only [Q2.mul_re,Q2.mul_im,Q2.one_re,Q2.one_im]; grind))] at this
theorem sub_eq {a b : Q2} (h : a - b = 0) : a = b:=by
 have e : a = (a - b)+b:=by (refine Q2.ext' ?_ ?_ <;> (simp only [Q2.add_re,Q2.add_im,Q2.sub_re,Q2.sub_im]; grind))
 rw [e,h]; (refine Q2.ext' ?_ ?_ <;> (simp only [Q2.add_re,Q2.add_im,Q2.zero_re,Q2.zero_im]; grind))
theorem pos_of_sq {a b : Q2} (ha : pos a) (h : pos (a*a - b*b)) : pos (a+b):=by
 rcases tri (a+b) with h1 | h1 | h1
 ·exfalso
  rw [show a*a - b*b = (a+b)*(a - b) by (refine Q2.ext' ?_ ?_ <;> (simp only [Q2.add_re,Q2.add_im,Q2.mul_re,Q2.mul_im,Q2.sub_re,Q2.sub_im]; grind)),h1,show (0 : Q2)*(a - b) = 0 by (refine Q2.ext' ?_ ?_ <;> (simp only [Q2.mul_re,Q2.mul_im,Q2.sub_re,Q2.sub_im,Q2.zero_re,Q2.zero_im]; grind))] at h
  exact zero h
 ·exact h1
 ·exfalso
  have h2 : pos (a - b):=by
   have:=add (add ha ha) h1
   rwa [show a+a+-(a+b) = a - b by (refine Q2.ext' ?_ ?_ <;> (simp only [Q2.add_re,Q2.add_im,Q2.neg_re,Q2.neg_im,Q2.sub_re,Q2.sub_im]; grind))] at this
  have:=mul h1 h2
  rw [show -(a+b)*(a - b) = -(a*a - b*b) by (refine Q2.ext' ?_ ?_ <;> (simp only [Q2.add_re,Q2.add_im,Q2.mul_re,Q2.mul_im,Q2.neg_re,Q2.neg_im,Q2.sub_re,Q2.sub_im]; grind))] at this
  exact pos_not h this
theorem pos_cancel {a b : Q2} (ha : pos a) (h : pos (a*b)) : pos b:=by
 rcases tri b with h1 | h1 | h1
 ·exfalso
  rw [h1,show a*(0 : Q2) = 0 by (refine Q2.ext' ?_ ?_ <;> (simp only [Q2.mul_re,Q2.mul_im,Q2.zero_re,Q2.zero_im]; grind))] at h
  exact zero h
 ·exact h1
 ·exfalso
  have:=mul ha h1
  rw [show a*-b = -(a*b) by (refine Q2.ext' ?_ ?_ <;> (simp only [Q2.mul_re,Q2.mul_im,Q2.neg_re,Q2.neg_im]; grind))] at this
  exact pos_not h this
theorem mul_ne {a b : Q2} (ha : a ≠ 0) (hb : b ≠ 0) : a*b ≠ 0:=by
 obtain ⟨y,hy⟩:=inv a ha
 intro h
 apply hb
 have e : b = 1*b:=by (refine Q2.ext' ?_ ?_ <;> (simp only [Q2.mul_re,Q2.mul_im,Q2.one_re,Q2.one_im]; grind))
 rw [e,← hy,show a*y*b = (a*b)*y by (refine Q2.ext' ?_ ?_ <;> (simp only [Q2.mul_re,Q2.mul_im]; grind)),h]; (refine Q2.ext' ?_ ?_ <;> (simp only [Q2.mul_re,Q2.mul_im,Q2.zero_re,Q2.zero_im]; grind))
open Classical in
noncomputable def sg (x : Q2) : Int:=if pos x then 1 else if pos (-x) then -1 else 0
theorem sg_pos {x : Q2} (h : pos x) : sg x = 1:=by unfold sg; rw [if_pos h]
theorem sg_neg {x : Q2} (h : pos (-x)) : sg x = -1:=by
 unfold sg; rw [if_neg (fun h'=>pos_not h' h),if_pos h]
theorem sg_zero : sg (0 : Q2) = 0:=by
 unfold sg; rw [if_neg zero,if_neg (by rw [show -(0 : Q2) = 0 by (refine Q2.ext' ?_ ?_ <;> (simp only [Q2.neg_re,Q2.neg_im,Q2.zero_re,Q2.zero_im]; grind))]; exact zero)]
theorem sg_cases (x : Q2) : (sg x = 0∧x = 0)∨(sg x = 1∧pos x)∨(sg x = -1∧pos (-x)):=by
 rcases tri x with h | h | h
 ·exact .inl ⟨h ▸ sg_zero,h⟩
 ·exact .inr (.inl ⟨sg_pos h,h⟩)
 ·exact .inr (.inr ⟨sg_neg h,h⟩)
theorem sg_three (x : Q2) : sg x = 0∨sg x = 1∨sg x = -1:=by
 rcases sg_cases x with ⟨h,_⟩ | ⟨h,_⟩ | ⟨h,_⟩
 ·exact .inl h
 ·exact .inr (.inl h)
 ·exact .inr (.inr h)
theorem weigh_sg (u v : Rat) : weighI (A.sg u) (A.sg v) (A.sg (u*u - 2*(v*v))) = sg ⟨u,v⟩:=by
 have P : A.pos (u*u - 2*(v*v))→A.pos u→sg (⟨u,v⟩ : Q2) = 1:=fun h1 h2=>sg_pos (.inl ⟨h1,h2⟩)
 have Q : A.pos (-(u*u - 2*(v*v)))→A.pos v→sg (⟨u,v⟩ : Q2) = 1:=fun h1 h2=>sg_pos (.inr ⟨h1,h2⟩)
 have P' : A.pos (u*u - 2*(v*v))→A.pos (-u)→sg (⟨u,v⟩ : Q2) = -1:=fun h1 h2=>sg_neg (.inl ⟨by rw [N_neg]; exact h1,h2⟩)
 have Q' : A.pos (-(u*u - 2*(v*v)))→A.pos (-v)→sg (⟨u,v⟩ : Q2) = -1:=fun h1 h2=>sg_neg (.inr ⟨by rw [N_neg]; exact h1,h2⟩)
 have Z : u*u - 2*(v*v) = 0→u = 0∧v = 0:=fun h=>by
  have:=N_zero (x:=(⟨u,v⟩ : Q2)) h
  exact ⟨congrArg Q2.re this,congrArg Q2.im this⟩
 rcases A.sg_cases u with ⟨h,h1⟩ | ⟨h,h1⟩ | ⟨h,h1⟩ <;> rcases A.sg_cases v with ⟨g,g1⟩ | ⟨g,g1⟩ | ⟨g,g1⟩ <;> rw [h,g]
 ·subst h1 g1
  exact sg_zero.symm
 ·rw [Q (by rw [h1,show -((0 : Rat)*0 - 2*(v*v)) = 2*(v*v) by grind]; exact A.mul hD (A.mul g1 g1)) g1]; rfl
 ·rw [Q' (by rw [h1,show -((0 : Rat)*0 - 2*(v*v)) = 2*(-v*-v) by grind]; exact A.mul hD (A.mul g1 g1)) g1]; rfl
 ·rw [P (by rw [g1,show u*u - 2*((0 : Rat)*0) = u*u by grind]; exact A.mul h1 h1) h1]; rfl
 ·rcases A.sg_cases (u*u - 2*(v*v)) with ⟨_,k⟩ | ⟨_,k⟩ | ⟨_,k⟩
  ·exact absurd (Z k).1 (A.pos_ne h1)
  ·rw [P k h1]; rfl
  ·rw [Q k g1]; rfl
 ·rcases A.sg_cases (u*u - 2*(v*v)) with ⟨_,k⟩ | ⟨e,k⟩ | ⟨e,k⟩
  ·exact absurd (Z k).1 (A.pos_ne h1)
  ·rw [P k h1,e]; rfl
  ·rw [Q' k g1,e]; rfl
 ·rw [P' (by rw [g1,show u*u - 2*((0 : Rat)*0) = -u*-u by grind]; exact A.mul h1 h1) h1]; rfl
 ·rcases A.sg_cases (u*u - 2*(v*v)) with ⟨_,k⟩ | ⟨e,k⟩ | ⟨e,k⟩
  ·exact absurd (Z k).2 (A.pos_ne g1)
  ·rw [P' k h1,e]; rfl
  ·rw [Q k g1,e]; rfl
 ·rcases A.sg_cases (u*u - 2*(v*v)) with ⟨_,k⟩ | ⟨e,k⟩ | ⟨e,k⟩
  ·exfalso; have:=(Z k).1; rw [this,show -(0 : Rat) = 0 by grind] at h1; exact A.zero h1
  ·rw [P' k h1]; rfl
  ·rw [Q' k g1]; rfl
end B
namespace C
theorem hD : B.pos (3 : Q2):=.inl ⟨by show (0 : Rat) < 3*3 - 2*(0*0); grind,by show (0 : Rat) < 3; decide⟩
theorem ns (u v : Q2) (h : u*u = 3*(v*v)) : v = 0:=by
 by_cases hv : v = 0
 ·exact hv
 ·exfalso
  obtain ⟨y,hy⟩:=B.inv v hv
  have hw : (u*y)*(u*y) = 3:=by
   have e : (u*y)*(u*y) = (u*u)*(y*y):=by (refine Q2.ext' ?_ ?_ <;> (simp only [Q2.mul_re,Q2.mul_im]; grind))
   rw [e,h,show 3*(v*v)*(y*y) = 3*((v*y)*(v*y)) by (refine Q2.ext' ?_ ?_ <;> (simp only [Q2.mul_re,Q2.mul_im,Q2.three_re,Q2.three_im]; grind)),hy]; (refine Q2.ext' ?_ ?_ <;> (simp only [Q2.mul_re,Q2.mul_im,Q2.one_re,Q2.one_im,Q2.three_re,Q2.three_im]; grind))
  generalize u*y = w at hw
  have h1 : w.re*w.re+2*(w.im*w.im) = 3:=congrArg Q2.re hw
  have h2 : w.re*w.im+w.im*w.re = 0:=congrArg Q2.im hw
  have h3 : w.re = 0∨w.im = 0:=by
   have : w.re*w.im = 0:=by grind
   exact Rat.mul_eq_zero.1 this
  rcases h3 with h3 | h3
  ·rw [h3] at h1
   have:=rat_sq (n:=6) (fun x y e=>sq6 _ x y (Nat.le_refl _) e) (u:=2*w.im) (v:=1) (by
    show 2*w.im*(2*w.im) = (6 : Rat)*(1*1); grind)
   exact absurd this (by decide)
  ·rw [h3] at h1
   have:=rat_sq (n:=3) (fun x y e=>sq3 _ x y (Nat.le_refl _) e) (u:=w.re) (v:=1) (by
    show w.re*w.re = (3 : Rat)*(1*1); grind)
   exact absurd this (by decide)
def NN (x : Q23) : Q2:=x.re*x.re - 3*(x.im*x.im)
theorem N_mul (x y : Q23) : NN (x*y) = NN x*NN y:=by
 show (x.re*y.re+3*(x.im*y.im))*(x.re*y.re+3*(x.im*y.im)) - 3*((x.re*y.im+x.im*y.re)*(x.re*y.im+x.im*y.re)) = (x.re*x.re - 3*(x.im*x.im))*(y.re*y.re - 3*(y.im*y.im))
 (refine Q2.ext' ?_ ?_ <;> (simp only [Q2.add_re,Q2.add_im,Q2.mul_re,Q2.mul_im,Q2.sub_re,Q2.sub_im,Q2.three_re,Q2.three_im]; grind))
theorem N_neg (x : Q23) : NN (-x) = NN x:=by
 show -x.re*-x.re - 3*(-x.im*-x.im) = x.re*x.re - 3*(x.im*x.im)
 (refine Q2.ext' ?_ ?_ <;> (simp only [Q2.mul_re,Q2.mul_im,Q2.neg_re,Q2.neg_im,Q2.sub_re,Q2.sub_im,Q2.three_re,Q2.three_im]; grind))
theorem N_zero {x : Q23} (h : NN x = 0) : x = 0:=by
 have h1 : x.im = 0:=ns x.re x.im (B.sub_eq h)
 have h2 : x.re*x.re = 0:=by
  have:=B.sub_eq h
  rw [this,h1]; (refine Q2.ext' ?_ ?_ <;> (simp only [Q2.mul_re,Q2.mul_im,Q2.zero_re,Q2.zero_im,Q2.three_re,Q2.three_im]; grind))
 have h3 : x.re = 0:=by
  by_cases h3 : x.re = 0
  ·exact h3
  ·exact absurd h2 (B.mul_ne h3 h3)
 exact Q23.ext' h3 h1
def pos (x : Q23) : Prop:=(B.pos (NN x)∧B.pos x.re)∨(B.pos (-NN x)∧B.pos x.im)
theorem tri (x : Q23) : x = 0∨pos x∨pos (-x):=by
 unfold pos
 rw [N_neg,Q23.neg_re,Q23.neg_im]
 rcases B.tri (NN x) with h | h | h
 ·exact .inl (N_zero h)
 ·rcases B.tri x.re with h1 | h1 | h1
  ·exfalso
   unfold NN at h
   rw [h1,show (0 : Q2)*0 - 3*(x.im*x.im) = -(3*(x.im*x.im)) by (refine Q2.ext' ?_ ?_ <;> (simp only [Q2.mul_re,Q2.mul_im,Q2.neg_re,Q2.neg_im,Q2.sub_re,Q2.sub_im,Q2.zero_re,Q2.zero_im,Q2.three_re,Q2.three_im]; grind))] at h
   by_cases h2 : x.im = 0
   ·rw [h2,show -((3 : Q2)*(0*0)) = 0 by (refine Q2.ext' ?_ ?_ <;> (simp only [Q2.mul_re,Q2.mul_im,Q2.neg_re,Q2.neg_im,Q2.zero_re,Q2.zero_im,Q2.three_re,Q2.three_im]; grind))] at h; exact B.zero h
   ·exact B.pos_not (B.mul hD (B.pos_sq h2)) h
  ·exact .inr (.inl (.inl ⟨h,h1⟩))
  ·exact .inr (.inr (.inl ⟨h,h1⟩))
 ·rcases B.tri x.im with h1 | h1 | h1
  ·exfalso
   unfold NN at h
   rw [h1,show -(x.re*x.re - 3*((0 : Q2)*0)) = -(x.re*x.re) by (refine Q2.ext' ?_ ?_ <;> (simp only [Q2.mul_re,Q2.mul_im,Q2.neg_re,Q2.neg_im,Q2.sub_re,Q2.sub_im,Q2.zero_re,Q2.zero_im,Q2.three_re,Q2.three_im]; grind))] at h
   by_cases h2 : x.re = 0
   ·rw [h2,show -((0 : Q2)*0) = 0 by (refine Q2.ext' ?_ ?_ <;> (simp only [Q2.mul_re,Q2.mul_im,Q2.neg_re,Q2.neg_im,Q2.zero_re,Q2.zero_im]; grind))] at h; exact B.zero h
   ·exact B.pos_not (B.pos_sq h2) h
  ·exact .inr (.inl (.inr ⟨h,h1⟩))
  ·exact .inr (.inr (.inr ⟨h,h1⟩))
theorem mul {x y : Q23} (hx : pos x) (hy : pos y) : pos (x*y):=by
 unfold pos
 rw [N_mul,Q23.mul_re,Q23.mul_im]
 unfold pos at hx hy
 have mixed : ∀ {x y : Q23},B.pos (NN x)→B.pos x.re→B.pos (-NN y)→B.pos y.im→B.pos (x.re*y.im+x.im*y.re):=by
  intro x y h1 h2 h3 h4
  refine B.pos_of_sq (B.mul h2 h4) ?_
  refine B.pos_cancel hD ?_
  have e : 3*(x.re*y.im*(x.re*y.im) - x.im*y.re*(x.im*y.re)) = x.re*x.re*(-NN y)+y.re*y.re*NN x:=by unfold NN; (refine Q2.ext' ?_ ?_ <;> (simp only [Q2.add_re,Q2.add_im,Q2.mul_re,Q2.mul_im,Q2.neg_re,Q2.neg_im,Q2.sub_re,Q2.sub_im,Q2.three_re,Q2.three_im]; grind))
  rw [e]
  have p1:=B.mul (B.mul h2 h2) h3
  by_cases h0 : y.re = 0
  ·rw [h0,show (0 : Q2)*0*NN x = 0 by (refine Q2.ext' ?_ ?_ <;> (simp only [Q2.mul_re,Q2.mul_im,Q2.zero_re,Q2.zero_im]; grind)),show x.re*x.re*-NN y+0 = x.re*x.re*-NN y by (refine Q2.ext' ?_ ?_ <;> (simp only [Q2.add_re,Q2.add_im,Q2.mul_re,Q2.mul_im,Q2.neg_re,Q2.neg_im,Q2.zero_re,Q2.zero_im]; grind))]; exact p1
  ·exact B.add p1 (B.mul (B.pos_sq h0) h1)
 rcases hx with ⟨h1,h2⟩ | ⟨h1,h2⟩ <;> rcases hy with ⟨h3,h4⟩ | ⟨h3,h4⟩
 ·refine .inl ⟨B.mul h1 h3,B.pos_of_sq (B.mul h2 h4) ?_⟩
  have e : x.re*y.re*(x.re*y.re) - 3*(x.im*y.im)*(3*(x.im*y.im)) = x.re*x.re*NN y+3*(y.im*y.im)*NN x:=by unfold NN; (refine Q2.ext' ?_ ?_ <;> (simp only [Q2.add_re,Q2.add_im,Q2.mul_re,Q2.mul_im,Q2.sub_re,Q2.sub_im,Q2.three_re,Q2.three_im]; grind))
  rw [e]
  have p1:=B.mul (B.mul h2 h2) h3
  by_cases h0 : y.im = 0
  ·rw [h0,show 3*((0 : Q2)*0)*NN x = 0 by (refine Q2.ext' ?_ ?_ <;> (simp only [Q2.mul_re,Q2.mul_im,Q2.zero_re,Q2.zero_im,Q2.three_re,Q2.three_im]; grind)),show x.re*x.re*NN y+0 = x.re*x.re*NN y by (refine Q2.ext' ?_ ?_ <;> (simp only [Q2.add_re,Q2.add_im,Q2.mul_re,Q2.mul_im,Q2.zero_re,Q2.zero_im]; grind))]; exact p1
  ·exact B.add p1 (B.mul (B.mul hD (B.pos_sq h0)) h1)
 ·refine .inr ⟨?_,mixed h1 h2 h3 h4⟩
  have:=B.mul h1 h3
  rwa [show NN x*-NN y = -(NN x*NN y) by (refine Q2.ext' ?_ ?_ <;> (simp only [Q2.mul_re,Q2.mul_im,Q2.neg_re,Q2.neg_im]; grind))] at this
 ·refine .inr ⟨?_,?_⟩
  ·have:=B.mul h1 h3
   rwa [show -NN x*NN y = -(NN x*NN y) by (refine Q2.ext' ?_ ?_ <;> (simp only [Q2.mul_re,Q2.mul_im,Q2.neg_re,Q2.neg_im]; grind))] at this
  ·have:=mixed h3 h4 h1 h2
   rwa [show y.re*x.im+y.im*x.re = x.re*y.im+x.im*y.re by (refine Q2.ext' ?_ ?_ <;> (simp only [Q2.add_re,Q2.add_im,Q2.mul_re,Q2.mul_im]; grind))] at this
 ·refine .inl ⟨?_,?_⟩
  ·have:=B.mul h1 h3
   rwa [show -NN x*-NN y = NN x*NN y by (refine Q2.ext' ?_ ?_ <;> (simp only [Q2.mul_re,Q2.mul_im,Q2.neg_re,Q2.neg_im]; grind))] at this
  ·rw [show x.re*y.re+3*(x.im*y.im) = 3*(x.im*y.im)+x.re*y.re by (refine Q2.ext' ?_ ?_ <;> (simp only [Q2.add_re,Q2.add_im,Q2.mul_re,Q2.mul_im,Q2.three_re,Q2.three_im]; grind))]
   refine B.pos_of_sq (B.mul hD (B.mul h2 h4)) ?_
   have e : 3*(x.im*y.im)*(3*(x.im*y.im)) - x.re*y.re*(x.re*y.re) = 3*(x.im*x.im)*(-NN y)+y.re*y.re*(-NN x):=by unfold NN; (refine Q2.ext' ?_ ?_ <;> (simp only [Q2.add_re,Q2.add_im,Q2.mul_re,Q2.mul_im,Q2.neg_re,Q2.neg_im,Q2.sub_re,Q2.sub_im,Q2.three_re,Q2.three_im]; grind))
   rw [e]
   have p1:=B.mul (B.mul hD (B.mul h2 h2)) h3
   by_cases h0 : y.re = 0
   ·rw [h0,show (0 : Q2)*0*(-NN x) = 0 by (refine Q2.ext' ?_ ?_ <;> (simp only [Q2.mul_re,Q2.mul_im,Q2.neg_re,Q2.neg_im,Q2.zero_re,Q2.zero_im]; grind)),show 3*(x.im*x.im)*-NN y+0 = 3*(x.im*x.im)*-NN y by (refine Q2.ext' ?_ ?_ <;> (simp only [Q2.add_re,Q2.add_im,Q2.mul_re,Q2.mul_im,Q2.neg_re,Q2.neg_im,Q2.zero_re,Q2.zero_im,Q2.three_re,Q2.three_im]; grind))]; exact p1
   ·exact B.add p1 (B.mul (B.pos_sq h0) h1)
theorem zero : ¬ pos (0 : Q23):=by
 rintro (⟨_,h⟩ | ⟨_,h⟩)
 ·exact B.zero h
 ·exact B.zero h
theorem one_ne : (1 : Q23) ≠ 0:=fun h=>B.one_ne (congrArg Q23.re h)
theorem inv (x : Q23) (h : x ≠ 0) : ∃ y,x*y = 1:=by
 have hN : NN x ≠ 0:=fun e=>h (N_zero e)
 obtain ⟨z,hz⟩:=B.inv (NN x) hN
 refine ⟨⟨x.re*z,-x.im*z⟩,Q23.ext' ?_ ?_⟩
 ·show x.re*(x.re*z)+3*(x.im*(-x.im*z)) = 1
  rw [← hz]; unfold NN; (refine Q2.ext' ?_ ?_ <;> (simp only [Q2.add_re,Q2.add_im,Q2.mul_re,Q2.mul_im,Q2.neg_re,Q2.neg_im,Q2.sub_re,Q2.sub_im,Q2.three_re,Q2.three_im]; grind))
 ·show x.re*(-x.im*z)+x.im*(x.re*z) = 0
  (refine Q2.ext' ?_ ?_ <;> (simp only [Q2.add_re,Q2.add_im,Q2.mul_re,Q2.mul_im,Q2.neg_re,Q2.neg_im,Q2.zero_re,Q2.zero_im]; grind))
theorem pos_add1 {z : Q23} (h : pos z) : pos (1+z):=by
 have hN : NN (1+z) = (1+z.re)*(1+z.re) - 3*(z.im*z.im):=by
  show (1+z.re)*(1+z.re) - 3*((0+z.im)*(0+z.im)) = _
  (refine Q2.ext' ?_ ?_ <;> (simp only [Q2.add_re,Q2.add_im,Q2.mul_re,Q2.mul_im,Q2.sub_re,Q2.sub_im,Q2.one_re,Q2.one_im,Q2.zero_re,Q2.zero_im,Q2.three_re,Q2.three_im]; grind))
 have one:=B.pos_one
 have hre : (1+z).re = 1+z.re:=rfl
 have him : (1+z).im = z.im:=by show 0+z.im = z.im; (refine Q2.ext' ?_ ?_ <;> (simp only [Q2.add_re,Q2.add_im,Q2.zero_re,Q2.zero_im]; grind))
 rcases h with ⟨h1,h2⟩ | ⟨h1,h2⟩
 ·refine .inl ⟨?_,by rw [hre]; exact B.add one h2⟩
  have:=B.add (B.add one (B.add h2 h2)) h1
  rw [hN]
  rwa [show 1+(z.re+z.re)+NN z = (1+z.re)*(1+z.re) - 3*(z.im*z.im) by unfold NN; (refine Q2.ext' ?_ ?_ <;> (simp only [Q2.add_re,Q2.add_im,Q2.mul_re,Q2.mul_im,Q2.sub_re,Q2.sub_im,Q2.one_re,Q2.one_im,Q2.three_re,Q2.three_im]; grind))] at this
 ·rcases B.tri (NN (1+z)) with h3 | h3 | h3
  ·exfalso
   have e:=N_zero h3
   have e2 : z.im = 0:=by have:=congrArg Q23.im e; rw [him] at this; exact this
   rw [e2] at h2; exact B.zero h2
  ·refine .inl ⟨h3,?_⟩
   rw [hre]
   have key : (B.pos (-(1+z.re))∨1+z.re = 0)→False:=by
    intro hh
    have : B.pos (-NN (1+z)):=by
     rw [hN]
     have e : -((1+z.re)*(1+z.re) - 3*(z.im*z.im)) = -NN z+(-(1+z.re)+-(1+z.re)+1):=by unfold NN; (refine Q2.ext' ?_ ?_ <;> (simp only [Q2.add_re,Q2.add_im,Q2.mul_re,Q2.mul_im,Q2.neg_re,Q2.neg_im,Q2.sub_re,Q2.sub_im,Q2.one_re,Q2.one_im,Q2.three_re,Q2.three_im]; grind))
     rw [e]
     refine B.add h1 ?_
     rcases hh with hh | hh
     ·exact B.add (B.add hh hh) one
     ·rw [hh,show -(0 : Q2)+-0+1 = 1 by (refine Q2.ext' ?_ ?_ <;> (simp only [Q2.add_re,Q2.add_im,Q2.neg_re,Q2.neg_im,Q2.one_re,Q2.one_im,Q2.zero_re,Q2.zero_im]; grind))]; exact one
    exact B.pos_not h3 this
   rcases B.tri (1+z.re) with h4 | h4 | h4
   ·exact (key (.inr h4)).elim
   ·exact h4
   ·exact (key (.inl h4)).elim
  ·exact .inr ⟨h3,by rw [him]; exact h2⟩
theorem add {x y : Q23} (hx : pos x) (hy : pos y) : pos (x+y):=by
 have hx0 : x ≠ 0:=fun e=>by rw [e] at hx; exact zero hx
 obtain ⟨t,ht⟩:=inv x hx0
 have hone : ¬ pos (-(1 : Q23)):=by
  rintro (⟨_,h⟩ | ⟨_,h⟩)
  ·exact B.pos_not B.pos_one h
  ·have h : B.pos (-(0 : Q2)):=h
   rw [show -(0 : Q2) = 0 by (refine Q2.ext' ?_ ?_ <;> (simp only [Q2.neg_re,Q2.neg_im,Q2.zero_re,Q2.zero_im]; grind))] at h
   exact B.zero h
 have ht' : pos t:=by
  rcases tri t with h | h | h
  ·exfalso; rw [h,show x*(0 : Q23) = 0 by (refine Q23.ext' (Q2.ext' ?_ ?_) (Q2.ext' ?_ ?_) <;> (simp only [Q23.mul_re,Q23.mul_im,Q23.zero_re,Q23.zero_im,Q2.add_re,Q2.add_im,Q2.mul_re,Q2.mul_im,Q2.zero_re,Q2.zero_im,Q2.three_re,Q2.three_im]; grind))] at ht
   exact one_ne ht.symm
  ·exact h
  ·exfalso; have:=mul hx h
   rw [show x*-t = -(x*t) by (refine Q23.ext' (Q2.ext' ?_ ?_) (Q2.ext' ?_ ?_) <;> (simp only [Q23.mul_re,Q23.mul_im,Q23.neg_re,Q23.neg_im,Q2.add_re,Q2.add_im,Q2.mul_re,Q2.mul_im,Q2.neg_re,Q2.neg_im,Q2.three_re,Q2.three_im]; grind)),ht] at this
   exact hone this
 have:=mul hx (pos_add1 (mul ht' hy))
 rwa [show x*(1+t*y) = x+(x*t)*y by (refine Q23.ext' (Q2.ext' ?_ ?_) (Q2.ext' ?_ ?_) <;> (simp only [Q23.add_re,Q23.add_im,Q23.mul_re,Q23.mul_im,Q23.one_re,Q23.one_im,Q2.add_re,Q2.add_im,Q2.mul_re,Q2.mul_im,Q2.one_re,Q2.one_im,Q2.zero_re,Q2.zero_im,Q2.three_re,Q2.three_im]; grind)),ht,show x+1*y = x+y by (refine Q23.ext' (Q2.ext' ?_ ?_) (Q2.ext' ?_ ?_) <;> (simp only [Q23.add_re,Q23.add_im,Q23.mul_re,Q23.mul_im,Q23.one_re,Q23.one_im,Q2.add_re,Q2.add_im,Q2.mul_re,Q2.mul_im,Q2.one_re,Q2.one_im,Q2.zero_re,Q2.zero_im,Q2.three_re,Q2.three_im]; grind))] at this
theorem pos_not {x : Q23} (h : pos x) : ¬ pos (-x):=fun h'=>zero (by have:=add h h'; rwa [show x+-x = 0 by (refine Q23.ext' (Q2.ext' ?_ ?_) (Q2.ext' ?_ ?_) <;> (simp only [Q23.add_re,Q23.add_im,Q23.neg_re,Q23.neg_im,Q23.zero_re,Q23.zero_im,Q2.add_re,Q2.add_im,Q2.neg_re,Q2.neg_im,Q2.zero_re,Q2.zero_im]; grind))] at this)
theorem mul_ne {a b : Q23} (ha : a ≠ 0) (hb : b ≠ 0) : a*b ≠ 0:=by
 obtain ⟨y,hy⟩:=inv a ha
 intro h
 apply hb
 have e : b = 1*b:=by (refine Q23.ext' (Q2.ext' ?_ ?_) (Q2.ext' ?_ ?_) <;> (simp only [Q23.mul_re,Q23.mul_im,Q23.one_re,Q23.one_im,Q2.add_re,Q2.add_im,Q2.mul_re,Q2.mul_im,Q2.one_re,Q2.one_im,Q2.zero_re,Q2.zero_im,Q2.three_re,Q2.three_im]; grind))
 rw [e,← hy,show a*y*b = (a*b)*y by (refine Q23.ext' (Q2.ext' ?_ ?_) (Q2.ext' ?_ ?_) <;> (simp only [Q23.mul_re,Q23.mul_im,Q2.add_re,Q2.add_im,Q2.mul_re,Q2.mul_im,Q2.three_re,Q2.three_im]; grind)),h]; (refine Q23.ext' (Q2.ext' ?_ ?_) (Q2.ext' ?_ ?_) <;> (simp only [Q23.mul_re,Q23.mul_im,Q23.zero_re,Q23.zero_im,Q2.add_re,Q2.add_im,Q2.mul_re,Q2.mul_im,Q2.zero_re,Q2.zero_im,Q2.three_re,Q2.three_im]; grind))
open Classical in
noncomputable def sg (x : Q23) : Int:=if pos x then 1 else if pos (-x) then -1 else 0
theorem sg_pos {x : Q23} (h : pos x) : sg x = 1:=by unfold sg; rw [if_pos h]
theorem sg_neg {x : Q23} (h : pos (-x)) : sg x = -1:=by
 unfold sg; rw [if_neg (fun h'=>pos_not h' h),if_pos h]
theorem sg_zero : sg (0 : Q23) = 0:=by
 unfold sg; rw [if_neg zero,if_neg (by rw [show -(0 : Q23) = 0 by (refine Q23.ext' (Q2.ext' ?_ ?_) (Q2.ext' ?_ ?_) <;> (simp only [Q23.neg_re,Q23.neg_im,Q23.zero_re,Q23.zero_im,Q2.neg_re,Q2.neg_im,Q2.zero_re,Q2.zero_im]; grind))]; exact zero)]
theorem sg_cases (x : Q23) : (sg x = 0∧x = 0)∨(sg x = 1∧pos x)∨(sg x = -1∧pos (-x)):=by
 rcases tri x with h | h | h
 ·exact .inl ⟨h ▸ sg_zero,h⟩
 ·exact .inr (.inl ⟨sg_pos h,h⟩)
 ·exact .inr (.inr ⟨sg_neg h,h⟩)
theorem sg_three (x : Q23) : sg x = 0∨sg x = 1∨sg x = -1:=by
 rcases sg_cases x with ⟨h,_⟩ | ⟨h,_⟩ | ⟨h,_⟩
 ·exact .inl h
 ·exact .inr (.inl h)
 ·exact .inr (.inr h)
theorem sg_minus (x : Q23) : sg (-x) = - sg x:=by
 rcases sg_cases x with ⟨h,h1⟩ | ⟨h,h1⟩ | ⟨h,h1⟩
 ·rw [h,h1,show -(0 : Q23) = 0 by (refine Q23.ext' (Q2.ext' ?_ ?_) (Q2.ext' ?_ ?_) <;> (simp only [Q23.neg_re,Q23.neg_im,Q23.zero_re,Q23.zero_im,Q2.neg_re,Q2.neg_im,Q2.zero_re,Q2.zero_im]; grind)),sg_zero]; rfl
 ·rw [h,sg_neg (by rw [show - -x = x by (refine Q23.ext' (Q2.ext' ?_ ?_) (Q2.ext' ?_ ?_) <;> (simp only [Q23.neg_re,Q23.neg_im,Q2.neg_re,Q2.neg_im]; grind))]; exact h1)]
 ·rw [h,sg_pos h1]; rfl
theorem sg_mul (x y : Q23) : sg (x*y) = sg x*sg y:=by
 rcases sg_cases x with ⟨h,h1⟩ | ⟨h,h1⟩ | ⟨h,h1⟩ <;> rcases sg_cases y with ⟨g,g1⟩ | ⟨g,g1⟩ | ⟨g,g1⟩
 ·rw [h,h1,show (0 : Q23)*y = 0 by (refine Q23.ext' (Q2.ext' ?_ ?_) (Q2.ext' ?_ ?_) <;> (simp only [Q23.mul_re,Q23.mul_im,Q23.zero_re,Q23.zero_im,Q2.add_re,Q2.add_im,Q2.mul_re,Q2.mul_im,Q2.zero_re,Q2.zero_im,Q2.three_re,Q2.three_im]; grind)),sg_zero]; omega
 ·rw [h,h1,show (0 : Q23)*y = 0 by (refine Q23.ext' (Q2.ext' ?_ ?_) (Q2.ext' ?_ ?_) <;> (simp only [Q23.mul_re,Q23.mul_im,Q23.zero_re,Q23.zero_im,Q2.add_re,Q2.add_im,Q2.mul_re,Q2.mul_im,Q2.zero_re,Q2.zero_im,Q2.three_re,Q2.three_im]; grind)),sg_zero]; omega
 ·rw [h,h1,show (0 : Q23)*y = 0 by (refine Q23.ext' (Q2.ext' ?_ ?_) (Q2.ext' ?_ ?_) <;> (simp only [Q23.mul_re,Q23.mul_im,Q23.zero_re,Q23.zero_im,Q2.add_re,Q2.add_im,Q2.mul_re,Q2.mul_im,Q2.zero_re,Q2.zero_im,Q2.three_re,Q2.three_im]; grind)),sg_zero]; omega
 ·rw [g,g1,show x*(0 : Q23) = 0 by (refine Q23.ext' (Q2.ext' ?_ ?_) (Q2.ext' ?_ ?_) <;> (simp only [Q23.mul_re,Q23.mul_im,Q23.zero_re,Q23.zero_im,Q2.add_re,Q2.add_im,Q2.mul_re,Q2.mul_im,Q2.zero_re,Q2.zero_im,Q2.three_re,Q2.three_im]; grind)),sg_zero]; omega
 ·rw [h,g,sg_pos (mul h1 g1)]; rfl
 ·rw [h,g,sg_neg (by have:=mul h1 g1; rwa [show x*-y = -(x*y) by (refine Q23.ext' (Q2.ext' ?_ ?_) (Q2.ext' ?_ ?_) <;> (simp only [Q23.mul_re,Q23.mul_im,Q23.neg_re,Q23.neg_im,Q2.add_re,Q2.add_im,Q2.mul_re,Q2.mul_im,Q2.neg_re,Q2.neg_im,Q2.three_re,Q2.three_im]; grind))] at this)]; rfl
 ·rw [g,g1,show x*(0 : Q23) = 0 by (refine Q23.ext' (Q2.ext' ?_ ?_) (Q2.ext' ?_ ?_) <;> (simp only [Q23.mul_re,Q23.mul_im,Q23.zero_re,Q23.zero_im,Q2.add_re,Q2.add_im,Q2.mul_re,Q2.mul_im,Q2.zero_re,Q2.zero_im,Q2.three_re,Q2.three_im]; grind)),sg_zero]; omega
 ·rw [h,g,sg_neg (by have:=mul h1 g1; rwa [show -x*y = -(x*y) by (refine Q23.ext' (Q2.ext' ?_ ?_) (Q2.ext' ?_ ?_) <;> (simp only [Q23.mul_re,Q23.mul_im,Q23.neg_re,Q23.neg_im,Q2.add_re,Q2.add_im,Q2.mul_re,Q2.mul_im,Q2.neg_re,Q2.neg_im,Q2.three_re,Q2.three_im]; grind))] at this)]; rfl
 ·rw [h,g,sg_pos (by have:=mul h1 g1; rwa [show -x*-y = x*y by (refine Q23.ext' (Q2.ext' ?_ ?_) (Q2.ext' ?_ ?_) <;> (simp only [Q23.mul_re,Q23.mul_im,Q23.neg_re,Q23.neg_im,Q2.add_re,Q2.add_im,Q2.mul_re,Q2.mul_im,Q2.neg_re,Q2.neg_im,Q2.three_re,Q2.three_im]; grind))] at this)]; rfl
theorem weigh_sg (u v : Q2) : weighI (B.sg u) (B.sg v) (B.sg (u*u - 3*(v*v))) = sg ⟨u,v⟩:=by
 have P : B.pos (u*u - 3*(v*v))→B.pos u→sg (⟨u,v⟩ : Q23) = 1:=fun h1 h2=>sg_pos (.inl ⟨h1,h2⟩)
 have Q : B.pos (-(u*u - 3*(v*v)))→B.pos v→sg (⟨u,v⟩ : Q23) = 1:=fun h1 h2=>sg_pos (.inr ⟨h1,h2⟩)
 have P' : B.pos (u*u - 3*(v*v))→B.pos (-u)→sg (⟨u,v⟩ : Q23) = -1:=fun h1 h2=>sg_neg (.inl ⟨by rw [N_neg]; exact h1,h2⟩)
 have Q' : B.pos (-(u*u - 3*(v*v)))→B.pos (-v)→sg (⟨u,v⟩ : Q23) = -1:=fun h1 h2=>sg_neg (.inr ⟨by rw [N_neg]; exact h1,h2⟩)
 have Z : u*u - 3*(v*v) = 0→u = 0∧v = 0:=fun h=>by
  have:=N_zero (x:=(⟨u,v⟩ : Q23)) h
  exact ⟨congrArg Q23.re this,congrArg Q23.im this⟩
 rcases B.sg_cases u with ⟨h,h1⟩ | ⟨h,h1⟩ | ⟨h,h1⟩ <;> rcases B.sg_cases v with ⟨g,g1⟩ | ⟨g,g1⟩ | ⟨g,g1⟩ <;> rw [h,g]
 ·subst h1 g1
  exact sg_zero.symm
 ·rw [Q (by rw [h1,show -((0 : Q2)*0 - 3*(v*v)) = 3*(v*v) by (refine Q2.ext' ?_ ?_ <;> (simp only [Q2.mul_re,Q2.mul_im,Q2.neg_re,Q2.neg_im,Q2.sub_re,Q2.sub_im,Q2.zero_re,Q2.zero_im,Q2.three_re,Q2.three_im]; grind))]; exact B.mul hD (B.mul g1 g1)) g1]; rfl
 ·rw [Q' (by rw [h1,show -((0 : Q2)*0 - 3*(v*v)) = 3*(-v*-v) by (refine Q2.ext' ?_ ?_ <;> (simp only [Q2.mul_re,Q2.mul_im,Q2.neg_re,Q2.neg_im,Q2.sub_re,Q2.sub_im,Q2.zero_re,Q2.zero_im,Q2.three_re,Q2.three_im]; grind))]; exact B.mul hD (B.mul g1 g1)) g1]; rfl
 ·rw [P (by rw [g1,show u*u - 3*((0 : Q2)*0) = u*u by (refine Q2.ext' ?_ ?_ <;> (simp only [Q2.mul_re,Q2.mul_im,Q2.sub_re,Q2.sub_im,Q2.zero_re,Q2.zero_im,Q2.three_re,Q2.three_im]; grind))]; exact B.mul h1 h1) h1]; rfl
 ·rcases B.sg_cases (u*u - 3*(v*v)) with ⟨_,k⟩ | ⟨_,k⟩ | ⟨_,k⟩
  ·exact absurd (Z k).1 (B.pos_ne h1)
  ·rw [P k h1]; rfl
  ·rw [Q k g1]; rfl
 ·rcases B.sg_cases (u*u - 3*(v*v)) with ⟨_,k⟩ | ⟨e,k⟩ | ⟨e,k⟩
  ·exact absurd (Z k).1 (B.pos_ne h1)
  ·rw [P k h1,e]; rfl
  ·rw [Q' k g1,e]; rfl
 ·rw [P' (by rw [g1,show u*u - 3*((0 : Q2)*0) = -u*-u by (refine Q2.ext' ?_ ?_ <;> (simp only [Q2.mul_re,Q2.mul_im,Q2.neg_re,Q2.neg_im,Q2.sub_re,Q2.sub_im,Q2.zero_re,Q2.zero_im,Q2.three_re,Q2.three_im]; grind))]; exact B.mul h1 h1) h1]; rfl
 ·rcases B.sg_cases (u*u - 3*(v*v)) with ⟨_,k⟩ | ⟨e,k⟩ | ⟨e,k⟩
  ·exact absurd (Z k).2 (B.pos_ne g1)
  ·rw [P' k h1,e]; rfl
  ·rw [Q k g1,e]; rfl
 ·rcases B.sg_cases (u*u - 3*(v*v)) with ⟨_,k⟩ | ⟨e,k⟩ | ⟨e,k⟩
  ·exfalso; have:=(Z k).1; rw [this,show -(0 : Q2) = 0 by (refine Q2.ext' ?_ ?_ <;> (simp only [Q2.neg_re,Q2.neg_im,Q2.zero_re,Q2.zero_im]; grind))] at h1; exact B.zero h1
  ·rw [P' k h1]; rfl
  ·rw [Q' k g1]; rfl
end C
theorem q23_assoc (a b c : Q23) : a*b*c = a*(b*c):=by (refine Q23.ext' (Q2.ext' ?_ ?_) (Q2.ext' ?_ ?_) <;> (simp only [Q23.mul_re,Q23.mul_im,Q2.add_re,Q2.add_im,Q2.mul_re,Q2.mul_im,Q2.three_re,Q2.three_im]; grind))
theorem q23_comm (a b : Q23) : a*b = b*a:=by (refine Q23.ext' (Q2.ext' ?_ ?_) (Q2.ext' ?_ ?_) <;> (simp only [Q23.mul_re,Q23.mul_im,Q2.add_re,Q2.add_im,Q2.mul_re,Q2.mul_im,Q2.three_re,Q2.three_im]; grind))
instance : Std.Associative (α:=Q23) (·*·):=⟨q23_assoc⟩
instance : Std.Commutative (α:=Q23) (·*·):=⟨q23_comm⟩
def e4 (a b c d : Rat) : Q23:=⟨⟨a,b⟩,⟨c,d⟩⟩
theorem e4_mul (a b c d a' b' c' d' : Rat) : e4 a b c d*e4 a' b' c' d' = e4 (a*a'+2*(b*b')+3*(c*c')+6*(d*d')) (a*b'+b*a'+3*(c*d'+d*c')) (a*c'+c*a'+2*(b*d'+d*b')) (a*d'+d*a'+b*c'+c*b'):=by
 refine Q23.ext' (Q2.ext' ?_ ?_) (Q2.ext' ?_ ?_)
 ·show a*a'+2*(b*b')+(3*(c*c'+2*(d*d'))+2*(0*(c*d'+d*c'))) = _
  show _ = a*a'+2*(b*b')+3*(c*c')+6*(d*d')
  grind
 ·show a*b'+b*a'+(3*(c*d'+d*c')+0*(c*c'+2*(d*d'))) = a*b'+b*a'+3*(c*d'+d*c')
  grind
 ·show a*c'+2*(b*d')+(c*a'+2*(d*b')) = a*c'+c*a'+2*(b*d'+d*b')
  grind
 ·show a*d'+b*c'+(c*b'+d*a') = a*d'+d*a'+b*c'+c*b'
  grind
theorem e4_inj {a b c d a' b' c' d' : Rat} (h : e4 a b c d = e4 a' b' c' d') : a = a'∧b = b'∧c = c'∧d = d' :=
 ⟨congrArg (·.re.re) h,congrArg (·.re.im) h,congrArg (·.im.re) h,congrArg (·.im.im) h⟩
theorem sg_q2 (a b : Rat) : weighI (A.sg a) (A.sg b) (A.sg (a*a - 2*(b*b))) = B.sg (⟨a,b⟩ : Q2):=B.weigh_sg a b
theorem sg_q23 (u v : Q2) : weighI (B.sg u) (B.sg v) (B.sg (u*u - 3*(v*v))) = C.sg (⟨u,v⟩ : Q23):=C.weigh_sg u v
end Go.Proofs.YtmilhgkacmofmaaGreat.Plain
