/- Several texts in one. (Printed by prep.py.) -/
import Derived.Test.YtlginncipdaifaaGreatMbTB
import Derived.Test.YtlginncipdaifaaGreatMbVS
import Derived.Test.YtlginncipdaifaaGreatProg
import Derived.Test.YtlginncipdaifaaGreatMbSy14
import Derived.Test.YtlginncipdaifaaGreatMbS4
import Derived.Test.YtlginncipdaifaaGreatMbQ5
namespace Go.Proofs.YtlginncipdaifaaGreat
open Num Plain
namespace Q23L
theorem add_comm (a b : Q23) : a+b = b+a:=by (refine Q23.ext' (Q2.ext' ?_ ?_) (Q2.ext' ?_ ?_) <;> (simp only [Q23.add_re,Q23.add_im,Q2.add_re,Q2.add_im]; grind))
theorem add_assoc (a b c : Q23) : a+b+c = a+(b+c):=by (refine Q23.ext' (Q2.ext' ?_ ?_) (Q2.ext' ?_ ?_) <;> (simp only [Q23.add_re,Q23.add_im,Q2.add_re,Q2.add_im]; grind))
theorem mul_assoc (a b c : Q23) : a*b*c = a*(b*c):=by (refine Q23.ext' (Q2.ext' ?_ ?_) (Q2.ext' ?_ ?_) <;> (simp only [Q23.mul_re,Q23.mul_im,Q2.add_re,Q2.add_im,Q2.mul_re,Q2.mul_im,Q2.three_re,Q2.three_im]; grind))
theorem add_mul (a b c : Q23) : (a+b)*c = a*c+b*c:=by (refine Q23.ext' (Q2.ext' ?_ ?_) (Q2.ext' ?_ ?_) <;> (simp only [Q23.add_re,Q23.add_im,Q23.mul_re,Q23.mul_im,Q2.add_re,Q2.add_im,Q2.mul_re,Q2.mul_im,Q2.three_re,Q2.three_im]; grind))
theorem mul_add (a b c : Q23) : a*(b+c) = a*b+a*c:=by (refine Q23.ext' (Q2.ext' ?_ ?_) (Q2.ext' ?_ ?_) <;> (simp only [Q23.add_re,Q23.add_im,Q23.mul_re,Q23.mul_im,Q2.add_re,Q2.add_im,Q2.mul_re,Q2.mul_im,Q2.three_re,Q2.three_im]; grind))
theorem sub_eq (a b : Q23) : a - b = a+-b:=by (refine Q23.ext' (Q2.ext' ?_ ?_) (Q2.ext' ?_ ?_) <;> (simp only [Q23.add_re,Q23.add_im,Q23.neg_re,Q23.neg_im,Q23.sub_re,Q23.sub_im,Q2.add_re,Q2.add_im,Q2.neg_re,Q2.neg_im,Q2.sub_re,Q2.sub_im]; grind))
theorem neg_add (a b : Q23) : -(a+b) = -a+-b:=by (refine Q23.ext' (Q2.ext' ?_ ?_) (Q2.ext' ?_ ?_) <;> (simp only [Q23.add_re,Q23.add_im,Q23.neg_re,Q23.neg_im,Q2.add_re,Q2.add_im,Q2.neg_re,Q2.neg_im]; grind))
theorem neg_mul (a b : Q23) : -a*b = -(a*b):=by (refine Q23.ext' (Q2.ext' ?_ ?_) (Q2.ext' ?_ ?_) <;> (simp only [Q23.mul_re,Q23.mul_im,Q23.neg_re,Q23.neg_im,Q2.add_re,Q2.add_im,Q2.mul_re,Q2.mul_im,Q2.neg_re,Q2.neg_im,Q2.three_re,Q2.three_im]; grind))
theorem mul_neg (a b : Q23) : a*-b = -(a*b):=by (refine Q23.ext' (Q2.ext' ?_ ?_) (Q2.ext' ?_ ?_) <;> (simp only [Q23.mul_re,Q23.mul_im,Q23.neg_re,Q23.neg_im,Q2.add_re,Q2.add_im,Q2.mul_re,Q2.mul_im,Q2.neg_re,Q2.neg_im,Q2.three_re,Q2.three_im]; grind))
theorem add_left (a b c : Q23) : a+(b+c) = b+(a+c):=by (refine Q23.ext' (Q2.ext' ?_ ?_) (Q2.ext' ?_ ?_) <;> (simp only [Q23.add_re,Q23.add_im,Q2.add_re,Q2.add_im]; grind))
end Q23L
open Q23L
theorem W4.mul_assoc (x y z : W4) : (x.mul y).mul z = x.mul (y.mul z):=by
 refine W4.ext' (toQ_inj ?_) (toQ_inj ?_)
 ·simp only [W4.mul,toQ_sub,toQ_mul,toQ_add,Q23L.sub_eq,Q23L.add_mul,Q23L.mul_add,Q23L.neg_mul,Q23L.mul_neg,Q23L.neg_add,Q23L.mul_assoc,Q23L.add_assoc]
  simp only [Q23L.add_assoc,Q23L.add_comm]
 ·simp only [W4.mul,toQ_sub,toQ_mul,toQ_add,Q23L.sub_eq,Q23L.add_mul,Q23L.mul_add,Q23L.neg_mul,Q23L.mul_neg,Q23L.mul_assoc,Q23L.add_assoc]
  simp only [Q23L.add_assoc,Q23L.add_comm,Q23L.add_left]
end Go.Proofs.YtlginncipdaifaaGreat

namespace Go.Proofs.YtlginncipdaifaaGreat
open Num Plain Q23L
noncomputable def sgd (a b : Q4) : Int:=C.sg (a.sub b).toQ
theorem sgd_zero {a b : Q4} : sgd a b = 0↔a = b:=by
 unfold sgd
 rw [C.sg_eq_zero]
 constructor
 ·intro h; exact Q4.sub_zero_iff.1 (toQ_inj (h.trans toQ_zero.symm))
 ·intro h; rw [Q4.sub_zero_iff.2 h,toQ_zero]
theorem sgd_self (a : Q4) : sgd a a = 0:=sgd_zero.2 rfl
theorem sgd_neg (a b : Q4) : sgd b a = - sgd a b:=by
 unfold sgd
 rw [← C.sg_minus,toQ_sub,toQ_sub]
 congr 1
 generalize a.toQ = p
 generalize b.toQ = q
 (refine Q23.ext' (Q2.ext' ?_ ?_) (Q2.ext' ?_ ?_) <;> (simp only [Q23.neg_re,Q23.neg_im,Q23.sub_re,Q23.sub_im,Q2.neg_re,Q2.neg_im,Q2.sub_re,Q2.sub_im]; grind))
theorem sgd_trans {a b c : Q4} (h : sgd a b≤0) (h' : sgd b c≤0) : sgd a c≤0:=by
 unfold sgd at *
 rw [toQ_sub] at *
 exact C.ord6 h h'
theorem sgd_strict {a b c : Q4} (h : sgd a b≤0) (h' : sgd b c < 0) : sgd a c < 0:=by
 have h1:=sgd_trans h (Int.le_of_lt h')
 have hne : sgd a c ≠ 0:=fun e=>by
  have:=sgd_zero.1 e
  subst this
  rw [sgd_neg] at h'
  omega
 omega
theorem turn_zero : turnW 0 = W4.real 1:=by decide +kernel
theorem W4.mul_one (x : W4) : x.mul (W4.real 1) = x:=by
 refine W4.ext' (toQ_inj ?_) (toQ_inj ?_)
 ·show ((x.re.mul (Q4.real 1)).sub (x.im.mul Q4.zero)).toQ = _
  rw [toQ_sub,toQ_mul,toQ_mul,toQ_zero,show (Q4.real 1).toQ = 1 from rfl]
  generalize x.re.toQ = p
  generalize x.im.toQ = q
  (refine Q23.ext' (Q2.ext' ?_ ?_) (Q2.ext' ?_ ?_) <;> (simp only [Q23.mul_re,Q23.mul_im,Q23.sub_re,Q23.sub_im,Q23.one_re,Q23.one_im,Q23.zero_re,Q23.zero_im,Q2.add_re,Q2.add_im,Q2.mul_re,Q2.mul_im,Q2.sub_re,Q2.sub_im,Q2.one_re,Q2.one_im,Q2.zero_re,Q2.zero_im,Q2.three_re,Q2.three_im]; grind))
 ·show ((x.re.mul Q4.zero).add (x.im.mul (Q4.real 1))).toQ = _
  rw [toQ_add,toQ_mul,toQ_mul,toQ_zero,show (Q4.real 1).toQ = 1 from rfl]
  generalize x.re.toQ = p
  generalize x.im.toQ = q
  (refine Q23.ext' (Q2.ext' ?_ ?_) (Q2.ext' ?_ ?_) <;> (simp only [Q23.add_re,Q23.add_im,Q23.mul_re,Q23.mul_im,Q23.one_re,Q23.one_im,Q23.zero_re,Q23.zero_im,Q2.add_re,Q2.add_im,Q2.mul_re,Q2.mul_im,Q2.one_re,Q2.one_im,Q2.zero_re,Q2.zero_im,Q2.three_re,Q2.three_im]; grind))
def fAt (x : W4) (k : Nat) : Q4:=(x.mul (turnW ((24 - k) % 24))).re
theorem fAt_zero (x : W4) : fAt x 0 = x.re:=by
 unfold fAt
 rw [show (24 - 0) % 24 = 0 from rfl,turn_zero,W4.mul_one]
noncomputable def hi (x : W4) : Nat→Nat × Q4
 | 0=>(0,x.re)
 | j+1=>if 0 < sgd (fAt x (j+1)) (hi x j).2 then (j+1,fAt x (j+1)) else hi x j
theorem hi_spec (x : W4) (j : Nat) : (hi x j).1≤j∧(hi x j).2 = fAt x (hi x j).1∧(∀ i,i≤j→sgd (fAt x i) (hi x j).2≤0)∧∀ i,i < (hi x j).1→sgd (fAt x i) (hi x j).2 < 0:=by
 induction j with
 | zero =>
  refine ⟨Nat.le_refl _,(fAt_zero x).symm,fun i hi=>?_,fun i hi=>absurd hi (Nat.not_lt_zero _)⟩
  have : i = 0:=by omega
  subst this
  rw [fAt_zero]
  show sgd x.re x.re≤0
  rw [sgd_self]
  decide
 | succ j ih =>
  obtain ⟨h1,h2,h3,h4⟩:=ih
  by_cases hc : 0 < sgd (fAt x (j+1)) (hi x j).2
  ·have e : hi x (j+1) = (j+1,fAt x (j+1)):=by show (if _ then _ else _) = _; rw [if_pos hc]
   rw [e]
   have hb : sgd (hi x j).2 (fAt x (j+1)) < 0:=by rw [sgd_neg]; omega
   have hs : ∀ i,i≤j→sgd (fAt x i) (fAt x (j+1)) < 0:=fun i hi=>sgd_strict (h3 i hi) hb
   refine ⟨Nat.le_refl _,rfl,fun i hi=>?_,fun i hi=>hs i (by have : i < j+1:=hi; omega)⟩
   by_cases e2 : i = j+1
   ·subst e2
    show sgd (fAt x (j+1)) (fAt x (j+1))≤0
    rw [sgd_self]
    decide
   ·exact Int.le_of_lt (hs i (by omega))
  ·have e : hi x (j+1) = hi x j:=by show (if _ then _ else _) = _; rw [if_neg hc]
   rw [e]
   refine ⟨by omega,h2,fun i hi=>?_,h4⟩
   by_cases e2 : i = j+1
   ·subst e2; omega
   ·exact h3 i (by omega)
noncomputable def cnt (x : W4) (s : Q4) (k : Nat) : Nat:=((List.range k).filter fun i=>decide (sgd (fAt x i) s = 0)).length
def sg2F (a b : Rat) : Int:=weighI a.num.sign b.num.sign (a*a - 2*(b*b)).num.sign
theorem sg2_eq (a b : Rat) : B.sg (⟨a,b⟩ : Q2) = sg2F a b:=by rw [← sg_q2,sgRat,sgRat,sgRat]; rfl
def sgF (v : Q4) : Int:=weighI (sg2F v.a v.b) (sg2F v.c v.d) (sg2F (v.a*v.a+2*(v.b*v.b) - 3*(v.c*v.c+2*(v.d*v.d))) (v.a*v.b+v.b*v.a - 3*(v.c*v.d+v.d*v.c)))
theorem sgF_eq (v : Q4) : C.sg v.toQ = sgF v:=by
 show C.sg (⟨⟨v.a,v.b⟩,⟨v.c,v.d⟩⟩ : Q23) = _
 rw [← sg_q23,sg2_eq,sg2_eq]
 unfold sgF
 rw [← sg2_eq (v.a*v.a+2*(v.b*v.b) - 3*(v.c*v.c+2*(v.d*v.d)))]
 congr 1
 congr 1
 refine Q2.ext' ?_ ?_ <;> (simp only [Q2.mul_re,Q2.mul_im,Q2.sub_re,Q2.sub_im,Q2.three_re,Q2.three_im]; grind)
end Go.Proofs.YtlginncipdaifaaGreat

namespace Go.Proofs.YtlginncipdaifaaGreat
open Go.RowKit
open Value (agg slice int bool tuple)
open Sy (Up Sees CallsG Seg execFn_use)
set_option maxRecDepth 100000
variable {k : World} {R : World→Value→Prop}
theorem wHigh_vc {cs0 cs1 : Array Value} (hcs0 : Seg 9 cs0) (hcs1 : Seg 9 cs1)
 (h : ∃ I0 : Nat→World→List Value→Prop,(∃ m0,∀ k0,Up k k0→I0 m0 k0 [int .i64 0,int .i64 1,agg cs0]) ∧
 ∀ m0 k0 vs0,Up k k0→I0 m0 k0 vs0→∃ n2,∃ n3,∃ cs4,Seg 9 cs4∧some [int .i64 n2,int .i64 n3,agg cs4] = some vs0 ∧
 ((decide ((n3 : Int) < 24)) = true →
 (Cl k0 62 #[int .i64 (IntKind.wrap .i64 (0 - n3))] fun k2 r1=>∃ cs5,Seg 9 cs5∧∃ cs6,Seg 9 cs6∧some (agg (cs5.toList ++ (cs6.toList ++ ([]))).toArray) = some r1 ∧
 Cl k2 61 #[agg (cs0.toList ++ (cs1.toList ++ ([]))).toArray,agg (cs5.toList ++ (cs6.toList ++ ([]))).toArray] fun k4 r3=>∃ cs7,Seg 9 cs7∧∃ cs8,Seg 9 cs8∧some (agg (cs7.toList ++ (cs8.toList ++ ([]))).toArray) = some r3 ∧
 Cl k4 70 #[agg cs7,agg cs4] fun k6 r5=>∃ n9,some (int .i64 n9) = some r5 ∧
 ((decide ((n9 : Int) > 0)) = true →
 (∀ k7,Up k6 k7→∃ m,m < m0∧I0 m k7 [int .i64 n3,int .i64 (IntKind.wrap .i64 (n3+1)),agg cs7])) ∧
 ((decide ((n9 : Int) > 0)) = false →
 (∀ k8,Up k6 k8→∃ m,m < m0∧I0 m k8 [int .i64 n2,int .i64 (IntKind.wrap .i64 (n3+1)),agg cs4])))) ∧
 ((decide ((n3 : Int) < 24)) = false →
 (∀ k9,Up k0 k9→R k9 (tuple #[int .i64 n2,agg cs4])))) :
   CallsG Tryz.prog 80 #[agg (cs0.toList ++ (cs1.toList ++ ([]))).toArray] k R :=
  execFn_use (cfg:={ opq:=[32],loops:=[(0,[.tmp 5 false [.int .i64],.tmp 6 false [.int .i64],.blk 2 [.seg 9]])] }) (args:=[.agg [.seg 0 9,.seg 1 9]]) (vals:=[agg cs0,agg cs1]) (kinds:=[.seg 9,.seg 9]) (by kernel_rfl) ⟨⟨cs0,rfl,hcs0⟩,⟨⟨cs1,rfl,hcs1⟩,trivial⟩⟩ (by kernel_rfl) (by kernel_rfl) h
end Go.Proofs.YtlginncipdaifaaGreat

namespace Go.Proofs.YtlginncipdaifaaGreat
open Go.RowKit Num Plain
open Sy (Up Sees CallsG Seg)
section
variable {k k' : World} {R : World→Value→Prop} {K L : Nat} {cs cs' : Array Value} {x y : W4} {v v' : Q4}
theorem plc_down {j : Nat} (hj : j < 24) : plc (IntKind.wrap .i64 (0 - (j : Int))) = (24 - j) % 24:=by
 have hw : IntKind.wrap .i64 (0 - (j : Int)) = 0 - (j : Int):=by rw [IntKind.wrap_i64]; omega
 rw [hw]
 unfold plc
 omega
theorem wrap_up {j : Nat} (hj : j < 100) : IntKind.wrap .i64 ((j : Int)+1) = ((j+1 : Nat) : Int):=by rw [IntKind.wrap_i64]; omega
theorem high_s (hx : WaveV k cs x K) (hK1 : 1≤K) (hK : K≤1000000) (C : ∀ k' ds,Up k k'→SurdV k' ds (hi x 23).2 (4*K+9)→R k' (.tuple #[.int .i64 ((hi x 23).1 : Int),.agg ds])) :
 Cl k 80 #[.agg cs] R:=by
 intro k0 u0
 replace hx:=hx.up u0
 replace C:=fun k' ds u=>C k' ds (u0.trans u)
 have hx':=hx
 obtain ⟨a,b,rfl,a0,b0⟩:=hx'
 refine wHigh_vc a0.seg b0.seg ⟨fun m k' vs=>∃ j c,j≤23∧m = 23 - j∧vs = [.int .i64 ((hi x j).1 : Int),.int .i64 ((j+1 : Nat) : Int),.agg c]∧SurdV k' c (hi x j).2 (4*K+9),⟨23,fun k' u=>⟨0,a,by omega,rfl,rfl,(a0.up u).mono (by omega)⟩⟩,?_⟩
 rintro m k1 vs u1 ⟨j,c,hj,rfl,rfl,hb⟩
 refine ⟨_,_,c,hb.seg,rfl,fun hlt=>?_,fun hge k9 u9=>?_⟩
 ·have hlt:=of_decide_eq_true hlt
  refine xturn_s fun k2 d2 u2 hT=>?_
  rw [plc_down (j:=j+1) (by omega)] at hT
  have hT':=hT
  obtain ⟨p,q,rfl,p0,q0⟩:=hT'
  refine ⟨p,p0.seg,q,q0.seg,rfl,?_⟩
  refine WMul_s ((hx.up u1).up u2) (hT.mono hK1) hK1 (by omega) fun k4 d4 u4 hM=>?_
  obtain ⟨r,s,rfl,r0,s0⟩:=hM
  refine ⟨r,r0.seg,s,s0.seg,rfl,?_⟩
  refine SCmp_s r0 ((hb.up u2).up u4) (by omega) (by omega) fun k6 u6=>⟨_,rfl,fun hc=>?_,fun hc=>?_⟩
  ·have hc : 0 < sgd (fAt x (j+1)) (hi x j).2:=of_decide_eq_true hc
   have e : hi x (j+1) = (j+1,fAt x (j+1)):=by show (if _ then _ else _) = _; rw [if_pos hc]
   intro k7 u7
   refine ⟨23 - (j+1),by omega,j+1,r,by omega,rfl,?_,?_⟩
   ·rw [e,wrap_up (by omega)]
   ·rw [e]; exact (r0.up u6).up u7
  ·have hc : ¬ 0 < sgd (fAt x (j+1)) (hi x j).2:=of_decide_eq_false hc
   have e : hi x (j+1) = hi x j:=by show (if _ then _ else _) = _; rw [if_neg hc]
   intro k7 u7
   refine ⟨23 - (j+1),by omega,j+1,c,by omega,rfl,?_,?_⟩
   ·rw [e,wrap_up (by omega)]
   ·rw [e]; exact (((hb.up u2).up u4).up u6).up u7
 ·have hge:=of_decide_eq_false hge
  have e : j = 23:=by omega
  subst e
  exact C k9 c (u1.trans u9) (hb.up u9)
end
end Go.Proofs.YtlginncipdaifaaGreat

namespace Go.Proofs.YtlginncipdaifaaGreat
open Num Plain Q23L
def gAt (p : W4) (k : Nat) : Q4:=(p.mul (turnW k)).re
noncomputable def lo (p : W4) : Nat→Nat × Q4
 | 0=>(0,p.re)
 | j+1=>if sgd (gAt p (j+1)) (lo p j).2 < 0 then (j+1,gAt p (j+1)) else lo p j
theorem gAt_zero (p : W4) : gAt p 0 = p.re:=by
 unfold gAt
 rw [turn_zero,W4.mul_one]
theorem lo_spec (p : W4) (j : Nat) : (lo p j).1≤j∧(lo p j).2 = gAt p (lo p j).1∧∀ i,i≤j→sgd (lo p j).2 (gAt p i)≤0:=by
 induction j with
 | zero =>
  refine ⟨Nat.le_refl _,(gAt_zero p).symm,fun i hi=>?_⟩
  have : i = 0:=by omega
  subst this
  rw [gAt_zero]
  show sgd p.re p.re≤0
  rw [sgd_self]
  decide
 | succ j ih =>
  obtain ⟨h1,h2,h3⟩:=ih
  by_cases hc : sgd (gAt p (j+1)) (lo p j).2 < 0
  ·have e : lo p (j+1) = (j+1,gAt p (j+1)):=by show (if _ then _ else _) = _; rw [if_pos hc]
   rw [e]
   refine ⟨Nat.le_refl _,rfl,fun i hi=>?_⟩
   by_cases e2 : i = j+1
   ·subst e2
    show sgd (gAt p (j+1)) (gAt p (j+1))≤0
    rw [sgd_self]
    decide
   ·exact sgd_trans (Int.le_of_lt hc) (h3 i (by omega))
  ·have e : lo p (j+1) = lo p j:=by show (if _ then _ else _) = _; rw [if_neg hc]
   rw [e]
   refine ⟨by omega,h2,fun i hi=>?_⟩
   by_cases e2 : i = j+1
   ·subst e2
    rw [sgd_neg]
    omega
   ·exact h3 i (by omega)
def resW (a b : W4) (k : Nat) : W4:=a.add (b.mul (turnW k))
noncomputable def bestK (a b : W4) : Nat:=(lo (a.conj.mul b) 23).1
noncomputable def bestN (a b : W4) : Q4:=(resW a b (bestK a b)).norm
def sgdF (a b : Q4) : Int:=sgF (a.sub b)
theorem sgdF_eq (a b : Q4) : sgd a b = sgdF a b:=sgF_eq _
def loF (p : W4) : Nat→Nat × Q4
 | 0=>(0,p.re)
 | j+1=>if sgdF (gAt p (j+1)) (loF p j).2 < 0 then (j+1,gAt p (j+1)) else loF p j
theorem loF_eq (p : W4) (j : Nat) : lo p j = loF p j:=by
 induction j with
 | zero=>rfl
 | succ j ih =>
  show (if _ then _ else _) = (if _ then _ else _)
  rw [ih,sgdF_eq]
def hiF (x : W4) : Nat→Nat × Q4
 | 0=>(0,x.re)
 | j+1=>if 0 < sgdF (fAt x (j+1)) (hiF x j).2 then (j+1,fAt x (j+1)) else hiF x j
theorem hiF_eq (x : W4) (j : Nat) : hi x j = hiF x j:=by
 induction j with
 | zero=>rfl
 | succ j ih =>
  show (if _ then _ else _) = (if _ then _ else _)
  rw [ih,sgdF_eq]
theorem best_example : bestK ⟨⟨3,0,0,0⟩,Q4.zero⟩ ⟨Q4.zero,⟨2,0,0,0⟩⟩ = 6:=by
 unfold bestK
 rw [loF_eq]
 decide +kernel
theorem high_example1 : (hi ⟨⟨3,0,0,0⟩,Q4.zero⟩ 23).1 = 0:=by rw [hiF_eq]; decide +kernel
theorem high_example2 : (hi ⟨Q4.zero,⟨2,0,0,0⟩⟩ 23).1 = 6:=by rw [hiF_eq]; decide +kernel
theorem norm_example : (resW ⟨⟨3,0,0,0⟩,Q4.zero⟩ ⟨Q4.zero,⟨2,0,0,0⟩⟩ 6).norm = ⟨1,0,0,0⟩:=by decide +kernel
end Go.Proofs.YtlginncipdaifaaGreat

namespace Go.Proofs.YtlginncipdaifaaGreat
open Go.RowKit
open Sy (Seg)
def zS : List Value:=[.bool false,.slice none 0 0,.bool false,.slice none 0 0,.bool false,.slice none 0 0,.bool false,.slice none 0 0,.slice none 0 0]
def zT : List Value:=[.bool false,.slice none 0 0,.slice none 0 0,.bool false,.slice none 0 0,.slice none 0 0,.bool false,.slice none 0 0,.slice none 0 0,.bool false,.slice none 0 0,.slice none 0 0]
def zArr (n : Nat) (z : List Value) : Array Value:=(List.replicate n z).flatten.toArray
def elt (cs : Array Value) (s i : Nat) : Array Value:=(Sy.pickL cs (i*s+0) s).toArray
structure Arr (n s : Nat) (E : Nat→Array Value→Prop) (cs : Array Value) : Prop where
 size : cs.size = n*s
 el : ∀ i,i < n→E i (elt cs s i)
section
variable {n s i : Nat} {E E' : Nat→Array Value→Prop} {cs ys : Array Value}
end
def ArrV {α : Type} (n s : Nat) (P : Array Value→α→Prop) (cs : Array Value) (f : Nat→α) : Prop:=Arr n s (fun i a=>P a (f i)) cs
def cut {α : Type} (j : Nat) (F G : Nat→α) (i : Nat) : α:=if i < j then F i else G i
section
variable {α : Type} {n s i j : Nat} {P Q : Array Value→α→Prop} {cs ys : Array Value} {f g F G : Nat→α}
def optP (s : Nat) (P : Array Value→α→Prop) (a : Array Value) : Option α→Prop
 | none=>Seg s a
 | some v=>P a v
end
end Go.Proofs.YtlginncipdaifaaGreat

namespace Go.Proofs.YtlginncipdaifaaGreat
open Go.RowKit
open Value (agg slice int bool tuple)
open Sy (Up Sees CallsG Seg execFn_use)
set_option maxRecDepth 100000
variable {k : World} {R : World→Value→Prop}
theorem mRes_vc {cs0 cs1 : Array Value} {n2 : Int} (hcs0 : Seg 18 cs0) (hcs1 : Seg 18 cs1)
 (h : Cl k 62 #[int .i64 n2] fun k1 r0=>Gt 18 r0 fun cs3 =>
 Cl k1 61 #[agg cs1,agg cs3] fun k3 r2=>Gt 18 r2 fun cs4 =>
 Cl k3 63 #[agg cs0,agg cs4] fun k5 r4=>Gt 18 r4 fun cs5 =>
 ∀ k6,Up k5 k6→R k6 (agg cs5)) :
  CallsG Tryz.prog 15 #[agg cs0,agg cs1,int .i64 n2] k R :=
  execFn_use (cfg:={ opq:=[34] }) (args:=[.agg [.seg 0 18],.agg [.seg 1 18],.one (.var 2)]) (vals:=[agg cs0,agg cs1,int .i64 n2]) (kinds:=[.seg 18,.seg 18,.int .i64]) (by kernel_rfl) ⟨⟨cs0,rfl,hcs0⟩,⟨⟨cs1,rfl,hcs1⟩,⟨⟨_,rfl⟩,trivial⟩⟩⟩ (by kernel_rfl) (by kernel_rfl) h
theorem mBest_vc {cs0 cs1 : Array Value} (hcs0 : Seg 18 cs0) (hcs1 : Seg 18 cs1)
 (h : Cl k 44 #[agg cs0] fun k1 r0=>Gt 18 r0 fun cs2 =>
 Cl k1 61 #[agg cs2,agg cs1] fun k3 r2=>Gt 18 r2 fun cs3 =>
 Cl k3 28 #[agg cs3] fun k5 r4=>Gt 9 r4 fun cs4 =>
 Cl k5 67 #[agg cs3] fun k7 r6=>Gt 9 r6 fun cs5 =>
 ∃ I8 : Nat→World→List Value→Prop,(∃ m8,∀ k8,Up k7 k8→I8 m8 k8 [int .i64 0,int .i64 1,agg cs4]) ∧
 ∀ m8 k8 vs8,Up k7 k8→I8 m8 k8 vs8→∃ n6,∃ n7,∃ cs8,Seg 9 cs8∧some [int .i64 n6,int .i64 n7,agg cs8] = some vs8 ∧
 ((decide ((n7 : Int) < 24)) = true →
 (Cl k8 62 #[int .i64 n7] fun k10 r9=>Gt 18 r9 fun cs9 =>
 Cl k10 28 #[agg cs9] fun k12 r11=>Gt 9 r11 fun cs10 =>
 Cl k12 68 #[agg cs4,agg cs10] fun k14 r13=>Gt 9 r13 fun cs11 =>
 Cl k14 67 #[agg cs9] fun k16 r15=>Gt 9 r15 fun cs12 =>
 Cl k16 68 #[agg cs5,agg cs12] fun k18 r17=>Gt 9 r17 fun cs13 =>
 Cl k18 69 #[agg cs11,agg cs13] fun k20 r19=>Gt 9 r19 fun cs14 =>
 Cl k20 70 #[agg cs14,agg cs8] fun k22 r21=>∃ n15,some (int .i64 n15) = some r21 ∧
 ((decide ((n15 : Int) < 0)) = true →
 (∀ k23,Up k22 k23→∃ m,m < m8∧I8 m k23 [int .i64 n7,int .i64 (IntKind.wrap .i64 (n7+1)),agg cs14])) ∧
 ((decide ((n15 : Int) < 0)) = false →
 (∀ k24,Up k22 k24→∃ m,m < m8∧I8 m k24 [int .i64 n6,int .i64 (IntKind.wrap .i64 (n7+1)),agg cs8])))) ∧
 ((decide ((n7 : Int) < 24)) = false →
 (Cl k8 15 #[agg cs0,agg cs1,int .i64 n6] fun k26 r25=>Gt 18 r25 fun cs9 =>
 Cl k26 71 #[agg cs9] fun k28 r27=>Gt 9 r27 fun cs10 =>
 ∀ k29,Up k28 k29→R k29 (agg ((int .i64 n6) :: (cs10.toList ++ ([]))).toArray)))) :
  CallsG Tryz.prog 12 #[agg cs0,agg cs1] k R :=
  execFn_use (cfg:={ opq:=[34,32],loops:=[(0,[.tmp 8 false [.int .i64],.tmp 10 false [.int .i64],.blk 6 [.seg 9]])] }) (args:=[.agg [.seg 0 18],.agg [.seg 1 18]]) (vals:=[agg cs0,agg cs1]) (kinds:=[.seg 18,.seg 18]) (by kernel_rfl) ⟨⟨cs0,rfl,hcs0⟩,⟨⟨cs1,rfl,hcs1⟩,trivial⟩⟩ (by kernel_rfl) (by kernel_rfl) h
theorem mDot_vc {cs0 cs1 : Array Value} (hcs0 : Seg 18 cs0) (hcs1 : Seg 18 cs1)
 (h : Cl k 80 #[agg cs0] fun k1 r0=>∃ n2,∃ cs3,Seg 9 cs3∧some (tuple #[int .i64 n2,agg cs3]) = some r0 ∧
 Cl k1 80 #[agg cs1] fun k3 r2=>∃ n4,∃ cs5,Seg 9 cs5∧some (tuple #[int .i64 n4,agg cs5]) = some r2 ∧
 ∀ k4,Up k3 k4→R k4 (int .i64 (Int.tmod (IntKind.wrap .i64 ((IntKind.wrap .i64 ((IntKind.wrap .i64 (n2+12)) - n4))+24)) 24))) :
  CallsG Tryz.prog 18 #[agg cs0,agg cs1] k R :=
  execFn_use (cfg:={ opq:=[34,32] }) (args:=[.agg [.seg 0 18],.agg [.seg 1 18]]) (vals:=[agg cs0,agg cs1]) (kinds:=[.seg 18,.seg 18]) (by kernel_rfl) ⟨⟨cs0,rfl,hcs0⟩,⟨⟨cs1,rfl,hcs1⟩,trivial⟩⟩ (by kernel_rfl) (by kernel_rfl) h
theorem quad_vc {n0 n1 n2 : Int}
 (h : ∀ k0,Up k k0→R k0 (agg #[int .i64 (IntKind.wrap .i64 n0),int .i64 4,int .i64 (IntKind.wrap .i64 n1),int .i64 4,int .i64 (IntKind.wrap .i64 n2),int .i64 4,int .i64 0,int .i64 0])) :
 CallsG Tryz.prog 64 #[agg #[int .i8 n0,int .i8 n1,int .i8 n2]] k R :=
 execFn_use (cfg:={ opq:=[] }) (args:=[.agg [.var 0,.var 1,.var 2]]) (vals:=[int .i8 n0,int .i8 n1,int .i8 n2]) (kinds:=[.int .i8,.int .i8,.int .i8]) (by kernel_rfl) ⟨⟨_,rfl⟩,⟨⟨_,rfl⟩,⟨⟨_,rfl⟩,trivial⟩⟩⟩ (by kernel_rfl) (by kernel_rfl) h
theorem mOf_vc {n0 n1 n2 n3 n4 n5 : Int}
 (h : Cl k 64 #[agg #[int .i8 n0,int .i8 n1,int .i8 n2]] fun k1 r0=>∃ n6,∃ n7,∃ n8,∃ n9,∃ n10,∃ n11,∃ n12,∃ n13,some (agg #[int .i64 n6,int .i64 n7,int .i64 n8,int .i64 n9,int .i64 n10,int .i64 n11,int .i64 n12,int .i64 n13]) = some r0 ∧
 Cl k1 64 #[agg #[int .i8 n3,int .i8 n4,int .i8 n5]] fun k3 r2=>∃ n14,∃ n15,∃ n16,∃ n17,∃ n18,∃ n19,∃ n20,∃ n21,some (agg #[int .i64 n14,int .i64 n15,int .i64 n16,int .i64 n17,int .i64 n18,int .i64 n19,int .i64 n20,int .i64 n21]) = some r2 ∧
 Cl k3 65 #[agg #[int .i64 n6,int .i64 n7,int .i64 n8,int .i64 n9,int .i64 n10,int .i64 n11,int .i64 n12,int .i64 n13,int .i64 n14,int .i64 n15,int .i64 n16,int .i64 n17,int .i64 n18,int .i64 n19,int .i64 n20,int .i64 n21]] fun k5 r4=>Gt 18 r4 fun cs22 =>
 Cl k5 66 #[agg #[int .i64 n6,int .i64 n7,int .i64 n8,int .i64 n9,int .i64 n10,int .i64 n11,int .i64 n12,int .i64 n13,int .i64 n14,int .i64 n15,int .i64 n16,int .i64 n17,int .i64 n18,int .i64 n19,int .i64 n20,int .i64 n21]] fun k7 r6=>Gt 24 r6 fun cs23 =>
 ∀ k8,Up k7 k8→R k8 (tuple #[agg cs22,agg cs23])) :
  CallsG Tryz.prog 11 #[agg #[int .i8 n0,int .i8 n1,int .i8 n2,int .i8 n3,int .i8 n4,int .i8 n5]] k R :=
  execFn_use (cfg:={ opq:=[34,41] }) (args:=[.agg [.var 0,.var 1,.var 2,.var 3,.var 4,.var 5]]) (vals:=[int .i8 n0,int .i8 n1,int .i8 n2,int .i8 n3,int .i8 n4,int .i8 n5]) (kinds:=[.int .i8,.int .i8,.int .i8,.int .i8,.int .i8,.int .i8]) (by kernel_rfl) ⟨⟨_,rfl⟩,⟨⟨_,rfl⟩,⟨⟨_,rfl⟩,⟨⟨_,rfl⟩,⟨⟨_,rfl⟩,⟨⟨_,rfl⟩,trivial⟩⟩⟩⟩⟩⟩ (by kernel_rfl) (by kernel_rfl) h
theorem mawake_vc
 (h : Cl k 11 #[agg #[int .i8 12,int .i8 0,int .i8 0,int .i8 0,int .i8 0,int .i8 0]] fun k1 r0=>∃ cs0,Seg 18 cs0∧∃ cs1,Seg 24 cs1∧some (tuple #[agg cs0,agg cs1]) = some r0 ∧
 Cl k1 11 #[agg #[int .i8 0,int .i8 0,int .i8 0,int .i8 8,int .i8 0,int .i8 0]] fun k3 r2=>∃ cs2,Seg 18 cs2∧∃ cs3,Seg 24 cs3∧some (tuple #[agg cs2,agg cs3]) = some r2 ∧
 Cl k3 12 #[agg cs0,agg cs2] fun k5 r4=>∃ n4,∃ cs5,Seg 9 cs5∧some (agg ((int .i64 n4) :: (cs5.toList ++ ([]))).toArray) = some r4 ∧
 Cl k5 18 #[agg cs0,agg cs2] fun k7 r6=>∃ n6,some (int .i64 n6) = some r6 ∧
 (((n6 : Int) == 6) = true →
 ((((n4 : Int) == 6) = true →
 (Cl k7 78 #[agg cs5] fun k9 r8=>∃ s7,some (Value.string s7) = some r8 ∧
 ∀ k10,Up k9 k10→R k10 (bool (ByteArray.toList s7 == ByteArray.toList ⟨#[49]⟩)))) ∧
 (((n4 : Int) == 6) = false →
 (∀ k11,Up k7 k11→R k11 (bool false))))) ∧
 (((n6 : Int) == 6) = false →
 (∀ k12,Up k7 k12→R k12 (bool false)))) :
   CallsG Tryz.prog 20 #[] k R :=
  execFn_use (cfg:={ opq:=[34,32,41] }) (args:=[]) (vals:=[]) (kinds:=[]) (by kernel_rfl) trivial (by kernel_rfl) (by kernel_rfl) h
theorem rRes_vc {cs0 cs1 : Array Value} {n2 : Int} (hcs0 : Seg 24 cs0) (hcs1 : Seg 24 cs1)
 (h : Cl k 74 #[int .i64 n2] fun k1 r0=>Gt 24 r0 fun cs3 =>
 Cl k1 72 #[agg cs1,agg cs3] fun k3 r2=>Gt 24 r2 fun cs4 =>
 Cl k3 77 #[agg cs0,agg cs4] fun k5 r4=>Gt 24 r4 fun cs5 =>
 ∀ k6,Up k5 k6→R k6 (agg cs5)) :
  CallsG Tryz.prog 16 #[agg cs0,agg cs1,int .i64 n2] k R :=
  execFn_use (cfg:={ opq:=[41] }) (args:=[.agg [.seg 0 24],.agg [.seg 1 24],.one (.var 2)]) (vals:=[agg cs0,agg cs1,int .i64 n2]) (kinds:=[.seg 24,.seg 24,.int .i64]) (by kernel_rfl) ⟨⟨cs0,rfl,hcs0⟩,⟨⟨cs1,rfl,hcs1⟩,⟨⟨_,rfl⟩,trivial⟩⟩⟩ (by kernel_rfl) (by kernel_rfl) h
theorem rHigh_vc {cs0 cs1 : Array Value} (hcs0 : Seg 12 cs0) (hcs1 : Seg 12 cs1)
 (h : ∃ I0 : Nat→World→List Value→Prop,(∃ m0,∀ k0,Up k k0→I0 m0 k0 [int .i64 0,int .i64 1,agg cs0]) ∧
 ∀ m0 k0 vs0,Up k k0→I0 m0 k0 vs0→∃ n2,∃ n3,∃ cs4,Seg 12 cs4∧some [int .i64 n2,int .i64 n3,agg cs4] = some vs0 ∧
 ((decide ((n3 : Int) < 24)) = true →
 (Cl k0 74 #[int .i64 (IntKind.wrap .i64 (0 - n3))] fun k2 r1=>∃ cs5,Seg 12 cs5∧∃ cs6,Seg 12 cs6∧some (agg (cs5.toList ++ (cs6.toList ++ ([]))).toArray) = some r1 ∧
 Cl k2 72 #[agg (cs0.toList ++ (cs1.toList ++ ([]))).toArray,agg (cs5.toList ++ (cs6.toList ++ ([]))).toArray] fun k4 r3=>∃ cs7,Seg 12 cs7∧∃ cs8,Seg 12 cs8∧some (agg (cs7.toList ++ (cs8.toList ++ ([]))).toArray) = some r3 ∧
 Cl k4 75 #[agg cs7,agg cs4] fun k6 r5=>∃ n9,some (int .i64 n9) = some r5 ∧
 ((decide ((n9 : Int) > 0)) = true →
 (∀ k7,Up k6 k7→∃ m,m < m0∧I0 m k7 [int .i64 n3,int .i64 (IntKind.wrap .i64 (n3+1)),agg cs7])) ∧
 ((decide ((n9 : Int) > 0)) = false →
 (∀ k8,Up k6 k8→∃ m,m < m0∧I0 m k8 [int .i64 n2,int .i64 (IntKind.wrap .i64 (n3+1)),agg cs4])))) ∧
 ((decide ((n3 : Int) < 24)) = false →
 (∀ k9,Up k0 k9→R k9 (tuple #[int .i64 n2,agg cs4])))) :
   CallsG Tryz.prog 81 #[agg (cs0.toList ++ (cs1.toList ++ ([]))).toArray] k R :=
  execFn_use (cfg:={ opq:=[39],loops:=[(0,[.tmp 4 false [.int .i64],.tmp 6 false [.int .i64],.blk 2 [.seg 12]])] }) (args:=[.agg [.seg 0 12,.seg 1 12]]) (vals:=[agg cs0,agg cs1]) (kinds:=[.seg 12,.seg 12]) (by kernel_rfl) ⟨⟨cs0,rfl,hcs0⟩,⟨⟨cs1,rfl,hcs1⟩,trivial⟩⟩ (by kernel_rfl) (by kernel_rfl) h
theorem rBest_vc {cs0 cs1 cs2 cs3 : Array Value} (hcs0 : Seg 12 cs0) (hcs1 : Seg 12 cs1) (hcs2 : Seg 12 cs2) (hcs3 : Seg 12 cs3)
 (h : ∃ I0 : Nat→World→List Value→Prop,(∃ m0,∀ k0,Up k k0→I0 m0 k0 [int .i64 0,int .i64 0,agg #[bool false,slice none 0 0,slice none 0 0,bool false,slice none 0 0,slice none 0 0,bool false,slice none 0 0,slice none 0 0,bool false,slice none 0 0,slice none 0 0]]) ∧
 ∀ m0 k0 vs0,Up k k0→I0 m0 k0 vs0→∃ n4,∃ n5,∃ cs6,Seg 12 cs6∧some [int .i64 n4,int .i64 n5,agg cs6] = some vs0 ∧
 ((decide ((n5 : Int) < 24)) = true →
 (Cl k0 73 #[agg (cs0.toList ++ (cs1.toList ++ ([]))).toArray] fun k2 r1=>∃ cs7,Seg 12 cs7∧∃ cs8,Seg 12 cs8∧some (agg (cs7.toList ++ (cs8.toList ++ ([]))).toArray) = some r1 ∧
 Cl k2 74 #[int .i64 n5] fun k4 r3=>∃ cs9,Seg 12 cs9∧∃ cs10,Seg 12 cs10∧some (agg (cs9.toList ++ (cs10.toList ++ ([]))).toArray) = some r3 ∧
 Cl k4 72 #[agg (cs2.toList ++ (cs3.toList ++ ([]))).toArray,agg (cs9.toList ++ (cs10.toList ++ ([]))).toArray] fun k6 r5=>∃ cs11,Seg 12 cs11∧∃ cs12,Seg 12 cs12∧some (agg (cs11.toList ++ (cs12.toList ++ ([]))).toArray) = some r5 ∧
 Cl k6 72 #[agg (cs7.toList ++ (cs8.toList ++ ([]))).toArray,agg (cs11.toList ++ (cs12.toList ++ ([]))).toArray] fun k8 r7=>∃ cs13,Seg 12 cs13∧∃ cs14,Seg 12 cs14∧some (agg (cs13.toList ++ (cs14.toList ++ ([]))).toArray) = some r7 ∧
 (((n5 : Int) == 0) = true →
 (∀ k9,Up k8 k9→∃ m,m < m0∧I0 m k9 [int .i64 n5,int .i64 (IntKind.wrap .i64 (n5+1)),agg cs13])) ∧
 (((n5 : Int) == 0) = false →
 (Cl k8 75 #[agg cs13,agg cs6] fun k11 r10=>∃ n15,some (int .i64 n15) = some r10 ∧
 ((decide ((n15 : Int) < 0)) = true →
 (∀ k12,Up k11 k12→∃ m,m < m0∧I0 m k12 [int .i64 n5,int .i64 (IntKind.wrap .i64 (n5+1)),agg cs13])) ∧
 ((decide ((n15 : Int) < 0)) = false →
 (∀ k13,Up k11 k13→∃ m,m < m0∧I0 m k13 [int .i64 n4,int .i64 (IntKind.wrap .i64 (n5+1)),agg cs6])))))) ∧
 ((decide ((n5 : Int) < 24)) = false →
 (Cl k0 16 #[agg (cs0.toList ++ (cs1.toList ++ ([]))).toArray,agg (cs2.toList ++ (cs3.toList ++ ([]))).toArray,int .i64 n4] fun k15 r14=>∃ cs7,Seg 12 cs7∧∃ cs8,Seg 12 cs8∧some (agg (cs7.toList ++ (cs8.toList ++ ([]))).toArray) = some r14 ∧
 Cl k15 76 #[agg (cs7.toList ++ (cs8.toList ++ ([]))).toArray] fun k17 r16=>Gt 12 r16 fun cs9 =>
 ∀ k18,Up k17 k18→R k18 (agg ((int .i64 n4) :: (cs9.toList ++ ([]))).toArray)))) :
  CallsG Tryz.prog 13 #[agg (cs0.toList ++ (cs1.toList ++ ([]))).toArray,agg (cs2.toList ++ (cs3.toList ++ ([]))).toArray] k R :=
  execFn_use (cfg:={ opq:=[39],loops:=[(0,[.tmp 5 false [.int .i64],.tmp 7 false [.int .i64],.blk 3 [.seg 12]])] }) (args:=[.agg [.seg 0 12,.seg 1 12],.agg [.seg 2 12,.seg 3 12]]) (vals:=[agg cs0,agg cs1,agg cs2,agg cs3]) (kinds:=[.seg 12,.seg 12,.seg 12,.seg 12]) (by kernel_rfl) ⟨⟨cs0,rfl,hcs0⟩,⟨⟨cs1,rfl,hcs1⟩,⟨⟨cs2,rfl,hcs2⟩,⟨⟨cs3,rfl,hcs3⟩,trivial⟩⟩⟩⟩ (by kernel_rfl) (by kernel_rfl) h
theorem rDot_vc {cs0 cs1 : Array Value} (hcs0 : Seg 24 cs0) (hcs1 : Seg 24 cs1)
 (h : Cl k 81 #[agg cs0] fun k1 r0=>∃ n2,∃ cs3,Seg 12 cs3∧some (tuple #[int .i64 n2,agg cs3]) = some r0 ∧
 Cl k1 81 #[agg cs1] fun k3 r2=>∃ n4,∃ cs5,Seg 12 cs5∧some (tuple #[int .i64 n4,agg cs5]) = some r2 ∧
 ∀ k4,Up k3 k4→R k4 (int .i64 (Int.tmod (IntKind.wrap .i64 ((IntKind.wrap .i64 (n2+36)) - n4)) 24))) :
  CallsG Tryz.prog 19 #[agg cs0,agg cs1] k R :=
  execFn_use (cfg:={ opq:=[41,39] }) (args:=[.agg [.seg 0 24],.agg [.seg 1 24]]) (vals:=[agg cs0,agg cs1]) (kinds:=[.seg 24,.seg 24]) (by kernel_rfl) ⟨⟨cs0,rfl,hcs0⟩,⟨⟨cs1,rfl,hcs1⟩,trivial⟩⟩ (by kernel_rfl) (by kernel_rfl) h
theorem mbest_vc {n0 n1 n2 n3 n4 n5 n6 n7 n8 n9 n10 n11 n12 : Int}
 (h : Cl k 11 #[agg #[int .i8 n0,int .i8 n1,int .i8 n2,int .i8 n3,int .i8 n4,int .i8 n5]] fun k1 r0=>∃ cs13,Seg 18 cs13∧∃ cs14,Seg 24 cs14∧some (tuple #[agg cs13,agg cs14]) = some r0 ∧
 Cl k1 11 #[agg #[int .i8 n6,int .i8 n7,int .i8 n8,int .i8 n9,int .i8 n10,int .i8 n11]] fun k3 r2=>∃ cs15,Seg 18 cs15∧∃ cs16,Seg 24 cs16∧some (tuple #[agg cs15,agg cs16]) = some r2 ∧
 Cl k3 12 #[agg cs13,agg cs15] fun k5 r4=>∃ n17,∃ cs18,Seg 9 cs18∧some (agg ((int .i64 n17) :: (cs18.toList ++ ([]))).toArray) = some r4 ∧
 Cl k5 13 #[agg cs14,agg cs16] fun k7 r6=>∃ n19,∃ cs20,Seg 12 cs20∧some (agg ((int .i64 n19) :: (cs20.toList ++ ([]))).toArray) = some r6 ∧
 Cl k7 15 #[agg cs13,agg cs15,int .i64 n12] fun k9 r8=>Gt 18 r8 fun cs21 =>
 Cl k9 16 #[agg cs14,agg cs16,int .i64 n12] fun k11 r10=>Gt 24 r10 fun cs22 =>
 Cl k11 14 #[agg cs21,agg cs22] fun k13 r12=>∃ b23,some (bool b23) = some r12 ∧
 (b23 = true →
 ((((n17 : Int) == n19) = true →
 (Cl k13 17 #[agg cs18,agg cs20] fun k15 r14=>∃ b24,some (bool b24) = some r14 ∧
 (b24 = true →
 (Cl k15 18 #[agg cs13,agg cs15] fun k17 r16=>∃ n25,some (int .i64 n25) = some r16 ∧
 Cl k17 19 #[agg cs14,agg cs16] fun k19 r18=>∃ n26,some (int .i64 n26) = some r18 ∧
 (((n25 : Int) == n26) = true →
 (Cl k19 20 #[] fun k21 r20=>∃ b27,some (bool b27) = some r20 ∧
 ∀ k22,Up k21 k22→R k22 (bool b27))) ∧
 (((n25 : Int) == n26) = false →
 (∀ k23,Up k19 k23→R k23 (bool false))))) ∧
 (b24 = false →
 (∀ k24,Up k15 k24→R k24 (bool false))))) ∧
 (((n17 : Int) == n19) = false →
 (∀ k25,Up k13 k25→R k25 (bool false))))) ∧
 (b23 = false →
 (∀ k26,Up k13 k26→R k26 (bool false)))) :
   CallsG Tryz.prog 3 #[agg #[int .i8 n0,int .i8 n1,int .i8 n2,int .i8 n3,int .i8 n4,int .i8 n5],agg #[int .i8 n6,int .i8 n7,int .i8 n8,int .i8 n9,int .i8 n10,int .i8 n11],int .i64 n12] k R :=
  execFn_use (cfg:={ opq:=[34,32,41,39] }) (args:=[.agg [.var 0,.var 1,.var 2,.var 3,.var 4,.var 5],.agg [.var 6,.var 7,.var 8,.var 9,.var 10,.var 11],.one (.var 12)]) (vals:=[int .i8 n0,int .i8 n1,int .i8 n2,int .i8 n3,int .i8 n4,int .i8 n5,int .i8 n6,int .i8 n7,int .i8 n8,int .i8 n9,int .i8 n10,int .i8 n11,int .i64 n12]) (kinds:=[.int .i8,.int .i8,.int .i8,.int .i8,.int .i8,.int .i8,.int .i8,.int .i8,.int .i8,.int .i8,.int .i8,.int .i8,.int .i64]) (by kernel_rfl) ⟨⟨_,rfl⟩,⟨⟨_,rfl⟩,⟨⟨_,rfl⟩,⟨⟨_,rfl⟩,⟨⟨_,rfl⟩,⟨⟨_,rfl⟩,⟨⟨_,rfl⟩,⟨⟨_,rfl⟩,⟨⟨_,rfl⟩,⟨⟨_,rfl⟩,⟨⟨_,rfl⟩,⟨⟨_,rfl⟩,⟨⟨_,rfl⟩,trivial⟩⟩⟩⟩⟩⟩⟩⟩⟩⟩⟩⟩⟩ (by kernel_rfl) (by kernel_rfl) h
end Go.Proofs.YtlginncipdaifaaGreat

namespace Go.Proofs.YtlginncipdaifaaGreat
open Num
def flr (q : Rat) : Int:=q.num / (q.den : Int)
def floorK (q : Rat) (k : Nat) : Rat:=mkRat (q.num*((2 ^ k : Nat) : Int) / (q.den : Int)) (2 ^ k)
def clampK (n : Int) : Nat:=(min 1000 (max 0 n)).toNat
def rcmp (y : Rat) : Int:=(y - (flr y : Rat) - mkRat 1 2).num.sign
def rup (y : Rat) : Bool:=decide (0 < rcmp y) || (decide (rcmp y = 0) && decide (flr y % 2 = 1))
def roundQ (x s : Rat) : Rat:=(if rup (x / s) = true then (flr (x / s) : Rat)+1 else (flr (x / s) : Rat))*s
def roundV (x s : Rat) : Rat:=if s.num.sign≤0 then 0 else roundQ x s
theorem num_pos {v : Rat} (h : 0 < v) : 0 < v.num:=by
 have h1:=Rat.num_nonneg.2 (show (0 : Rat)≤v by grind)
 have h2 : v.num ≠ 0:=fun e=>by have:=Rat.num_eq_zero.1 e; grind
 omega
def halved (x : Rat) : Nat→Rat
 | 0=>x
 | j+1=>halved x j / 2
end Go.Proofs.YtlginncipdaifaaGreat

namespace Go.Proofs.YtlginncipdaifaaGreat
open Go.RowKit
open Value (agg slice int bool tuple)
open Sy (Up Sees CallsG Seg execFn_use)
set_option maxRecDepth 100000
variable {k : World} {R : World→Value→Prop}
end Go.Proofs.YtlginncipdaifaaGreat

namespace Go.Proofs.YtlginncipdaifaaGreat.W32
open Go.RowKit Num
open Sy (Up Sees CallsG Seg)
section
variable {k k' : World} {cs cs' : Array Value} {R : World→Value→Prop} {x y q q' : Rat} {K L : Nat} {b : Bool} {A A' : Option Addr} {l c l' c' : Nat}
theorem QV.mk1 (h : QN k b A l c A' l' c' q) (h1 : l≤K) (h2 : l'≤K) : QV k #[.bool b,.slice A l c,.slice A' l' c'] q K:=⟨b,A,l,c,A',l',c',rfl,h,h1,h2⟩
end
end Go.Proofs.YtlginncipdaifaaGreat.W32

namespace Go.Proofs.YtlginncipdaifaaGreat
open Go.RowKit
open Value (agg slice int bool tuple)
open Sy (Up Sees CallsG Seg execFn_use)
set_option maxRecDepth 100000
variable {k : World} {R : World→Value→Prop}
theorem nroot_vc {A0 : Option Addr} {l0 c0 : Nat}
 (h : true = true∧(((((l0 : Nat) : Int) == 0) = true →
 (∀ k0,Up k k0→R k0 (slice none 0 0))) ∧
 ((((l0 : Nat) : Int) == 0) = false →
 (Cl k 202 #[slice A0 l0 c0] fun k2 r1=>∃ n1,some (int .i64 n1) = some r1 ∧
 ∀ p2 k3,Up k2 k3→Sy.Blk k3 p2 224 #[int .u32 1] →
 Cl k3 194 #[slice (some ⟨p2,0,none⟩) 1 1,int .i64 (IntKind.wrap .i64 (Int.tdiv (IntKind.wrap .i64 (n1+1)) 2))] fun k5 r4=>∃ A3 l3 c3,some (slice A3 l3 c3) = some r4 ∧
 ∃ I6 : Nat→World→List Value→Prop,(∃ m6,∀ k6,Up k5 k6→I6 m6 k6 [slice A3 l3 c3]) ∧
 ∀ m6 k6 vs6,Up k5 k6→I6 m6 k6 vs6→∃ A4 l4 c4,some [slice A4 l4 c4] = some vs6 ∧
 Cl k6 189 #[slice A0 l0 c0,slice A4 l4 c4] fun k8 r7=>∃ A5 l5 c5,∃ A6 l6 c6,some (tuple #[slice A5 l5 c5,slice A6 l6 c6]) = some r7 ∧
 Cl k8 170 #[slice A4 l4 c4,slice A5 l5 c5] fun k10 r9=>∃ A7 l7 c7,some (slice A7 l7 c7) = some r9 ∧
 Cl k10 203 #[slice A7 l7 c7,int .i64 1] fun k12 r11=>∃ A8 l8 c8,some (slice A8 l8 c8) = some r11 ∧
 Cl k12 162 #[slice A8 l8 c8,slice A4 l4 c4] fun k14 r13=>∃ n9,some (int .i64 n9) = some r13 ∧
 ((decide ((n9 : Int) ≥ 0)) = true →
 (∀ k15,Up k14 k15→R k15 (slice A4 l4 c4))) ∧
 ((decide ((n9 : Int) ≥ 0)) = false →
 (∀ k16,Up k14 k16→∃ m,m < m6∧I6 m k16 [slice A8 l8 c8])))))) :
   CallsG Tryz.prog 196 #[slice A0 l0 c0] k R :=
  execFn_use (cfg:={ opq:=[],loops:=[(0,[.tmp 3 false [.slice]])] }) (args:=[.one (.var 0)]) (vals:=[slice A0 l0 c0]) (kinds:=[.slice]) (by kernel_rfl) ⟨⟨_,_,_,rfl⟩,trivial⟩ (by kernel_rfl) (by kernel_rfl) h
theorem rroot_vc {n0 n1 : Int}
 (h : Cl k 168 #[int .u64 n0] fun k1 r0=>∃ A2 l2 c2,some (slice A2 l2 c2) = some r0 ∧
 Cl k1 194 #[slice A2 l2 c2,int .i64 (IntKind.wrap .i64 (2*n1))] fun k3 r2=>∃ A3 l3 c3,some (slice A3 l3 c3) = some r2 ∧
 Cl k3 196 #[slice A3 l3 c3] fun k5 r4=>∃ A4 l4 c4,some (slice A4 l4 c4) = some r4 ∧
 ∀ p5 k6,Up k5 k6→Sy.Blk k6 p5 224 #[int .u32 1] →
 Cl k6 194 #[slice (some ⟨p5,0,none⟩) 1 1,int .i64 n1] fun k8 r7=>∃ A6 l6 c6,some (slice A6 l6 c6) = some r7 ∧
 Cl k8 167 #[bool false,slice A4 l4 c4,slice A6 l6 c6] fun k10 r9=>Gt 3 r9 fun cs7 =>
 ∀ k11,Up k10 k11→R k11 (agg cs7)) :
  CallsG Tryz.prog 181 #[int .u64 n0,int .i64 n1] k R :=
  execFn_use (cfg:={ opq:=[37] }) (args:=[.one (.var 0),.one (.var 1)]) (vals:=[int .u64 n0,int .i64 n1]) (kinds:=[.int .u64,.int .i64]) (by kernel_rfl) ⟨⟨_,rfl⟩,⟨⟨_,rfl⟩,trivial⟩⟩ (by kernel_rfl) (by kernel_rfl) h
theorem rpower_vc {n0 : Int}
 (h : ((decide ((n0 : Int) < 0)) = true →
 (∀ p1 k0,Up k k0→Sy.Blk k0 p1 224 #[int .u32 1] →
 Cl k0 194 #[slice (some ⟨p1,0,none⟩) 1 1,int .i64 (IntKind.wrap .i64 (0 - n0))] fun k2 r1=>∃ A2 l2 c2,some (slice A2 l2 c2) = some r1 ∧
 ∀ p3 k3,Up k2 k3→Sy.Blk k3 p3 224 #[int .u32 1] →
 Cl k3 167 #[bool false,slice (some ⟨p3,0,none⟩) 1 1,slice A2 l2 c2] fun k5 r4=>Gt 3 r4 fun cs4 =>
 ∀ k6,Up k5 k6→R k6 (agg cs4))) ∧
 ((decide ((n0 : Int) < 0)) = false →
 (Cl k 195 #[int .i64 n0] fun k8 r7=>Gt 3 r7 fun cs1 =>
 ∀ k9,Up k8 k9→R k9 (agg cs1)))) :
  CallsG Tryz.prog 180 #[int .i64 n0] k R :=
  execFn_use (cfg:={ opq:=[37] }) (args:=[.one (.var 0)]) (vals:=[int .i64 n0]) (kinds:=[.int .i64]) (by kernel_rfl) ⟨⟨_,rfl⟩,trivial⟩ (by kernel_rfl) (by kernel_rfl) h
theorem rBounds_vc {cs0 cs1 cs2 cs3 : Array Value} {n4 : Int} (hcs0 : Seg 3 cs0) (hcs1 : Seg 3 cs1) (hcs2 : Seg 3 cs2) (hcs3 : Seg 3 cs3)
 (h : ∀ p5 k0,Up k k0→Sy.Blk k0 p5 203 #[int .u64 1,int .u64 2,int .u64 3,int .u64 6] →
 ∃ A6 l6 c6,some (slice (some ⟨p5,0,none⟩) 4 4) = some (slice A6 l6 c6) ∧
 Cl k0 180 #[int .i64 (IntKind.wrap .i64 (0 - n4))] fun k2 r1=>Gt 3 r1 fun cs7 =>
 (∃ b o,A6 = some ⟨b,o,none⟩)∧((0 : Int)≤1∧(1 : Int) < (l6 : Nat)) ∧
 ∃ n8,Sy.ReadAt k2.cell? A6 (Int.toNat 1*1+0) 1 (int .u64 n8) ∧
 Cl k2 181 #[int .u64 n8,int .i64 n4] fun k4 r3=>Gt 3 r3 fun cs9 =>
 Cl k4 134 #[agg cs1,agg cs9] fun k6 r5=>Gt 3 r5 fun cs10 =>
 Cl k6 133 #[agg cs9,agg cs7] fun k8 r7=>Gt 3 r7 fun cs11 =>
 Cl k8 134 #[agg cs1,agg cs11] fun k10 r9=>Gt 3 r9 fun cs12 =>
 Cl k10 127 #[agg cs1] fun k12 r11=>∃ n13,some (int .i64 n13) = some r11 ∧
 ((decide ((n13 : Int) < 0)) = true →
 (Cl k12 133 #[agg cs0,agg cs12] fun k14 r13=>Gt 3 r13 fun cs14 =>
 Cl k14 133 #[agg cs0,agg cs10] fun k16 r15=>Gt 3 r15 fun cs15 =>
 (∃ b o,A6 = some ⟨b,o,none⟩)∧((0 : Int)≤2∧(2 : Int) < (l6 : Nat)) ∧
 ∃ n16,Sy.ReadAt k16.cell? A6 (Int.toNat 2*1+0) 1 (int .u64 n16) ∧
 Cl k16 181 #[int .u64 n16,int .i64 n4] fun k18 r17=>Gt 3 r17 fun cs17 =>
 Cl k18 134 #[agg cs2,agg cs17] fun k20 r19=>Gt 3 r19 fun cs18 =>
 Cl k20 133 #[agg cs17,agg cs7] fun k22 r21=>Gt 3 r21 fun cs19 =>
 Cl k22 134 #[agg cs2,agg cs19] fun k24 r23=>Gt 3 r23 fun cs20 =>
 Cl k24 127 #[agg cs2] fun k26 r25=>∃ n21,some (int .i64 n21) = some r25 ∧
 ((decide ((n21 : Int) < 0)) = true →
 (Cl k26 133 #[agg cs14,agg cs20] fun k28 r27=>Gt 3 r27 fun cs22 =>
 Cl k28 133 #[agg cs15,agg cs18] fun k30 r29=>Gt 3 r29 fun cs23 =>
 (∃ b o,A6 = some ⟨b,o,none⟩)∧((0 : Int)≤3∧(3 : Int) < (l6 : Nat)) ∧
 ∃ n24,Sy.ReadAt k30.cell? A6 (Int.toNat 3*1+0) 1 (int .u64 n24) ∧
 Cl k30 181 #[int .u64 n24,int .i64 n4] fun k32 r31=>Gt 3 r31 fun cs25 =>
 Cl k32 134 #[agg cs3,agg cs25] fun k34 r33=>Gt 3 r33 fun cs26 =>
 Cl k34 133 #[agg cs25,agg cs7] fun k36 r35=>Gt 3 r35 fun cs27 =>
 Cl k36 134 #[agg cs3,agg cs27] fun k38 r37=>Gt 3 r37 fun cs28 =>
 Cl k38 127 #[agg cs3] fun k40 r39=>∃ n29,some (int .i64 n29) = some r39 ∧
 ((decide ((n29 : Int) < 0)) = true →
 (Cl k40 133 #[agg cs22,agg cs28] fun k42 r41=>Gt 3 r41 fun cs30 =>
 Cl k42 133 #[agg cs23,agg cs26] fun k44 r43=>Gt 3 r43 fun cs31 =>
 ∀ k45,Up k44 k45→R k45 (tuple #[agg cs30,agg cs31]))) ∧
 ((decide ((n29 : Int) < 0)) = false →
 (Cl k40 133 #[agg cs22,agg cs26] fun k47 r46=>Gt 3 r46 fun cs30 =>
 Cl k47 133 #[agg cs23,agg cs28] fun k49 r48=>Gt 3 r48 fun cs31 =>
 ∀ k50,Up k49 k50→R k50 (tuple #[agg cs30,agg cs31]))))) ∧
 ((decide ((n21 : Int) < 0)) = false →
 (Cl k26 133 #[agg cs14,agg cs18] fun k52 r51=>Gt 3 r51 fun cs22 =>
 Cl k52 133 #[agg cs15,agg cs20] fun k54 r53=>Gt 3 r53 fun cs23 =>
 (∃ b o,A6 = some ⟨b,o,none⟩)∧((0 : Int)≤3∧(3 : Int) < (l6 : Nat)) ∧
 ∃ n24,Sy.ReadAt k54.cell? A6 (Int.toNat 3*1+0) 1 (int .u64 n24) ∧
 Cl k54 181 #[int .u64 n24,int .i64 n4] fun k56 r55=>Gt 3 r55 fun cs25 =>
 Cl k56 134 #[agg cs3,agg cs25] fun k58 r57=>Gt 3 r57 fun cs26 =>
 Cl k58 133 #[agg cs25,agg cs7] fun k60 r59=>Gt 3 r59 fun cs27 =>
 Cl k60 134 #[agg cs3,agg cs27] fun k62 r61=>Gt 3 r61 fun cs28 =>
 Cl k62 127 #[agg cs3] fun k64 r63=>∃ n29,some (int .i64 n29) = some r63 ∧
 ((decide ((n29 : Int) < 0)) = true →
 (Cl k64 133 #[agg cs22,agg cs28] fun k66 r65=>Gt 3 r65 fun cs30 =>
 Cl k66 133 #[agg cs23,agg cs26] fun k68 r67=>Gt 3 r67 fun cs31 =>
 ∀ k69,Up k68 k69→R k69 (tuple #[agg cs30,agg cs31]))) ∧
 ((decide ((n29 : Int) < 0)) = false →
 (Cl k64 133 #[agg cs22,agg cs26] fun k71 r70=>Gt 3 r70 fun cs30 =>
 Cl k71 133 #[agg cs23,agg cs28] fun k73 r72=>Gt 3 r72 fun cs31 =>
 ∀ k74,Up k73 k74→R k74 (tuple #[agg cs30,agg cs31]))))))) ∧
 ((decide ((n13 : Int) < 0)) = false →
 (Cl k12 133 #[agg cs0,agg cs10] fun k76 r75=>Gt 3 r75 fun cs14 =>
 Cl k76 133 #[agg cs0,agg cs12] fun k78 r77=>Gt 3 r77 fun cs15 =>
 (∃ b o,A6 = some ⟨b,o,none⟩)∧((0 : Int)≤2∧(2 : Int) < (l6 : Nat)) ∧
 ∃ n16,Sy.ReadAt k78.cell? A6 (Int.toNat 2*1+0) 1 (int .u64 n16) ∧
 Cl k78 181 #[int .u64 n16,int .i64 n4] fun k80 r79=>Gt 3 r79 fun cs17 =>
 Cl k80 134 #[agg cs2,agg cs17] fun k82 r81=>Gt 3 r81 fun cs18 =>
 Cl k82 133 #[agg cs17,agg cs7] fun k84 r83=>Gt 3 r83 fun cs19 =>
 Cl k84 134 #[agg cs2,agg cs19] fun k86 r85=>Gt 3 r85 fun cs20 =>
 Cl k86 127 #[agg cs2] fun k88 r87=>∃ n21,some (int .i64 n21) = some r87 ∧
 ((decide ((n21 : Int) < 0)) = true →
 (Cl k88 133 #[agg cs14,agg cs20] fun k90 r89=>Gt 3 r89 fun cs22 =>
 Cl k90 133 #[agg cs15,agg cs18] fun k92 r91=>Gt 3 r91 fun cs23 =>
 (∃ b o,A6 = some ⟨b,o,none⟩)∧((0 : Int)≤3∧(3 : Int) < (l6 : Nat)) ∧
 ∃ n24,Sy.ReadAt k92.cell? A6 (Int.toNat 3*1+0) 1 (int .u64 n24) ∧
 Cl k92 181 #[int .u64 n24,int .i64 n4] fun k94 r93=>Gt 3 r93 fun cs25 =>
 Cl k94 134 #[agg cs3,agg cs25] fun k96 r95=>Gt 3 r95 fun cs26 =>
 Cl k96 133 #[agg cs25,agg cs7] fun k98 r97=>Gt 3 r97 fun cs27 =>
 Cl k98 134 #[agg cs3,agg cs27] fun k100 r99=>Gt 3 r99 fun cs28 =>
 Cl k100 127 #[agg cs3] fun k102 r101=>∃ n29,some (int .i64 n29) = some r101 ∧
 ((decide ((n29 : Int) < 0)) = true →
 (Cl k102 133 #[agg cs22,agg cs28] fun k104 r103=>Gt 3 r103 fun cs30 =>
 Cl k104 133 #[agg cs23,agg cs26] fun k106 r105=>Gt 3 r105 fun cs31 =>
 ∀ k107,Up k106 k107→R k107 (tuple #[agg cs30,agg cs31]))) ∧
 ((decide ((n29 : Int) < 0)) = false →
 (Cl k102 133 #[agg cs22,agg cs26] fun k109 r108=>Gt 3 r108 fun cs30 =>
 Cl k109 133 #[agg cs23,agg cs28] fun k111 r110=>Gt 3 r110 fun cs31 =>
 ∀ k112,Up k111 k112→R k112 (tuple #[agg cs30,agg cs31]))))) ∧
 ((decide ((n21 : Int) < 0)) = false →
 (Cl k88 133 #[agg cs14,agg cs18] fun k114 r113=>Gt 3 r113 fun cs22 =>
 Cl k114 133 #[agg cs15,agg cs20] fun k116 r115=>Gt 3 r115 fun cs23 =>
 (∃ b o,A6 = some ⟨b,o,none⟩)∧((0 : Int)≤3∧(3 : Int) < (l6 : Nat)) ∧
 ∃ n24,Sy.ReadAt k116.cell? A6 (Int.toNat 3*1+0) 1 (int .u64 n24) ∧
 Cl k116 181 #[int .u64 n24,int .i64 n4] fun k118 r117=>Gt 3 r117 fun cs25 =>
 Cl k118 134 #[agg cs3,agg cs25] fun k120 r119=>Gt 3 r119 fun cs26 =>
 Cl k120 133 #[agg cs25,agg cs7] fun k122 r121=>Gt 3 r121 fun cs27 =>
 Cl k122 134 #[agg cs3,agg cs27] fun k124 r123=>Gt 3 r123 fun cs28 =>
 Cl k124 127 #[agg cs3] fun k126 r125=>∃ n29,some (int .i64 n29) = some r125 ∧
 ((decide ((n29 : Int) < 0)) = true →
 (Cl k126 133 #[agg cs22,agg cs28] fun k128 r127=>Gt 3 r127 fun cs30 =>
 Cl k128 133 #[agg cs23,agg cs26] fun k130 r129=>Gt 3 r129 fun cs31 =>
 ∀ k131,Up k130 k131→R k131 (tuple #[agg cs30,agg cs31]))) ∧
 ((decide ((n29 : Int) < 0)) = false →
 (Cl k126 133 #[agg cs22,agg cs26] fun k133 r132=>Gt 3 r132 fun cs30 =>
 Cl k133 133 #[agg cs23,agg cs28] fun k135 r134=>Gt 3 r134 fun cs31 =>
 ∀ k136,Up k135 k136→R k136 (tuple #[agg cs30,agg cs31])))))))) :
  CallsG Tryz.prog 158 #[agg (cs0.toList ++ (cs1.toList ++ (cs2.toList ++ (cs3.toList ++ ([]))))).toArray,int .i64 n4] k R :=
  execFn_use (cfg:={ opq:=[37] }) (args:=[.agg [.seg 0 3,.seg 1 3,.seg 2 3,.seg 3 3],.one (.var 4)]) (vals:=[agg cs0,agg cs1,agg cs2,agg cs3,int .i64 n4]) (kinds:=[.seg 3,.seg 3,.seg 3,.seg 3,.int .i64]) (by kernel_rfl) ⟨⟨cs0,rfl,hcs0⟩,⟨⟨cs1,rfl,hcs1⟩,⟨⟨cs2,rfl,hcs2⟩,⟨⟨cs3,rfl,hcs3⟩,⟨⟨_,rfl⟩,trivial⟩⟩⟩⟩⟩ (by kernel_rfl) (by kernel_rfl) h
theorem rsSign_vc {cs0 : Array Value} (hcs0 : Seg 12 cs0)
 (h : Cl k 157 #[agg cs0] fun k1 r0=>∃ b1,some (bool b1) = some r0 ∧
 (b1 = true →
 (∀ k2,Up k1 k2→R k2 (int .i64 0))) ∧
 (b1 = false →
 (∃ I3 : Nat→World→List Value→Prop,(∃ m3,∀ k3,Up k1 k3→I3 m3 k3 [int .i64 16]) ∧
 ∀ m3 k3 vs3,Up k1 k3→I3 m3 k3 vs3→∃ n2,some [int .i64 n2] = some vs3 ∧
 Cl k3 158 #[agg cs0,int .i64 n2] fun k5 r4=>∃ cs3,Seg 3 cs3∧∃ cs4,Seg 3 cs4∧some (tuple #[agg cs3,agg cs4]) = some r4 ∧
 Cl k5 127 #[agg cs3] fun k7 r6=>∃ n5,some (int .i64 n5) = some r6 ∧
 ((decide ((n5 : Int) > 0)) = true →
 (∀ k8,Up k7 k8→R k8 (int .i64 1))) ∧
 ((decide ((n5 : Int) > 0)) = false →
 (Cl k7 127 #[agg cs4] fun k10 r9=>∃ n6,some (int .i64 n6) = some r9 ∧
 ((decide ((n6 : Int) < 0)) = true →
 (∀ k11,Up k10 k11→R k11 (int .i64 (-1)))) ∧
 ((decide ((n6 : Int) < 0)) = false →
 (∀ k12,Up k10 k12→∃ m,m < m3∧I3 m k12 [int .i64 (IntKind.wrap .i64 (2*n2))]))))))) :
   CallsG Tryz.prog 120 #[agg cs0] k R :=
  execFn_use (cfg:={ opq:=[37,39],loops:=[(0,[.tmp 3 false [.int .i64]])] }) (args:=[.agg [.seg 0 12]]) (vals:=[agg cs0]) (kinds:=[.seg 12]) (by kernel_rfl) ⟨⟨cs0,rfl,hcs0⟩,trivial⟩ (by kernel_rfl) (by kernel_rfl) h
theorem rsCmp_vc {cs0 cs1 : Array Value} (hcs0 : Seg 12 cs0) (hcs1 : Seg 12 cs1)
 (h : Cl k 99 #[agg cs0,agg cs1] fun k1 r0=>Gt 12 r0 fun cs2 =>
 Cl k1 120 #[agg cs2] fun k3 r2=>∃ n3,some (int .i64 n3) = some r2 ∧
 ∀ k4,Up k3 k4→R k4 (int .i64 n3)) :
  CallsG Tryz.prog 75 #[agg cs0,agg cs1] k R :=
  execFn_use (cfg:={ opq:=[39] }) (args:=[.agg [.seg 0 12],.agg [.seg 1 12]]) (vals:=[agg cs0,agg cs1]) (kinds:=[.seg 12,.seg 12]) (by kernel_rfl) ⟨⟨cs0,rfl,hcs0⟩,⟨⟨cs1,rfl,hcs1⟩,trivial⟩⟩ (by kernel_rfl) (by kernel_rfl) h
end Go.Proofs.YtlginncipdaifaaGreat

namespace Go.Proofs.YtlginncipdaifaaGreat.W32
open Go.RowKit Num
open Sy (Up Sees CallsG Seg)
theorem am_gm (x p : Nat) : 4*(p*x)≤(x+p)*(x+p):=by
 rcases Nat.le_total x p with h | h
 ·obtain ⟨d,rfl⟩:=Nat.exists_eq_add_of_le h
  have e : (x+(x+d))*(x+(x+d)) = 4*((x+d)*x)+d*d:=by grind
  omega
 ·obtain ⟨d,rfl⟩:=Nat.exists_eq_add_of_le h
  have e : (p+d+p)*(p+d+p) = 4*(p*(p+d))+d*d:=by grind
  omega
theorem newton_lo {a x : Nat} (hx : 0 < x) : a < ((x+a / x) / 2+1)*((x+a / x) / 2+1):=by
 have hq : a < (a / x+1)*x:=by rw [Nat.mul_comm]; exact Nat.lt_mul_div_succ a hx
 generalize a / x = q at hq ⊢
 generalize hy : (x+q) / 2 = y
 have h1 : x+(q+1)≤2*(y+1):=by omega
 have h2:=am_gm x (q+1)
 have h3:=Nat.mul_le_mul h1 h1
 have h4 : 2*(y+1)*(2*(y+1)) = 4*((y+1)*(y+1)):=by grind
 omega
theorem newton_stop {a x : Nat} (hx : 0 < x) (h : x≤(x+a / x) / 2) : x*x≤a:=by
 have hq : x≤a / x:=by omega
 exact (Nat.le_div_iff_mul_le hx).1 hq
section
variable {k k' : World} {A A' : Option Addr} {n c m n' c' m' a b l l' : Nat} {cs cs' : Array Value} {R : World→Value→Prop} {x y q : Rat} {K L : Nat}
theorem half_bits {b : Nat} (hb : b≤1000000000000) : IntKind.wrap .i64 (Int.tdiv (IntKind.wrap .i64 ((b : Nat)+1)) 2) = (((b+1) / 2 : Nat) : Int):=by
 have h1 : IntKind.wrap .i64 (((b : Nat) : Int)+1) = ((b+1 : Nat) : Int):=by rw [IntKind.wrap_i64]; omega
 rw [h1,Int.tdiv_eq_ediv_of_nonneg (by omega),IntKind.wrap_i64]
 omega
theorem root_s (h : NatN k A n c a) (hn : n≤10000000000) (C : ∀ k' A c r,Up k k'→r*r≤a→a < (r+1)*(r+1)→NatN k' A (nw r) c r→R k' (.slice A (nw r) c)) :
 Cl k 196 #[.slice A n c] R:=by
 intro k0 u0
 replace h:=h.up u0
 replace C:=fun k' A c r u=>C k' A c r (u0.trans u)
 refine nroot_vc ⟨rfl,fun h0=>fun k1 u1=>?_,fun h0=>?_⟩
 ·have hn0 : n = 0:=by have:=eq_of_beq h0; omega
  have ha:=h.zero.1 hn0
  have:=C k1 none 0 0 u1 (by omega) (by omega) (by rw [nw_zero]; exact NatN.none k1)
  rw [nw_zero] at this
  exact this
 ·have hn0 : n ≠ 0:=fun e=>by rw [e] at h0; exact absurd h0 (by decide)
  have ha : 0 < a:=Nat.pos_of_ne_zero fun e=>hn0 (h.zero.2 e)
  have hlt : a < 2 ^ (32*n):=by
   have:=h.1.lt
   rw [B_eq,← Nat.pow_mul] at this
   exact this
  have hbl : bl a≤32*n:=bl_le.2 hlt
  refine bits_s h (by omega) fun k2 u2=>⟨_,rfl,?_⟩
  intro p k3 u3 hp
  rw [half_bits (by omega)]
  refine raised_s (k:=k3) (s:=(bl a+1) / 2) (one_of hp) (by decide) (by omega) fun k5 A3 c3 u5 h3=>⟨A3,_,c3,rfl,?_⟩
  have hx0 : a < 2 ^ ((bl a+1) / 2)*2 ^ ((bl a+1) / 2):=by
   rw [← Nat.pow_add]
   exact Nat.lt_of_lt_of_le (lt_bl a) (Nat.pow_le_pow_right (by decide) (by omega))
  have hX : nw (1*2 ^ ((bl a+1) / 2))≤n+1:=by
   refine nw_le_of ?_
   rw [Nat.one_mul,B_eq,← Nat.pow_mul]
   exact Nat.pow_lt_pow_right (by decide) (by omega)
  generalize hXe : 1*2 ^ ((bl a+1) / 2) = X at h3 hX
  have hXX : 2 ^ ((bl a+1) / 2) = X:=by rw [← hXe,Nat.one_mul]
  rw [hXX] at hx0
  have hXp : 0 < X:=by rw [← hXX]; exact Nat.pow_pos (by decide)
  clear hXe hXX
  replace h:=((h.up u2).up u3).up u5
  replace C:=fun k' A c r u=>C k' A c r (((u2.trans u3).trans u5).trans u)
  refine ⟨fun m k' vs=>∃ A x c,m = x∧vs = [.slice A (nw x) c]∧NatN k' A (nw x) c x∧0 < x∧a < (x+1)*(x+1)∧x≤X,⟨X,fun k' u=>⟨A3,X,c3,rfl,rfl,h3.up u,hXp,Nat.lt_trans hx0 (Nat.mul_lt_mul'' (by omega) (by omega)),Nat.le_refl _⟩⟩,?_⟩
  rintro m k6 vs u6 ⟨A4,x,c4,rfl,rfl,hx,hx0,hxa,hxX⟩
  have hnx:=nw_mono hxX
  refine ⟨A4,_,c4,rfl,?_⟩
  refine quotient_s (h.up u6) hx (by omega) (by omega) hx0 fun k8 A5 c5 A6 c6 u8 hq hr=>⟨A5,_,c5,A6,_,c6,rfl,?_⟩
  have hnq:=nw_mono (Nat.div_le_self a m)
  have hna:=h.2
  refine sum_s (K:=n+1) (hx.1.up u8) hq.1 (by omega) (by omega) (by omega) fun k10 A7 c7 u10 hs hsl=>⟨A7,_,c7,rfl,?_⟩
  refine lowered_s (s:=1) hs (by omega) (by omega) fun k12 A8 c8 u12 hl=>⟨A8,_,c8,rfl,?_⟩
  have hny:=nw_mono (Nat.div_le_self (m+a / m) (2 ^ 1))
  refine order_s hl (((hx.up u8).up u10).up u12) (by omega) (by omega) fun k14 u14=>⟨_,rfl,fun ho=>?_,fun ho=>?_⟩
  ·have ho:=ord_ge ho
   intro k15 u15
   have v:=(((u8.trans u10).trans u12).trans u14).trans u15
   exact C k15 A4 c4 m (u6.trans v) (newton_stop hx0 ho) hxa (hx.up v)
  ·have ho:=ord_nge ho
   intro k16 u16
   have hlo:=newton_lo (a:=a) hx0
   refine ⟨_,ho,A8,_,c8,rfl,rfl,(hl.up u14).up u16,?_,hlo,by omega⟩
   refine Nat.pos_of_ne_zero fun e=>?_
   have e : (m+a / m) / 2 = 0:=e
   rw [e] at hlo
   omega
end
end Go.Proofs.YtlginncipdaifaaGreat.W32

namespace Go.Proofs.YtlginncipdaifaaGreat
open Num Plain
def nn (x : Q4) : Prop:=0≤C.sg x.toQ
theorem nn_add {x y : Q4} (hx : nn x) (hy : nn y) : nn (x.add y):=by
 unfold nn at *
 rw [toQ_add]
 rcases C.sg_cases x.toQ with ⟨e,h⟩ | ⟨e,h⟩ | ⟨e,h⟩
 ·rw [h,show (0 : Q23)+y.toQ = y.toQ by generalize y.toQ = q; refine Q23.ext' (Q2.ext' ?_ ?_) (Q2.ext' ?_ ?_) <;> (simp only [Q23.add_re,Q23.add_im,Q23.zero_re,Q23.zero_im,Q2.add_re,Q2.add_im,Q2.zero_re,Q2.zero_im]; grind)]
  exact hy
 ·rcases C.sg_cases y.toQ with ⟨e',h'⟩ | ⟨e',h'⟩ | ⟨e',h'⟩
  ·rw [h',show x.toQ+(0 : Q23) = x.toQ by generalize x.toQ = q; refine Q23.ext' (Q2.ext' ?_ ?_) (Q2.ext' ?_ ?_) <;> (simp only [Q23.add_re,Q23.add_im,Q23.zero_re,Q23.zero_im,Q2.add_re,Q2.add_im,Q2.zero_re,Q2.zero_im]; grind)]
   exact hx
  ·rw [C.sg_pos (C.add h h')]; decide
  ·omega
 ·omega
theorem pos_nn {x y : Q4} (hx : C.sg x.toQ = 1) (hy : nn y) : C.sg (x.add y).toQ = 1:=by
 unfold nn at hy
 rw [toQ_add]
 rcases C.sg_cases x.toQ with ⟨e,h⟩ | ⟨e,h⟩ | ⟨e,h⟩
 ·omega
 ·rcases C.sg_cases y.toQ with ⟨e',h'⟩ | ⟨e',h'⟩ | ⟨e',h'⟩
  ·rw [h',show x.toQ+(0 : Q23) = x.toQ by generalize x.toQ = q; refine Q23.ext' (Q2.ext' ?_ ?_) (Q2.ext' ?_ ?_) <;> (simp only [Q23.add_re,Q23.add_im,Q23.zero_re,Q23.zero_im,Q2.add_re,Q2.add_im,Q2.zero_re,Q2.zero_im]; grind)]
   exact hx
  ·exact C.sg_pos (C.add h h')
  ·omega
 ·omega
theorem sg3_nn {s t : Int} (hs : s = 0∨s = 1∨s = -1) (ht : t = 0∨t = 1∨t = -1) (h : 0≤s) (h' : 0≤t) : 0≤s*t:=by
 rcases hs with rfl | rfl | rfl <;> rcases ht with rfl | rfl | rfl <;> simp_all
theorem nn_mul {x y : Q4} (hx : nn x) (hy : nn y) : nn (x.mul y):=by
 unfold nn at *
 rw [toQ_mul,C.sg_mul]
 exact sg3_nn (C.sg_three _) (C.sg_three _) hx hy
theorem nn_of_mul {x y : Q4} (h : nn (x.mul y)) (hy : C.sg y.toQ = 1) : nn x:=by
 unfold nn at *
 rw [toQ_mul,C.sg_mul,hy,Int.mul_one] at h
 exact h
def sg2G (a b : Rat) : Int:=weighI a.num.sign b.num.sign (a*a - 2*(b*b)).num.sign
theorem sg2G_eq (a b : Rat) : B.sg (⟨a,b⟩ : Q2) = sg2G a b:=by rw [← sg_q2,sgRat,sgRat,sgRat]; rfl
def sgG (v : Q4) : Int:=weighI (sg2G v.a v.b) (sg2G v.c v.d) (sg2G (v.a*v.a+2*(v.b*v.b) - 3*(v.c*v.c+2*(v.d*v.d))) (v.a*v.b+v.b*v.a - 3*(v.c*v.d+v.d*v.c)))
theorem sgG_eq (v : Q4) : C.sg v.toQ = sgG v:=by
 unfold Q4.toQ e4
 rw [← sg_q23,sg2G_eq,sg2G_eq]
 have e : (⟨v.a,v.b⟩ : Q2)*⟨v.a,v.b⟩ - 3*((⟨v.c,v.d⟩ : Q2)*⟨v.c,v.d⟩) = ⟨v.a*v.a+2*(v.b*v.b) - 3*(v.c*v.c+2*(v.d*v.d)),v.a*v.b+v.b*v.a - 3*(v.c*v.d+v.d*v.c)⟩:=by
  refine Q2.ext' ?_ ?_ <;> simp only [Q2.sub_re,Q2.sub_im,Q2.mul_re,Q2.mul_im,Q2.three_re,Q2.three_im] <;> grind
 rw [e,sg2G_eq]
 rfl
def w2 : Q4:=⟨0,1,0,0⟩
def w3 : Q4:=⟨0,0,1,0⟩
def w6 : Q4:=⟨0,0,0,1⟩
theorem w2_pos : C.sg w2.toQ = 1:=by rw [sgG_eq]; decide +kernel
theorem w3_pos : C.sg w3.toQ = 1:=by rw [sgG_eq]; decide +kernel
theorem w6_pos : C.sg w6.toQ = 1:=by rw [sgG_eq]; decide +kernel
theorem w2_sq : w2.mul w2 = Q4.real 2:=by decide +kernel
theorem w3_sq : w3.mul w3 = Q4.real 3:=by decide +kernel
theorem w6_sq : w6.mul w6 = Q4.real 6:=by decide +kernel
theorem real_sg (q : Rat) : C.sg (Q4.real q).toQ = q.num.sign:=by
 unfold Q4.real Q4.toQ e4
 have h0 : B.sg (⟨0,0⟩ : Q2) = 0:=B.sg_zero
 rw [← sg_q23,h0,sg2G_eq]
 show weighI (sg2G q 0) 0 _ = _
 have h1 : sg2G q 0 = q.num.sign:=by
  unfold sg2G weighI
  rw [show (0 : Rat).num.sign = 0 from rfl]
  split <;> rename_i h
  ·rfl
  ·rw [if_pos rfl]
 rw [h1]
 unfold weighI
 split <;> rename_i h
 ·rfl
 ·rw [if_pos rfl]
theorem nn_real {q : Rat} (h : 0≤q) : nn (Q4.real q):=by
 unfold nn
 rw [real_sg]
 have:=Rat.num_nonneg.2 h
 rcases Int.lt_or_eq_of_le this with h | h
 ·rw [Int.sign_eq_one_of_pos h]; decide
 ·rw [← h]; decide
theorem real_nn {q : Rat} (h : nn (Q4.real q)) : 0≤q:=by
 unfold nn at h
 rw [real_sg] at h
 exact Rat.num_nonneg.1 (Int.sign_nonneg_iff.1 h)
theorem real_pos {q : Rat} (h : 0 < q) : C.sg (Q4.real q).toQ = 1:=by
 rw [real_sg]
 exact Int.sign_eq_one_of_pos (num_pos h)
theorem sq_e (w : Q4) (r n : Rat) (h : w.mul w = Q4.real n) : (w.sub (Q4.real r)).mul (w.add (Q4.real r)) = Q4.real (n - r*r):=by
 have e : (w.sub (Q4.real r)).mul (w.add (Q4.real r)) = (w.mul w).sub (Q4.real (r*r)):=by
  obtain ⟨a,b,c,d⟩:=w
  refine Q4.ext' ?_ ?_ ?_ ?_ <;> simp only [Q4.mul,Q4.sub,Q4.add,Q4.neg,Q4.real] <;> grind
 rw [e,h]
 refine Q4.ext' ?_ ?_ ?_ ?_ <;> simp only [Q4.sub,Q4.add,Q4.neg,Q4.real] <;> grind
theorem sq_e' (w : Q4) (r n : Rat) (h : w.mul w = Q4.real n) : ((Q4.real r).sub w).mul (w.add (Q4.real r)) = Q4.real (r*r - n):=by
 have e : ((Q4.real r).sub w).mul (w.add (Q4.real r)) = (Q4.real (r*r)).sub (w.mul w):=by
  obtain ⟨a,b,c,d⟩:=w
  refine Q4.ext' ?_ ?_ ?_ ?_ <;> simp only [Q4.mul,Q4.sub,Q4.add,Q4.neg,Q4.real] <;> grind
 rw [e,h]
 refine Q4.ext' ?_ ?_ ?_ ?_ <;> simp only [Q4.sub,Q4.add,Q4.neg,Q4.real] <;> grind
section
variable {w x : Q4} {n r s p : Rat}
theorem root_lo (hw : C.sg w.toQ = 1) (hs : w.mul w = Q4.real n) (h0 : 0≤r) (h : r*r≤n) : nn (w.sub (Q4.real r)):=by
 refine nn_of_mul ?_ (pos_nn hw (nn_real h0))
 rw [sq_e w r n hs]
 exact nn_real (by grind)
theorem root_hi (hw : C.sg w.toQ = 1) (hs : w.mul w = Q4.real n) (h0 : 0≤s) (h : n≤s*s) : nn ((Q4.real s).sub w):=by
 refine nn_of_mul ?_ (pos_nn hw (nn_real h0))
 rw [sq_e' w s n hs]
 exact nn_real (by grind)
def loT (p r s : Rat) : Rat:=if p < 0 then p*s else p*r
def hiT (p r s : Rat) : Rat:=if p < 0 then p*r else p*s
def absR (p : Rat) : Rat:=if p < 0 then -p else p
theorem hi_lo (p r e : Rat) : hiT p r (r+e) - loT p r (r+e) = absR p*e:=by unfold hiT loT absR; split <;> grind
theorem nn_cast {x y : Q4} (h : nn x) (e : x = y) : nn y:=e ▸ h
theorem term_lo (h1 : nn (w.sub (Q4.real r))) (h2 : nn ((Q4.real s).sub w)) : nn (((Q4.real p).mul w).sub (Q4.real (loT p r s))):=by
 unfold loT
 split <;> rename_i hp
 ·refine nn_cast (nn_mul (nn_real (q:=-p) (by grind)) h2) ?_
  refine Q4.ext' ?_ ?_ ?_ ?_ <;> simp only [Q4.mul,Q4.sub,Q4.add,Q4.neg,Q4.real] <;> grind
 ·refine nn_cast (nn_mul (nn_real (q:=p) (by grind)) h1) ?_
  refine Q4.ext' ?_ ?_ ?_ ?_ <;> simp only [Q4.mul,Q4.sub,Q4.add,Q4.neg,Q4.real] <;> grind
theorem term_hi (h1 : nn (w.sub (Q4.real r))) (h2 : nn ((Q4.real s).sub w)) : nn ((Q4.real (hiT p r s)).sub ((Q4.real p).mul w)):=by
 unfold hiT
 split <;> rename_i hp
 ·refine nn_cast (nn_mul (nn_real (q:=-p) (by grind)) h1) ?_
  refine Q4.ext' ?_ ?_ ?_ ?_ <;> simp only [Q4.mul,Q4.sub,Q4.add,Q4.neg,Q4.real] <;> grind
 ·refine nn_cast (nn_mul (nn_real (q:=p) (by grind)) h2) ?_
  refine Q4.ext' ?_ ?_ ?_ ?_ <;> simp only [Q4.mul,Q4.sub,Q4.add,Q4.neg,Q4.real] <;> grind
structure Apx (w : Q4) (r s : Rat) : Prop where
 lo : nn (w.sub (Q4.real r))
 hi : nn ((Q4.real s).sub w)
def loB (x : Q4) (r2 s2 r3 s3 r6 s6 : Rat) : Rat:=x.a+loT x.b r2 s2+loT x.c r3 s3+loT x.d r6 s6
def hiB (x : Q4) (r2 s2 r3 s3 r6 s6 : Rat) : Rat:=x.a+hiT x.b r2 s2+hiT x.c r3 s3+hiT x.d r6 s6
variable {r2 s2 r3 s3 r6 s6 : Rat}
theorem parts_e (x : Q4) (l m n : Rat) : ((((Q4.real x.b).mul w2).sub (Q4.real l)).add (((Q4.real x.c).mul w3).sub (Q4.real m))).add (((Q4.real x.d).mul w6).sub (Q4.real n)) = x.sub (Q4.real (x.a+l+m+n)):=by
 refine Q4.ext' ?_ ?_ ?_ ?_ <;> simp only [Q4.mul,Q4.sub,Q4.add,Q4.neg,Q4.real,w2,w3,w6] <;> grind
theorem parts_e' (x : Q4) (l m n : Rat) : (((Q4.real l).sub ((Q4.real x.b).mul w2)).add ((Q4.real m).sub ((Q4.real x.c).mul w3))).add ((Q4.real n).sub ((Q4.real x.d).mul w6)) = (Q4.real (x.a+l+m+n)).sub x:=by
 refine Q4.ext' ?_ ?_ ?_ ?_ <;> simp only [Q4.mul,Q4.sub,Q4.add,Q4.neg,Q4.real,w2,w3,w6] <;> grind
theorem bounds_lo (x : Q4) (h2 : Apx w2 r2 s2) (h3 : Apx w3 r3 s3) (h6 : Apx w6 r6 s6) : nn (x.sub (Q4.real (loB x r2 s2 r3 s3 r6 s6))) :=
 nn_cast (nn_add (nn_add (term_lo h2.lo h2.hi) (term_lo h3.lo h3.hi)) (term_lo h6.lo h6.hi)) (parts_e x _ _ _)
theorem bounds_hi (x : Q4) (h2 : Apx w2 r2 s2) (h3 : Apx w3 r3 s3) (h6 : Apx w6 r6 s6) : nn ((Q4.real (hiB x r2 s2 r3 s3 r6 s6)).sub x) :=
 nn_cast (nn_add (nn_add (term_hi h2.lo h2.hi) (term_hi h3.lo h3.hi)) (term_hi h6.lo h6.hi)) (parts_e' x _ _ _)
theorem bounds_gap (x : Q4) (e : Rat) : hiB x r2 (r2+e) r3 (r3+e) r6 (r6+e) - loB x r2 (r2+e) r3 (r3+e) r6 (r6+e) = (absR x.b+absR x.c+absR x.d)*e:=by
 have h1:=hi_lo x.b r2 e
 have h2:=hi_lo x.c r3 e
 have h3:=hi_lo x.d r6 e
 unfold hiB loB
 grind
theorem sg_of_lo {lo : Rat} (h : nn (x.sub (Q4.real lo))) (hl : 0 < lo) : C.sg x.toQ = 1:=by
 have:=pos_nn (real_pos hl) h
 rwa [show (Q4.real lo).add (x.sub (Q4.real lo)) = x by refine Q4.ext' ?_ ?_ ?_ ?_ <;> simp only [Q4.sub,Q4.add,Q4.neg,Q4.real] <;> grind] at this
theorem sg_of_hi {hi : Rat} (h : nn ((Q4.real hi).sub x)) (hl : hi < 0) : C.sg x.toQ = -1:=by
 have:=pos_nn (real_pos (q:=-hi) (by grind)) h
 rw [show (Q4.real (-hi)).add ((Q4.real hi).sub x) = x.neg by refine Q4.ext' ?_ ?_ ?_ ?_ <;> simp only [Q4.sub,Q4.add,Q4.neg,Q4.real] <;> grind,toQ_neg,C.sg_minus] at this
 omega
end
def ab (u : Q4) (c : Rat) : Prop:=nn ((Q4.real c).sub u)∧nn ((Q4.real c).add u)
theorem nn_half {x : Q4} (h : nn ((Q4.real 2).mul x)) : nn x:=by
 unfold nn at *
 rw [toQ_mul,C.sg_mul,real_pos (by decide),Int.one_mul] at h
 exact h
section
variable {u v : Q4} {c d : Rat}
theorem ab_mul (h : ab u c) (h' : ab v d) : ab (u.mul v) (c*d):=by
 constructor
 ·refine nn_half (nn_cast (nn_add (nn_mul h.1 h'.2) (nn_mul h.2 h'.1)) ?_)
  refine Q4.ext' ?_ ?_ ?_ ?_ <;> simp only [Q4.mul,Q4.sub,Q4.add,Q4.neg,Q4.real] <;> grind
 ·refine nn_half (nn_cast (nn_add (nn_mul h.1 h'.1) (nn_mul h.2 h'.2)) ?_)
  refine Q4.ext' ?_ ?_ ?_ ?_ <;> simp only [Q4.mul,Q4.sub,Q4.add,Q4.neg,Q4.real] <;> grind
theorem ab_add (h : ab u c) (h' : ab v d) : ab (u.add v) (c+d):=by
 constructor
 ·refine nn_cast (nn_add h.1 h'.1) ?_
  refine Q4.ext' ?_ ?_ ?_ ?_ <;> simp only [Q4.sub,Q4.add,Q4.neg,Q4.real] <;> grind
 ·refine nn_cast (nn_add h.2 h'.2) ?_
  refine Q4.ext' ?_ ?_ ?_ ?_ <;> simp only [Q4.add,Q4.real] <;> grind
theorem ab_real {q : Rat} (h1 : -c≤q) (h2 : q≤c) : ab (Q4.real q) c:=by
 constructor
 ·refine nn_cast (nn_real (q:=c - q) (by grind)) ?_
  refine Q4.ext' ?_ ?_ ?_ ?_ <;> simp only [Q4.sub,Q4.add,Q4.neg,Q4.real] <;> grind
 ·refine nn_cast (nn_real (q:=c+q) (by grind)) ?_
  refine Q4.ext' ?_ ?_ ?_ ?_ <;> simp only [Q4.add,Q4.real] <;> grind
theorem real_ab {q : Rat} (h : ab (Q4.real q) c) : -c≤q∧q≤c:=by
 have h1:=real_nn (nn_cast (y:=Q4.real (c - q)) h.1 (by refine Q4.ext' ?_ ?_ ?_ ?_ <;> simp only [Q4.sub,Q4.add,Q4.neg,Q4.real] <;> grind))
 have h2:=real_nn (nn_cast (y:=Q4.real (c+q)) h.2 (by refine Q4.ext' ?_ ?_ ?_ ?_ <;> simp only [Q4.add,Q4.real] <;> grind))
 constructor <;> grind
theorem ab_root {w : Q4} {n : Rat} (hw : C.sg w.toQ = 1) (hs : w.mul w = Q4.real n) (h0 : 0≤c) (h : n≤c*c) : ab w c:=by
 refine ⟨root_hi hw hs h0 h,?_⟩
 have:=pos_nn hw (nn_real h0)
 unfold nn
 rw [show (Q4.real c).add w = w.add (Q4.real c) by refine Q4.ext' ?_ ?_ ?_ ?_ <;> simp only [Q4.add,Q4.real] <;> grind,this]
 decide
theorem whole_e (x : Q4) : (((Q4.real x.a).add ((Q4.real x.b).mul w2)).add ((Q4.real x.c).mul w3)).add ((Q4.real x.d).mul w6) = x:=by
 refine Q4.ext' ?_ ?_ ?_ ?_ <;> simp only [Q4.mul,Q4.add,Q4.real,w2,w3,w6] <;> grind
theorem ab_parts {x : Q4} {M : Rat} (a1 : -M≤x.a) (a2 : x.a≤M) (b1 : -M≤x.b) (b2 : x.b≤M) (c1 : -M≤x.c) (c2 : x.c≤M) (d1 : -M≤x.d) (d2 : x.d≤M) : ab x (8*M):=by
 have h:=ab_add (ab_add (ab_add (ab_real a1 a2) (ab_mul (ab_real b1 b2) (ab_root w2_pos w2_sq (c:=2) (by decide) (by decide +kernel)))) (ab_mul (ab_real c1 c2) (ab_root w3_pos w3_sq (c:=2) (by decide) (by decide +kernel)))) (ab_mul (ab_real d1 d2) (ab_root w6_pos w6_sq (c:=3) (by decide) (by decide +kernel)))
 rw [whole_e,show M+M*2+M*2+M*3 = 8*M by grind] at h
 exact h
theorem ab_cnj {x : Q4} {M : Rat} (a1 : -M≤x.a) (a2 : x.a≤M) (b1 : -M≤x.b) (b2 : x.b≤M) (c1 : -M≤x.c) (c2 : x.c≤M) (d1 : -M≤x.d) (d2 : x.d≤M) : ab x.cnj (8*M*(8*M)*(8*M)):=by
 unfold Q4.cnj
 refine ab_mul (ab_mul (ab_parts ?_ ?_ ?_ ?_ ?_ ?_ ?_ ?_) (ab_parts ?_ ?_ ?_ ?_ ?_ ?_ ?_ ?_)) (ab_parts ?_ ?_ ?_ ?_ ?_ ?_ ?_ ?_) <;> simp only [Q4.t1,Q4.t2] <;> grind
end
def isI (q : Rat) : Prop:=∃ n : Int,q = n
theorem isI.add {p q : Rat} (h : isI p) (h' : isI q) : isI (p+q):=by obtain ⟨m,rfl⟩:=h; obtain ⟨n,rfl⟩:=h'; exact ⟨m+n,(Rat.intCast_add m n).symm⟩
theorem isI.mul {p q : Rat} (h : isI p) (h' : isI q) : isI (p*q):=by obtain ⟨m,rfl⟩:=h; obtain ⟨n,rfl⟩:=h'; exact ⟨m*n,(Rat.intCast_mul m n).symm⟩
theorem isI.neg {p : Rat} (h : isI p) : isI (-p):=by obtain ⟨m,rfl⟩:=h; exact ⟨-m,(Rat.intCast_neg m).symm⟩
theorem isI_two : isI 2:=⟨2,rfl⟩
theorem isI_three : isI 3:=⟨3,rfl⟩
theorem isI_six : isI 6:=⟨6,rfl⟩
structure isI4 (x : Q4) : Prop where
 a : isI x.a
 b : isI x.b
 c : isI x.c
 d : isI x.d
theorem isI4.mul {x y : Q4} (h : isI4 x) (g : isI4 y) : isI4 (x.mul y) where
 a:=(((h.a.mul g.a).add (isI_two.mul (h.b.mul g.b))).add (isI_three.mul (h.c.mul g.c))).add (isI_six.mul (h.d.mul g.d))
 b:=((h.a.mul g.b).add (h.b.mul g.a)).add (isI_three.mul ((h.c.mul g.d).add (h.d.mul g.c)))
 c:=((h.a.mul g.c).add (h.c.mul g.a)).add (isI_two.mul ((h.b.mul g.d).add (h.d.mul g.b)))
 d:=(((h.a.mul g.d).add (h.d.mul g.a)).add (h.b.mul g.c)).add (h.c.mul g.b)
theorem isI4.t1 {x : Q4} (h : isI4 x) : isI4 x.t1:=⟨h.a,h.b.neg,h.c,h.d.neg⟩
theorem isI4.t2 {x : Q4} (h : isI4 x) : isI4 x.t2:=⟨h.a,h.b,h.c.neg,h.d.neg⟩
theorem isI4.cnj {x : Q4} (h : isI4 x) : isI4 x.cnj:=(h.t1.mul h.t2).mul h.t1.t2
theorem scale_mul (s t : Rat) (x y : Q4) : ((Q4.real s).mul x).mul ((Q4.real t).mul y) = (Q4.real (s*t)).mul (x.mul y):=by
 refine Q4.ext' ?_ ?_ ?_ ?_ <;> simp only [Q4.mul,Q4.real] <;> grind
theorem scale_t1 (s : Rat) (x : Q4) : ((Q4.real s).mul x).t1 = (Q4.real s).mul x.t1:=by
 refine Q4.ext' ?_ ?_ ?_ ?_ <;> simp only [Q4.mul,Q4.real,Q4.t1] <;> grind
theorem scale_t2 (s : Rat) (x : Q4) : ((Q4.real s).mul x).t2 = (Q4.real s).mul x.t2:=by
 refine Q4.ext' ?_ ?_ ?_ ?_ <;> simp only [Q4.mul,Q4.real,Q4.t2] <;> grind
theorem scale_cnj (s : Rat) (x : Q4) : ((Q4.real s).mul x).cnj = (Q4.real (s*s*s)).mul x.cnj:=by
 unfold Q4.cnj
 rw [scale_t1,scale_t2,scale_t2,scale_mul,scale_mul]
theorem scale_norm (s : Rat) (x : Q4) : (((Q4.real s).mul x).mul ((Q4.real s).mul x).cnj).a = s*(s*s*s)*(x.mul x.cnj).a:=by
 rw [scale_cnj,scale_mul]
 generalize x.mul x.cnj = y
 simp only [Q4.mul,Q4.real]
 grind
theorem norm_real (x : Q4) : x.mul x.cnj = Q4.real (x.mul x.cnj).a:=by
 obtain ⟨h1,h2,h3⟩:=x.cnj_norm
 exact Q4.ext' rfl h1 h2 h3
theorem den_mul (q : Rat) : isI ((q.den : Rat)*q):=⟨q.num,by rw [Rat.mul_comm]; exact mul_den_num q⟩
theorem isI_nat (n : Nat) : isI (n : Rat):=⟨n,by rw [Rat.intCast_natCast]⟩
theorem num_ab (q : Rat) {M : Nat} (h : q.num.natAbs≤M) : -(M : Rat)≤q∧q≤(M : Rat):=by
 have hd : (1 : Rat)≤(q.den : Rat):=by
  have:=q.den_pos
  have h1 : ((1 : Nat) : Rat)≤(q.den : Rat):=Rat.natCast_le_natCast.2 this
  exact h1
 have e:=mul_den_num q
 have h1 : (q.num : Rat)≤((M : Int) : Rat):=Rat.intCast_le_intCast.2 (by omega)
 have h2 : ((-(M : Int) : Int) : Rat)≤(q.num : Rat):=Rat.intCast_le_intCast.2 (by omega)
 rw [Rat.intCast_neg,Rat.intCast_natCast] at h2
 rw [Rat.intCast_natCast] at h1
 have hM : (0 : Rat)≤(M : Rat):=Rat.natCast_nonneg
 constructor
 ·refine Rat.not_lt.1 fun hq=>?_
  have h3 : q*(q.den : Rat)≤q*1:=by
   have:=Rat.mul_le_mul_of_nonneg_left hd (c:=-q) (by grind)
   grind
  grind
 ·refine Rat.not_lt.1 fun hq=>?_
  have h3 : q*1≤q*(q.den : Rat):=Rat.mul_le_mul_of_nonneg_left hd (by grind)
  grind
structure Parts4 (x : Q4) (M : Nat) : Prop where
 a : x.a.num.natAbs≤M∧x.a.den≤M
 b : x.b.num.natAbs≤M∧x.b.den≤M
 c : x.c.num.natAbs≤M∧x.c.den≤M
 d : x.d.num.natAbs≤M∧x.d.den≤M
theorem absR_le {p : Rat} {M : Nat} (h : p.num.natAbs≤M) : absR p≤(M : Rat):=by
 obtain ⟨h1,h2⟩:=num_ab p h
 unfold absR
 split <;> grind
theorem norm_whole (x : Q4) {M : Nat} (h : Parts4 x M) : ∃ D : Nat,0 < D∧D≤M*M*M*M∧isI ((D : Rat)*((D : Rat)*(D : Rat)*(D : Rat))*(x.mul x.cnj).a):=by
 refine ⟨x.a.den*x.b.den*x.c.den*x.d.den,?_,?_,?_⟩
 ·exact Nat.mul_pos (Nat.mul_pos (Nat.mul_pos x.a.den_pos x.b.den_pos) x.c.den_pos) x.d.den_pos
 ·exact Nat.mul_le_mul (Nat.mul_le_mul (Nat.mul_le_mul h.a.2 h.b.2) h.c.2) h.d.2
 ·rw [← scale_norm]
  have h4 : isI4 ((Q4.real ((x.a.den*x.b.den*x.c.den*x.d.den : Nat) : Rat)).mul x):=by
   have ha:=den_mul x.a
   have hb:=den_mul x.b
   have hc:=den_mul x.c
   have hd:=den_mul x.d
   have na:=isI_nat x.a.den
   have nb:=isI_nat x.b.den
   have nc:=isI_nat x.c.den
   have nd:=isI_nat x.d.den
   rw [Rat.natCast_mul,Rat.natCast_mul,Rat.natCast_mul]
   generalize (x.a.den : Rat) = p at *
   generalize (x.b.den : Rat) = q at *
   generalize (x.c.den : Rat) = r at *
   generalize (x.d.den : Rat) = s at *
   constructor
   ·have:=((ha.mul nb).mul nc).mul nd
    rwa [show p*x.a*q*r*s = ((Q4.real (p*q*r*s)).mul x).a by simp only [Q4.mul,Q4.real]; grind] at this
   ·have:=((hb.mul na).mul nc).mul nd
    rwa [show q*x.b*p*r*s = ((Q4.real (p*q*r*s)).mul x).b by simp only [Q4.mul,Q4.real]; grind] at this
   ·have:=((hc.mul na).mul nb).mul nd
    rwa [show r*x.c*p*q*s = ((Q4.real (p*q*r*s)).mul x).c by simp only [Q4.mul,Q4.real]; grind] at this
   ·have:=((hd.mul na).mul nb).mul nc
    rwa [show s*x.d*p*q*r = ((Q4.real (p*q*r*s)).mul x).d by simp only [Q4.mul,Q4.real]; grind] at this
  exact (h4.mul h4.cnj).a
theorem isI_ge {q : Rat} (h : isI q) (h0 : q ≠ 0) : q≤-1∨1≤q:=by
 obtain ⟨n,rfl⟩:=h
 have hn : n ≠ 0:=fun e=>h0 (by rw [e]; rfl)
 rcases Int.lt_or_gt_of_ne hn with h | h
 ·left
  have : ((n : Int) : Rat)≤((-1 : Int) : Rat):=Rat.intCast_le_intCast.2 (by omega)
  exact this
 ·right
  have : ((1 : Int) : Rat)≤((n : Int) : Rat):=Rat.intCast_le_intCast.2 (by omega)
  exact this
theorem bounds_end {x : Q4} {M : Nat} {lo hi e : Rat} (hx : x ≠ Q4.zero) (hp : Parts4 x M) (he : 0≤e) (hl : nn (x.sub (Q4.real lo))) (hh : nn ((Q4.real hi).sub x))
 (hg : hi - lo = (absR x.b+absR x.c+absR x.d)*e) (h1 : lo≤0) (h2 : 0≤hi) : 1≤((1536*M ^ 20 : Nat) : Rat)*e:=by
 have gap : hi - lo≤3*(M : Rat)*e:=by
  rw [hg]
  refine Rat.mul_le_mul_of_nonneg_right ?_ he
  have:=absR_le hp.b.1
  have:=absR_le hp.c.1
  have:=absR_le hp.d.1
  grind
 have hab : ab x (3*(M : Rat)*e):=by
  constructor
  ·refine nn_cast (nn_add hh (nn_real (q:=3*(M : Rat)*e - hi) (by grind))) ?_
   refine Q4.ext' ?_ ?_ ?_ ?_ <;> simp only [Q4.sub,Q4.add,Q4.neg,Q4.real] <;> grind
  ·refine nn_cast (nn_add hl (nn_real (q:=3*(M : Rat)*e+lo) (by grind))) ?_
   refine Q4.ext' ?_ ?_ ?_ ?_ <;> simp only [Q4.sub,Q4.add,Q4.neg,Q4.real] <;> grind
 obtain ⟨a1,a2⟩:=num_ab x.a hp.a.1
 obtain ⟨b1,b2⟩:=num_ab x.b hp.b.1
 obtain ⟨c1,c2⟩:=num_ab x.c hp.c.1
 obtain ⟨d1,d2⟩:=num_ab x.d hp.d.1
 have hN:=ab_mul hab (ab_cnj a1 a2 b1 b2 c1 c2 d1 d2)
 rw [norm_real] at hN
 obtain ⟨n1,n2⟩:=real_ab hN
 have hne:=Q4.norm_ne hx
 obtain ⟨D,hD,hDM,hI⟩:=norm_whole x hp
 generalize (x.mul x.cnj).a = N at n1 n2 hne hI
 have hD0 : (0 : Rat) < (D : Rat):=Rat.natCast_pos.2 hD
 have hDp : (0 : Rat) < (D : Rat)*((D : Rat)*(D : Rat)*(D : Rat)):=Rat.mul_pos hD0 (Rat.mul_pos (Rat.mul_pos hD0 hD0) hD0)
 have hz : (D : Rat)*((D : Rat)*(D : Rat)*(D : Rat))*N ≠ 0:=fun h=>by
  rcases Rat.mul_eq_zero.1 h with h | h
  ·grind
  ·exact hne h
 have hge:=isI_ge hI hz
 have hDle : (D : Rat)*((D : Rat)*(D : Rat)*(D : Rat))≤((M ^ 16 : Nat) : Rat):=by
  rw [← Rat.natCast_mul,← Rat.natCast_mul,← Rat.natCast_mul]
  refine Rat.natCast_le_natCast.2 ?_
  have h:=Nat.mul_le_mul hDM (Nat.mul_le_mul (Nat.mul_le_mul hDM hDM) hDM)
  have e : M*M*M*M*(M*M*M*M*(M*M*M*M)*(M*M*M*M)) = M ^ 16:=by
   simp only [Nat.pow_succ,Nat.pow_zero,Nat.one_mul,Nat.mul_assoc]
  rw [e] at h
  exact h
 have hc : 0≤3*(M : Rat)*e*(8*(M : Rat)*(8*(M : Rat))*(8*(M : Rat))):=by grind
 have key : ((M ^ 16 : Nat) : Rat)*(3*(M : Rat)*e*(8*(M : Rat)*(8*(M : Rat))*(8*(M : Rat)))) = ((1536*M ^ 20 : Nat) : Rat)*e:=by
  have e1 : ((1536*M ^ 20 : Nat) : Rat) = 1536*((M ^ 16 : Nat) : Rat)*((M : Rat)*(M : Rat)*(M : Rat)*(M : Rat)):=by
   rw [← Rat.natCast_mul,← Rat.natCast_mul,← Rat.natCast_mul,show (1536 : Rat) = ((1536 : Nat) : Rat) from rfl,← Rat.natCast_mul,← Rat.natCast_mul]
   congr 1
   rw [show (20 : Nat) = 16+4 from rfl,Nat.pow_add,Nat.mul_assoc]
   congr 1
   simp only [Nat.pow_succ,Nat.pow_zero,Nat.one_mul,Nat.mul_assoc]
  rw [e1]
  generalize ((M ^ 16 : Nat) : Rat) = P
  generalize (M : Rat) = m
  grind
 rw [← key]
 generalize 3*(M : Rat)*e*(8*(M : Rat)*(8*(M : Rat))*(8*(M : Rat))) = c at *
 generalize (D : Rat)*((D : Rat)*(D : Rat)*(D : Rat)) = d at *
 have h3 : d*c≤((M ^ 16 : Nat) : Rat)*c:=Rat.mul_le_mul_of_nonneg_right hDle hc
 have h4 : d*N≤d*c:=Rat.mul_le_mul_of_nonneg_left n2 (Rat.le_of_lt hDp)
 have h5 : d*-c≤d*N:=Rat.mul_le_mul_of_nonneg_left n1 (Rat.le_of_lt hDp)
 rcases hge with hge | hge <;> grind
theorem bounds_bits {x : Q4} {K k : Nat} {lo hi : Rat} (hx : x ≠ Q4.zero) (hp : Parts4 x (2 ^ (32*K))) (hl : nn (x.sub (Q4.real lo))) (hh : nn ((Q4.real hi).sub x))
 (hg : hi - lo = (absR x.b+absR x.c+absR x.d)*(1 / ((2 ^ k : Nat) : Rat))) (h1 : lo≤0) (h2 : 0≤hi) : k≤640*K+11:=by
 have hP : (0 : Rat) < ((2 ^ k : Nat) : Rat):=Rat.natCast_pos.2 (Nat.pow_pos (by decide))
 have he : (0 : Rat)≤1 / ((2 ^ k : Nat) : Rat):=by
  rw [Rat.div_def,Rat.one_mul]
  exact Rat.le_of_lt (Rat.inv_pos.2 hP)
 have h:=bounds_end hx hp he hl hh hg h1 h2
 have h3 : ((2 ^ k : Nat) : Rat)≤((1536*(2 ^ (32*K)) ^ 20 : Nat) : Rat):=by
  have:=Rat.mul_le_mul_of_nonneg_right h (Rat.le_of_lt hP)
  rw [Rat.one_mul,Rat.mul_assoc,Rat.div_mul_cancel (by grind),Rat.mul_one] at this
  exact this
 have h4:=Rat.natCast_le_natCast.1 h3
 rw [← Nat.pow_mul] at h4
 have h5 : 2 ^ k < 2 ^ (11+32*K*20):=by
  rw [Nat.pow_add]
  refine Nat.lt_of_le_of_lt h4 (Nat.mul_lt_mul_of_pos_right (by decide) (Nat.pow_pos (by decide)))
 have:=(Nat.pow_lt_pow_iff_right (by decide)).1 h5
 omega
end Go.Proofs.YtlginncipdaifaaGreat

namespace Go.Proofs.YtlginncipdaifaaGreat.W32
open Go.RowKit Num Plain
open Sy (Up Sees CallsG Seg)
section
variable {k k' : World} {A A' : Option Addr} {n c m n' c' m' a b l l' : Nat} {cs cs' c0 c1 : Array Value} {R : World→Value→Prop} {x y q p r lo hi : Rat} {K L M : Nat} {v v' : Q4}
theorem nw_pow_le (s : Nat) : nw (1*2 ^ s)≤s / 32+1:=by
 refine nw_le_of ?_
 rw [Nat.one_mul,B_eq,← Nat.pow_mul]
 exact Nat.pow_lt_pow_right (by decide) (by omega)
def isRoot (n kk : Nat) (q : Rat) : Prop:=∃ r : Nat,q = (r : Rat) / ((2 ^ kk : Nat) : Rat)∧r*r≤n*2 ^ (2*kk)∧n*2 ^ (2*kk) < (r+1)*(r+1)
theorem rroot_v {n kk : Nat} (hn : n≤6) (hk : kk≤1000000000) (C : ∀ k' ds q,Up k k'→isRoot n kk q→QV k' ds q (kk / 32+2)→R k' (.agg ds)) :
 Cl k 181 #[.int .u64 (n : Int),.int .i64 (kk : Int)] R:=by
 intro k0 u0
 have w1 : IntKind.wrap .i64 (2*(kk : Int)) = ((2*kk : Nat) : Int):=by rw [IntKind.wrap_i64]; omega
 refine rroot_vc (nat_s (x:=n) (by omega) fun k1 A1 c1 u1 h1=>⟨A1,_,c1,rfl,?_⟩)
 have hn1 : nw n≤1:=nw_le_of (by rw [B_eq]; omega)
 rw [w1]
 refine raised_s h1 (by omega) (by omega) fun k3 A3 c3 u3 h3=>⟨A3,_,c3,rfl,?_⟩
 have hb : n*2 ^ (2*kk) < 2 ^ (2*kk+3):=by
  rw [Nat.pow_add,Nat.mul_comm]
  exact Nat.mul_lt_mul_of_pos_left (by omega) (Nat.pow_pos (by decide))
 have hn3 : nw (n*2 ^ (2*kk))≤kk / 16+2:=by
  refine nw_le_of (Nat.lt_of_lt_of_le hb ?_)
  rw [B_eq,← Nat.pow_mul]
  exact Nat.pow_le_pow_right (by decide) (by omega)
 refine root_s h3 (by omega) fun k5 A5 c5 r u5 r1 r2 h5=>⟨A5,_,c5,rfl,?_⟩
 intro p k6 u6 hp
 refine raised_s (k:=k6) (s:=kk) (one_of hp) (by decide) (by omega) fun k8 A8 c8 u8 h8=>⟨A8,_,c8,rfl,?_⟩
 have hr : r < 2 ^ (kk+2):=by
  refine Nat.lt_of_not_le fun hle=>?_
  have h:=Nat.mul_le_mul hle hle
  rw [← Nat.pow_add] at h
  have h2 : 2 ^ (2*kk+3)≤2 ^ (kk+2+(kk+2)):=Nat.pow_le_pow_right (by decide) (by omega)
  omega
 have hnr : nw r≤kk / 32+2:=by
  refine nw_le_of (Nat.lt_of_lt_of_le hr ?_)
  rw [B_eq,← Nat.pow_mul]
  exact Nat.pow_le_pow_right (by decide) (by omega)
 have hnp:=nw_pow_le kk
 refine frac_b (K:=kk / 32+2) ((h5.up u6).up u8) h8 (by rw [Nat.one_mul]; exact Nat.pow_pos (by decide)) hnr (by omega) (by omega) (q:=(r : Rat) / ((2 ^ kk : Nat) : Rat)) ?_ fun k10 b A l c A' l' c' u10 hQ f1 f2=>⟨_,(QV.mk1 hQ f1 f2).seg,rfl,fun k11 u11=>C k11 _ _ (((((((u0.trans u1).trans u3).trans u5).trans u6).trans u8).trans u10).trans u11) ⟨r,rfl,r1,r2⟩ (QV.mk1 (hQ.up u11) f1 f2)⟩
 rw [Nat.one_mul,Rat.mkRat_eq_div]
 rfl
theorem power_v {kk : Nat} (hk1 : 0 < kk) (hk : kk≤1000000000) (C : ∀ k' ds,Up k k'→QV k' ds (1 / ((2 ^ kk : Nat) : Rat)) (kk / 32+2)→R k' (.agg ds)) :
 Cl k 180 #[.int .i64 (-(kk : Int))] R:=by
 intro k0 u0
 have w1 : IntKind.wrap .i64 (0 - -(kk : Int)) = (kk : Int):=by rw [IntKind.wrap_i64]; omega
 refine rpower_vc ⟨fun _=>?_,fun h=>absurd (of_decide_eq_false h) (by omega)⟩
 intro p k1 u1 hp
 rw [w1]
 refine raised_s (k:=k1) (s:=kk) (one_of hp) (by decide) (by omega) fun k2 A2 c2 u2 h2=>⟨A2,_,c2,rfl,?_⟩
 intro p3 k3 u3 hp3
 have hnp:=nw_pow_le kk
 refine frac_b (k:=k3) (K:=kk / 32+2) (one_of hp3) (h2.up u3) (by rw [Nat.one_mul]; exact Nat.pow_pos (by decide)) (by omega) (by omega) (by omega) (q:=1 / ((2 ^ kk : Nat) : Rat)) ?_ fun k10 b A l c A' l' c' u10 hQ f1 f2=>⟨_,(QV.mk1 hQ f1 f2).seg,rfl,fun k11 u11=>C k11 _ (((((u0.trans u1).trans u2).trans u3).trans u10).trans u11) (QV.mk1 (hQ.up u11) f1 f2)⟩
 rw [Nat.one_mul,Rat.mkRat_eq_div]
 rfl
theorem apx_root {w : Q4} {n kk : Nat} (hw : C.sg w.toQ = 1) (hs : w.mul w = Q4.real ((n : Nat) : Rat)) (h : isRoot n kk q) : Apx w q (q+1 / ((2 ^ kk : Nat) : Rat)):=by
 obtain ⟨r,rfl,h1,h2⟩:=h
 have hP : (0 : Rat) < ((2 ^ kk : Nat) : Rat):=Rat.natCast_pos.2 (Nat.pow_pos (by decide))
 have e1 : 2 ^ (2*kk) = 2 ^ kk*2 ^ kk:=by rw [← Nat.pow_add]; congr 1; omega
 rw [e1] at h1 h2
 have h1:=Rat.natCast_le_natCast.2 h1
 have h2:=Rat.natCast_le_natCast.2 (Nat.le_of_lt h2)
 rw [Rat.natCast_mul,Rat.natCast_mul,Rat.natCast_mul] at h1
 rw [Rat.natCast_mul,Rat.natCast_mul,Rat.natCast_mul,Rat.natCast_add,show ((1 : Nat) : Rat) = 1 from rfl] at h2
 have hr : (0 : Rat)≤(r : Rat):=Rat.natCast_nonneg
 generalize ((2 ^ kk : Nat) : Rat) = P at *
 generalize (r : Rat) = r at *
 generalize (n : Rat) = n at *
 have hi : (0 : Rat) < P⁻¹:=Rat.inv_pos.2 hP
 have hPi : P*P⁻¹ = 1:=Rat.mul_inv_cancel _ (by grind)
 rw [Rat.div_def,Rat.div_def,Rat.one_mul]
 generalize P⁻¹ = i at *
 have hii : 0≤i*i:=Rat.le_of_lt (Rat.mul_pos hi hi)
 have h3:=Rat.mul_le_mul_of_nonneg_right h1 hii
 have h4:=Rat.mul_le_mul_of_nonneg_right h2 hii
 have e2 : n*(P*P)*(i*i) = n:=by
  have : n*(P*P)*(i*i) = n*((P*i)*(P*i)):=by grind
  rw [this,hPi]; grind
 rw [e2] at h3 h4
 refine ⟨root_lo hw hs (Rat.mul_nonneg hr (Rat.le_of_lt hi)) ?_,root_hi hw hs ?_ ?_⟩
 ·grind
 ·have:=Rat.mul_nonneg hr (Rat.le_of_lt hi)
  grind
 ·grind
theorem rneg {q : Rat} : q.num < 0↔q < 0:=by rw [← Int.not_le,Rat.num_nonneg,Rat.not_le]
theorem rpos {q : Rat} : 0 < q.num↔0 < q:=by
 constructor
 ·intro h
  have h1 : 0≤q:=Rat.num_nonneg.1 (by omega)
  rcases Rat.le_iff_lt_or_eq.1 h1 with h2 | h2
  ·exact h2
  ·rw [← h2] at h; exact absurd h (by decide)
 ·exact num_pos
theorem sgn_lt {q : Rat} : q.num.sign < 0↔q < 0:=by
 rw [← rneg]
 rcases Int.lt_trichotomy q.num 0 with h | h | h
 ·rw [Int.sign_eq_neg_one_of_neg h]; exact ⟨fun _=>h,fun _=>by decide⟩
 ·rw [h]; exact Iff.rfl
 ·rw [Int.sign_eq_one_of_pos h]; exact ⟨fun h=>absurd h (by decide),fun h=>by omega⟩
theorem sgn_gt {q : Rat} : q.num.sign > 0↔0 < q:=by
 rw [← rpos]
 rcases Int.lt_trichotomy q.num 0 with h | h | h
 ·rw [Int.sign_eq_neg_one_of_neg h]; exact ⟨fun h=>absurd h (by decide),fun h=>by omega⟩
 ·rw [h]; exact Iff.rfl
 ·rw [Int.sign_eq_one_of_pos h]; exact ⟨fun _=>h,fun _=>by decide⟩
theorem neg_dec (p : Rat) : (decide (p.num.sign < 0)) = decide (p < 0):=decide_eq_decide.2 sgn_lt
theorem bstep {Q : World→Array Value→Array Value→Prop} {B : Option Addr} {l6 i n kk : Nat} {cx c7 : Array Value} (hA : ∃ b o,B = some ⟨b,o,none⟩) (hi6 : i < l6) (hrd : ∀ k',Up k k'→Sy.ReadAt k'.cell? B (Int.toNat (i : Int)*1+0) 1 (Value.int .u64 (n : Int)))
 (hn : n≤6) (hk : kk≤1000000000) (hx : QV k cx p K) (h7 : QV k c7 (1 / ((2 ^ kk : Nat) : Rat)) (kk / 32+2)) (h0 : QV k c0 lo L) (h1 : QV k c1 hi L) (hL : L≤1000000000) (hK : K≤1000000000)
 (C : ∀ k' d0 d1 r,Up k k'→isRoot n kk r→QV k' d0 (lo+loT p r (r+1 / ((2 ^ kk : Nat) : Rat))) (L+K+kk / 16+6)→QV k' d1 (hi+hiT p r (r+1 / ((2 ^ kk : Nat) : Rat))) (L+K+kk / 16+6)→Q k' d0 d1) :
 (∃ b o,B = some ⟨b,o,none⟩)∧((0 : Int)≤(i : Int)∧(i : Int) < (l6 : Nat)) ∧
 ∃ n8,Sy.ReadAt k.cell? B (Int.toNat (i : Int)*1+0) 1 (Value.int .u64 n8) ∧
 Cl k 181 #[Value.int .u64 n8,Value.int .i64 (kk : Int)] fun k4 r3=>Gt 3 r3 fun cs9 =>
 Cl k4 134 #[Value.agg cx,Value.agg cs9] fun k6 r5=>Gt 3 r5 fun cs10 =>
 Cl k6 133 #[Value.agg cs9,Value.agg c7] fun k8 r7=>Gt 3 r7 fun cs11 =>
 Cl k8 134 #[Value.agg cx,Value.agg cs11] fun k10 r9=>Gt 3 r9 fun cs12 =>
 Cl k10 127 #[Value.agg cx] fun k12 r11=>∃ n13,some (Value.int .i64 n13) = some r11 ∧
 ((decide ((n13 : Int) < 0)) = true →
 (Cl k12 133 #[Value.agg c0,Value.agg cs12] fun k14 r13=>Gt 3 r13 fun cs14 =>
 Cl k14 133 #[Value.agg c1,Value.agg cs10] fun k16 r15=>Gt 3 r15 fun cs15=>Q k16 cs14 cs15)) ∧
 ((decide ((n13 : Int) < 0)) = false →
 (Cl k12 133 #[Value.agg c0,Value.agg cs10] fun k76 r75=>Gt 3 r75 fun cs14 =>
 Cl k76 133 #[Value.agg c1,Value.agg cs12] fun k78 r77=>Gt 3 r77 fun cs15=>Q k78 cs14 cs15)):=by
  refine ⟨hA,⟨by omega,by omega⟩,(n : Int),hrd k (Up.refl k),?_⟩
  refine rroot_v hn hk fun k1 d1 r u1 hr q1=>⟨d1,q1.seg,rfl,?_⟩
  refine mul_v (hx.up u1) q1 (by omega) fun k2 d2 u2 q2=>⟨d2,q2.seg,rfl,?_⟩
  refine add_v (q1.up u2) ((h7.up u1).up u2) (by omega) fun k3 d3 u3 q3=>⟨d3,q3.seg,rfl,?_⟩
  refine mul_v (((hx.up u1).up u2).up u3) q3 (by omega) fun k4 d4 u4 q4=>⟨d4,q4.seg,rfl,?_⟩
  have u14:=((u1.trans u2).trans u3).trans u4
  refine sign_v (hx.up u14) fun k5 u5=>⟨_,rfl,fun h=>?_,fun h=>?_⟩
  ·rw [neg_dec] at h
   have hp:=of_decide_eq_true h
   refine add_v ((h0.up u14).up u5) (q4.up u5) (by omega) fun k6 d6 u6 q6=>⟨d6,q6.seg,rfl,?_⟩
   refine add_v (((h1.up u14).up u5).up u6) ((((q2.up u3).up u4).up u5).up u6) (by omega) fun k7 d7 u7 q7=>⟨d7,q7.seg,rfl,?_⟩
   refine C k7 d6 d7 r (((u14.trans u5).trans u6).trans u7) hr (((q6.up u7).cast ?_).mono (by omega)) ((q7.cast ?_).mono (by omega))
   ·unfold loT; rw [if_pos hp]
   ·unfold hiT; rw [if_pos hp]
  ·rw [neg_dec] at h
   have hp:=of_decide_eq_false h
   refine add_v ((h0.up u14).up u5) (((q2.up u3).up u4).up u5) (by omega) fun k6 d6 u6 q6=>⟨d6,q6.seg,rfl,?_⟩
   refine add_v (((h1.up u14).up u5).up u6) ((q4.up u5).up u6) (by omega) fun k7 d7 u7 q7=>⟨d7,q7.seg,rfl,?_⟩
   refine C k7 d6 d7 r (((u14.trans u5).trans u6).trans u7) hr (((q6.up u7).cast ?_).mono (by omega)) ((q7.cast ?_).mono (by omega))
   ·unfold loT; rw [if_neg hp]
   ·unfold hiT; rw [if_neg hp]
theorem read64 {k : World} {p i n : Nat} (h : Sy.Blk k p 203 #[Value.int .u64 1,Value.int .u64 2,Value.int .u64 3,Value.int .u64 6]) (hv : (#[Value.int .u64 1,Value.int .u64 2,Value.int .u64 3,Value.int .u64 6] : Array Value)[i]? = some (Value.int .u64 (n : Int))) :
 ∀ k',Up k k'→Sy.ReadAt k'.cell? (some ⟨p,0,none⟩) (Int.toNat (i : Int)*1+0) 1 (Value.int .u64 (n : Int)):=fun k' u=>by
 refine readAt_one rfl (p:=i) ?_ (by omega)
 unfold Sy.cellAt
 simp only [Nat.zero_add,(h.up u).cell,hv]
 rfl
theorem bounds_v {kk : Nat} (hx : SQ k cs v K) (hk1 : 0 < kk) (hk : kk≤1000000000) (hK : K≤100000000)
 (C : ∀ k' d0 d1 r2 r3 r6,Up k k'→Apx w2 r2 (r2+1 / ((2 ^ kk : Nat) : Rat))→Apx w3 r3 (r3+1 / ((2 ^ kk : Nat) : Rat))→Apx w6 r6 (r6+1 / ((2 ^ kk : Nat) : Rat)) →
   QV k' d0 (loB v r2 (r2+1 / ((2 ^ kk : Nat) : Rat)) r3 (r3+1 / ((2 ^ kk : Nat) : Rat)) r6 (r6+1 / ((2 ^ kk : Nat) : Rat))) (4*K+3*(kk / 16)+18) →
   QV k' d1 (hiB v r2 (r2+1 / ((2 ^ kk : Nat) : Rat)) r3 (r3+1 / ((2 ^ kk : Nat) : Rat)) r6 (r6+1 / ((2 ^ kk : Nat) : Rat))) (4*K+3*(kk / 16)+18)→R k' (.tuple #[.agg d0,.agg d1])) :
 Cl k 158 #[.agg cs,.int .i64 (kk : Int)] R:=by
 intro k0 u0
 obtain ⟨c0,c1,c2,c3,rfl,h0,h1,h2,h3⟩:=hx.up u0
 replace C:=fun k' d0 d1 r2 r3 r6 u=>C k' d0 d1 r2 r3 r6 (u0.trans u)
 refine rBounds_vc h0.seg h1.seg h2.seg h3.seg fun p5 k1 u1 hb=>⟨_,_,_,rfl,?_⟩
 rw [show IntKind.wrap .i64 (0 - (kk : Int)) = -(kk : Int) by rw [IntKind.wrap_i64]; omega]
 refine power_v hk1 hk fun k2 d2 u2 q2=>⟨d2,q2.seg,rfl,?_⟩
 have v2:=u1.trans u2
 replace C:=fun k' d0 d1 r2 r3 r6 u=>C k' d0 d1 r2 r3 r6 (v2.trans u)
 replace hb:=hb.up u2
 replace h0:=h0.up v2
 replace h1:=h1.up v2
 replace h2:=h2.up v2
 replace h3:=h3.up v2
 clear u0 u1 u2 v2 hx
 refine bstep (i:=1) (n:=2) ⟨_,_,rfl⟩ (by decide) (read64 hb rfl) (by decide) hk h1 q2 h0 h0 (by omega) (by omega) fun k4 e0 e1 r2 u4 a2 f0 f1=>?_
 refine bstep (i:=2) (n:=3) ⟨_,_,rfl⟩ (by decide) (read64 (hb.up u4) rfl) (by decide) hk (h2.up u4) (q2.up u4) f0 f1 (by omega) (by omega) fun k5 e2 e3 r3 u5 a3 f2 f3=>?_
 refine bstep (i:=3) (n:=6) ⟨_,_,rfl⟩ (by decide) (read64 ((hb.up u4).up u5) rfl) (by decide) hk ((h3.up u4).up u5) ((q2.up u4).up u5) f2 f3 (by omega) (by omega) fun k6 e4 e5 r6 u6 a6 f4 f5=>fun k7 u7=>?_
 exact C k7 e4 e5 r2 r3 r6 (((u4.trans u5).trans u6).trans u7) (apx_root w2_pos w2_sq a2) (apx_root w3_pos w3_sq a3) (apx_root w6_pos w6_sq a6) ((f4.up u7).mono (by omega)) ((f5.up u7).mono (by omega))
theorem QV.parts (h : QV k cs q K) : q.num.natAbs≤2 ^ (32*K)∧q.den≤2 ^ (32*K):=by
 obtain ⟨b,A,l,c,A',l',c',rfl,hQ,h1,h2⟩:=h
 have e1:=hQ.n.1.lt
 have e2:=hQ.d.1.lt
 rw [B_eq,← Nat.pow_mul] at e1 e2
 exact ⟨Nat.le_trans (Nat.le_of_lt e1) (Nat.pow_le_pow_right (by decide) (by omega)),Nat.le_trans (Nat.le_of_lt e2) (Nat.pow_le_pow_right (by decide) (by omega))⟩
theorem SQ.parts (h : SQ k cs v K) : Parts4 v (2 ^ (32*K)):=by
 obtain ⟨c0,c1,c2,c3,rfl,h0,h1,h2,h3⟩:=h
 exact ⟨h0.parts,h1.parts,h2.parts,h3.parts⟩
theorem ssign_v (hx : SQ k cs v K) (hK : K≤100000) (C : ∀ k',Up k k'→R k' (.int .i64 (C.sg v.toQ))) :
 Cl k 120 #[.agg cs] R:=by
 intro k0 u0
 replace hx:=hx.up u0
 replace C:=fun k' u=>C k' (u0.trans u)
 clear u0
 refine rsSign_vc hx.seg (szero_v hx fun k1 u1=>⟨_,rfl,fun h=>fun k2 u2=>?_,fun h=>?_⟩)
 ·have h:=of_decide_eq_true h
  have:=C k2 (u1.trans u2)
  rwa [h,toQ_zero,Plain.C.sg_zero] at this
 ·have hne:=of_decide_eq_false h
  replace hx:=hx.up u1
  replace C:=fun k' u=>C k' (u1.trans u)
  clear u1 h
  refine ⟨fun m k' vs=>∃ kk : Nat,16≤kk∧kk≤1280*K+22+16∧m = 1280*K+38 - kk∧vs = [.int .i64 (kk : Int)],⟨1280*K+22,fun k' _=>⟨16,by omega,by omega,by omega,rfl⟩⟩,?_⟩
  rintro m k3 vs u3 ⟨kk,hk1,hk2,rfl,rfl⟩
  refine ⟨_,rfl,?_⟩
  refine bounds_v (hx.up u3) (by omega) (by omega) (by omega) fun k5 d0 d1 r2 r3 r6 u5 a2 a3 a6 q0 q1=>⟨d0,q0.seg,d1,q1.seg,rfl,?_⟩
  have hlo:=bounds_lo v a2 a3 a6
  have hhi:=bounds_hi v a2 a3 a6
  have hgap:=bounds_gap v (r2:=r2) (r3:=r3) (r6:=r6) (1 / ((2 ^ kk : Nat) : Rat))
  generalize loB v r2 _ r3 _ r6 _ = lo at *
  generalize hiB v r2 _ r3 _ r6 _ = hi at *
  refine sign_v q0 fun k6 u6=>⟨_,rfl,fun h=>fun k7 u7=>?_,fun h=>?_⟩
  ·have h:=of_decide_eq_true h
   have hp : 0 < lo:=sgn_gt.1 h
   have:=C k7 (((u3.trans u5).trans u6).trans u7)
   rwa [sg_of_lo hlo hp] at this
  ·have h:=of_decide_eq_false h
   have hp : lo≤0:=Rat.not_lt.1 fun h'=>h (sgn_gt.2 h')
   refine sign_v (q1.up u6) fun k8 u8=>⟨_,rfl,fun h=>fun k9 u9=>?_,fun h=>fun k9 u9=>?_⟩
   ·have h:=of_decide_eq_true h
    have hq : hi < 0:=sgn_lt.1 h
    have:=C k9 ((((u3.trans u5).trans u6).trans u8).trans u9)
    rwa [sg_of_hi hhi hq] at this
   ·have h:=of_decide_eq_false h
    have hq : 0≤hi:=Rat.not_lt.1 fun h'=>h (sgn_lt.2 h')
    have hb:=bounds_bits hne hx.parts hlo hhi hgap hp hq
    refine ⟨1280*K+38 - 2*kk,by omega,2*kk,by omega,by omega,rfl,?_⟩
    rw [show IntKind.wrap .i64 (2*(kk : Int)) = ((2*kk : Nat) : Int) by rw [IntKind.wrap_i64]; omega]
theorem scmp_v (hx : SQ k cs v K) (hy : SQ k cs' v' L) (hK : K+L+1≤100000) (C : ∀ k',Up k k'→R k' (.int .i64 (C.sg (v.sub v').toQ))) :
 Cl k 75 #[.agg cs,.agg cs'] R:=by
 intro k0 u0
 refine rsCmp_vc hx.seg hy.seg (ssub_v (hx.up u0) (hy.up u0) (by omega) fun k1 d1 u1 h1=>⟨d1,h1.seg,rfl,?_⟩)
 exact ssign_v h1 hK fun k3 u3=>⟨_,rfl,fun k4 u4=>C k4 (((u0.trans u1).trans u3).trans u4)⟩
end
end Go.Proofs.YtlginncipdaifaaGreat.W32

namespace Go.Proofs.YtlginncipdaifaaGreat
open Go.RowKit Num Plain W32
open Sy (Up Sees CallsG Seg)
section
variable {k k' : World} {R : World→Value→Prop} {K L : Nat} {cs cs' : Array Value} {x y : W4} {v v' : Q4}
def In8 (n : Int) : Prop:=-128≤n∧n≤127
theorem In8.in64 {n : Int} (h : In8 n) : In64 n:=by unfold In8 at h; unfold In64; omega
theorem In8.wrap {n : Int} (h : In8 n) : IntKind.wrap .i64 n = n:=by unfold In8 at h; rw [IntKind.wrap_i64]; omega
theorem castM {x y : W4} (h : WaveV k cs x K) (e : x = y) : WaveV k cs y K:=e ▸ h
theorem plc_nat {m : Nat} (h : m < 24) : plc (m : Int) = m:=by unfold plc; omega
theorem res_s {n : Int} (hx : WaveV k cs x K) (hy : WaveV k cs' y K) (hK1 : 1≤K) (hK : K≤1000000) (C : ∀ k' ds,Up k k'→WaveV k' ds (resW x y (plc n)) (8*K+19)→R k' (.agg ds)) :
 Cl k 15 #[.agg cs,.agg cs',.int .i64 n] R:=by
 intro k0 u0
 refine mRes_vc hx.seg hy.seg (xturn_s fun k1 d1 u1 hT=>⟨d1,hT.seg,rfl,?_⟩)
 refine WMul_s ((hy.up u0).up u1) (hT.mono hK1) hK1 (by omega) fun k3 d3 u3 hM=>⟨d3,hM.seg,rfl,?_⟩
 refine WAdd_s (K:=4*K+9) ((((hx.up u0).up u1).up u3).mono (by omega)) hM (by omega) (by omega) fun k5 d5 u5 hA=>⟨d5,hA.seg,rfl,fun k6 u6=>?_⟩
 exact C k6 d5 ((((u0.trans u1).trans u3).trans u5).trans u6) ((hA.up u6).mono (by omega))
theorem best_s (hx : WaveV k cs x K) (hy : WaveV k cs' y K) (hK1 : 1≤K) (hK : K≤100000) (C : ∀ k' ds,Up k k'→SurdV k' ds (bestN x y) (32*K+85)→R k' (.agg ((Value.int .i64 (bestK x y : Int)) :: (ds.toList ++ ([]))).toArray)) :
 Cl k 12 #[.agg cs,.agg cs'] R:=by
 intro k0 u0
 replace hx:=hx.up u0
 replace hy:=hy.up u0
 replace C:=fun k' ds u=>C k' ds (u0.trans u)
 refine mBest_vc hx.seg hy.seg (WConj_s hx (by omega) fun k1 d1 u1 h1=>⟨d1,h1.seg,rfl,?_⟩)
 refine WMul_s h1 (hy.up u1) hK1 (by omega) fun k2 d2 u2 hp=>⟨d2,hp.seg,rfl,?_⟩
 refine WRe_s hp fun k3 d3 u3 hr=>⟨d3,hr.seg,rfl,?_⟩
 refine WIm_s (hp.up u3) fun k4 d4 u4 hi=>⟨d4,hi.seg,rfl,?_⟩
 replace hr:=hr.up u4
 have u14:=((u1.trans u2).trans u3).trans u4
 replace hx:=hx.up u14
 replace hy:=hy.up u14
 replace C:=fun k' ds u=>C k' ds (u14.trans u)
 clear u14 u1 u2 u3 u4 h1 hp
 unfold bestN bestK at C
 generalize hpe : x.conj.mul y = p at *
 refine ⟨fun m k' vs=>∃ j c,j≤23∧m = 23 - j∧vs = [.int .i64 ((lo p j).1 : Int),.int .i64 ((j+1 : Nat) : Int),.agg c]∧SurdV k' c (lo p j).2 (16*K+45),⟨23,fun k' u=>⟨0,d3,by omega,rfl,rfl,(hr.up u).mono (by omega)⟩⟩,?_⟩
 rintro m k5 vs u5 ⟨j,c,hj,rfl,rfl,hb⟩
 replace hr:=hr.up u5
 replace hi:=hi.up u5
 refine ⟨_,_,c,hb.seg,rfl,fun hlt=>?_,fun hge=>?_⟩
 ·have hlt:=of_decide_eq_true hlt
  refine xturn_s fun k6 d6 u6 hT=>⟨d6,hT.seg,rfl,?_⟩
  rw [plc_nat (m:=j+1) (by omega)] at hT
  refine WRe_s hT fun k7 d7 u7 ha=>⟨d7,ha.seg,rfl,?_⟩
  refine SMul_s (K:=4*K+9) ((hr.up u6).up u7) (ha.mono (by omega)) (by omega) (by omega) fun k8 d8 u8 hA=>⟨d8,hA.seg,rfl,?_⟩
  refine WIm_s ((hT.up u7).up u8) fun k9 d9 u9 he=>⟨d9,he.seg,rfl,?_⟩
  refine SMul_s (K:=4*K+9) ((((hi.up u6).up u7).up u8).up u9) (he.mono (by omega)) (by omega) (by omega) fun k10 d10 u10 hB=>⟨d10,hB.seg,rfl,?_⟩
  refine SSub_s ((hA.up u9).up u10) hB (by omega) (by omega) fun k11 d11 u11 hD=>⟨d11,hD.seg,rfl,?_⟩
  have u611:=((((u6.trans u7).trans u8).trans u9).trans u10).trans u11
  replace hD : SurdV k11 d11 (gAt p (j+1)) (16*K+45):=hD.mono (by omega)
  refine SCmp_s hD (hb.up u611) (by omega) (by omega) fun k12 u12=>⟨_,rfl,fun hc=>?_,fun hc=>?_⟩
  ·have hc : sgd (gAt p (j+1)) (lo p j).2 < 0:=of_decide_eq_true hc
   have e : lo p (j+1) = (j+1,gAt p (j+1)):=by show (if _ then _ else _) = _; rw [if_pos hc]
   intro k13 u13
   refine ⟨23 - (j+1),by omega,j+1,d11,by omega,rfl,?_,?_⟩
   ·rw [e,wrap_up (by omega)]
   ·rw [e]; exact (hD.up u12).up u13
  ·have hc : ¬ sgd (gAt p (j+1)) (lo p j).2 < 0:=of_decide_eq_false hc
   have e : lo p (j+1) = lo p j:=by show (if _ then _ else _) = _; rw [if_neg hc]
   intro k13 u13
   refine ⟨23 - (j+1),by omega,j+1,c,by omega,rfl,?_,?_⟩
   ·rw [e,wrap_up (by omega)]
   ·rw [e]; exact ((hb.up u611).up u12).up u13
 ·have hge:=of_decide_eq_false hge
  have e : j = 23:=by omega
  subst e
  have h1:=(lo_spec p 23).1
  refine res_s (hx.up u5) (hy.up u5) hK1 (by omega) fun k6 d6 u6 hA=>⟨d6,hA.seg,rfl,?_⟩
  rw [plc_nat (by omega)] at hA
  refine WNorm_s hA (by omega) (by omega) fun k7 d7 u7 hN=>⟨d7,hN.seg,rfl,fun k8 u8=>?_⟩
  exact C k8 d7 (((u5.trans u6).trans u7).trans u8) ((hN.up u8).mono (by omega))
noncomputable def dotK (x y : W4) : Nat:=((hi x 23).1+36 - (hi y 23).1) % 24
theorem dot_s (hx : WaveV k cs x K) (hy : WaveV k cs' y K) (hK1 : 1≤K) (hK : K≤1000000) (C : ∀ k',Up k k'→R k' (.int .i64 (dotK x y : Int))) :
 Cl k 18 #[.agg cs,.agg cs'] R:=by
 intro k0 u0
 have h1:=(hi_spec x 23).1
 have h2:=(hi_spec y 23).1
 refine mDot_vc hx.seg hy.seg (high_s (hx.up u0) hK1 hK fun k1 d1 u1 a1=>⟨_,d1,a1.seg,rfl,?_⟩)
 refine high_s ((hy.up u0).up u1) hK1 hK fun k3 d3 u3 a3=>⟨_,d3,a3.seg,rfl,fun k4 u4=>?_⟩
 have:=C k4 (((u0.trans u1).trans u3).trans u4)
 unfold dotK at this
 generalize (hi x 23).1 = p at h1 this ⊢
 generalize (hi y 23).1 = q at h2 this ⊢
 have w1 : IntKind.wrap .i64 ((p : Int)+12) = (p : Int)+12:=by rw [IntKind.wrap_i64]; omega
 have w2 : IntKind.wrap .i64 ((p : Int)+12 - (q : Int)) = (p : Int)+12 - (q : Int):=by rw [IntKind.wrap_i64]; omega
 have w3 : IntKind.wrap .i64 ((p : Int)+12 - (q : Int)+24) = (p : Int)+12 - (q : Int)+24:=by rw [IntKind.wrap_i64]; omega
 rw [w1,w2,w3,Int.tmod_eq_emod_of_nonneg (by omega)]
 have e : (((p+36 - q) % 24 : Nat) : Int) = ((p : Int)+12 - (q : Int)+24) % 24:=by omega
 rw [← e]
 exact this
def quadQ (a b c : Int) : Q4:=⟨ofQ a 4,ofQ b 4,ofQ c 4,ofQ 0 0⟩
theorem quad_s {n0 n1 n2 : Int} (h0 : In8 n0) (h1 : In8 n1) (h2 : In8 n2) (C : ∀ k',Up k k'→R k' (.agg #[.int .i64 n0,.int .i64 4,.int .i64 n1,.int .i64 4,.int .i64 n2,.int .i64 4,.int .i64 0,.int .i64 0])) :
 Cl k 64 #[.agg #[.int .i8 n0,.int .i8 n1,.int .i8 n2]] R:=by
 intro k0 u0
 refine quad_vc fun k1 u1=>?_
 rw [h0.wrap,h1.wrap,h2.wrap]
 exact C k1 (u0.trans u1)
theorem lit4 : In64 4:=⟨by decide,by decide⟩
theorem lit0 : In64 0:=⟨by decide,by decide⟩
theorem force_s {n0 n1 n2 n3 n4 n5 : Int} (h0 : In8 n0) (h1 : In8 n1) (h2 : In8 n2) (h3 : In8 n3) (h4 : In8 n4) (h5 : In8 n5)
 (C : ∀ k' ds ds',Up k k'→WaveV k' ds ⟨quadQ n0 n1 n2,quadQ n3 n4 n5⟩ 6→WQ k' ds' ⟨quadQ n0 n1 n2,quadQ n3 n4 n5⟩ 2→R k' (.tuple #[.agg ds,.agg ds'])) :
 Cl k 11 #[.agg #[.int .i8 n0,.int .i8 n1,.int .i8 n2,.int .i8 n3,.int .i8 n4,.int .i8 n5]] R:=by
 intro k0 u0
 refine mOf_vc (quad_s h0 h1 h2 fun k1 u1=>⟨_,_,_,_,_,_,_,_,rfl,?_⟩)
 refine quad_s h3 h4 h5 fun k3 u3=>⟨_,_,_,_,_,_,_,_,rfl,?_⟩
 refine OfWave_s h0.in64 lit4 h1.in64 lit4 h2.in64 lit4 lit0 lit0 h3.in64 lit4 h4.in64 lit4 h5.in64 lit4 lit0 lit0 fun k5 d5 u5 hW=>⟨d5,hW.seg,rfl,?_⟩
 refine W32.wofwave_v h0.in64 lit4 h1.in64 lit4 h2.in64 lit4 lit0 lit0 h3.in64 lit4 h4.in64 lit4 h5.in64 lit4 lit0 lit0 fun k7 d7 u7 hV=>⟨d7,hV.seg,rfl,fun k8 u8=>?_⟩
 exact C k8 d5 d7 (((((u0.trans u1).trans u3).trans u5).trans u7).trans u8) ((hW.up u7).up u8) (hV.up u8)
theorem dec_one : dec 1 = [49]:=by
 unfold dec
 rw [if_neg (by omega),dig_pos (by omega),show 1 / 10 = 0 from rfl,dig_zero]
 rfl
theorem one_text : surdText ⟨1,0,0,0⟩ = [49]:=by
 have r2 : ratText 1 = [49]:=by
  unfold ratText
  rw [show (1 : Rat).num = 1 from rfl,show (1 : Rat).den = 1 from rfl,if_neg (by omega),if_pos rfl,show (1 : Int).natAbs = 1 from rfl,dec_one]
  rfl
 have p1 : addPart [] 1 [] = [49]:=by
  unfold addPart
  rw [if_neg (by decide),if_neg (by simp),r2]; rfl
 have p3 : ∀ m : List UInt8,addPart [49] 0 m = [49]:=fun m=>by
  unfold addPart
  rw [if_pos rfl]
 unfold surdText
 simp only [body]
 rw [p1,p3,p3,p3]
 rfl
theorem in8 {n : Int} (h : n.natAbs≤100) : In8 n:=by unfold In8; omega
theorem ex_a : (⟨quadQ 12 0 0,quadQ 0 0 0⟩ : W4) = ⟨⟨3,0,0,0⟩,Q4.zero⟩:=by decide +kernel
theorem ex_b : (⟨quadQ 0 0 0,quadQ 8 0 0⟩ : W4) = ⟨Q4.zero,⟨2,0,0,0⟩⟩:=by decide +kernel
theorem ex_n : bestN ⟨⟨3,0,0,0⟩,Q4.zero⟩ ⟨Q4.zero,⟨2,0,0,0⟩⟩ = ⟨1,0,0,0⟩:=by unfold bestN; rw [best_example,norm_example]
theorem ex_d : dotK ⟨⟨3,0,0,0⟩,Q4.zero⟩ ⟨Q4.zero,⟨2,0,0,0⟩⟩ = 6:=by unfold dotK; rw [high_example1,high_example2]
theorem mawake_s (C : ∀ k',Up k k'→R k' (.bool true)) : Cl k 20 #[] R:=by
 intro k0 u0
 refine mawake_vc (force_s (in8 (by decide)) (in8 (by decide)) (in8 (by decide)) (in8 (by decide)) (in8 (by decide)) (in8 (by decide)) fun k1 d1 e1 u1 hA g1=>⟨d1,hA.seg,e1,g1.seg,rfl,?_⟩)
 refine force_s (in8 (by decide)) (in8 (by decide)) (in8 (by decide)) (in8 (by decide)) (in8 (by decide)) (in8 (by decide)) fun k3 d3 e3 u3 hB g3=>⟨d3,hB.seg,e3,g3.seg,rfl,?_⟩
 replace hA:=castM (hA.up u3) ex_a
 replace hB:=castM hB ex_b
 refine best_s hA hB (by decide) (by decide) fun k5 d5 u5 hN=>⟨_,d5,hN.seg,rfl,?_⟩
 refine dot_s (hA.up u5) (hB.up u5) (by decide) (by decide) fun k7 u7=>⟨_,rfl,?_⟩
 rw [ex_d,best_example]
 rw [ex_n] at hN
 refine ⟨fun _=>⟨fun _=>?_,fun h=>absurd h (by decide)⟩,fun h=>absurd h (by decide)⟩
 refine SText_s (hN.up u7) (by decide) (by decide) fun k9 u9=>⟨_,rfl,fun k10 u10=>?_⟩
 rw [one_text,show ((str [49]).toList == (⟨#[49]⟩ : ByteArray).toList) = true from toList_inj.2 rfl]
 exact C k10 ((((((u0.trans u1).trans u3).trans u5).trans u7).trans u9).trans u10)
theorem rres_v {n : Int} (hx : WQ k cs x K) (hy : WQ k cs' y K) (hK : K≤1000000) (C : ∀ k' ds,Up k k'→WQ k' ds (resW x y (plc n)) (9*K+62)→R k' (.agg ds)) :
 Cl k 16 #[.agg cs,.agg cs',.int .i64 n] R:=by
 intro k0 u0
 refine rRes_vc hx.seg hy.seg (rturn_v fun k1 d1 u1 hT=>⟨d1,hT.seg,rfl,?_⟩)
 refine wmul_v ((hy.up u0).up u1) hT (by omega) fun k3 d3 u3 hM=>⟨d3,hM.seg,rfl,?_⟩
 refine wadd_v (((hx.up u0).up u1).up u3) hM (by omega) fun k5 d5 u5 hA=>⟨d5,hA.seg,rfl,fun k6 u6=>?_⟩
 exact C k6 d5 ((((u0.trans u1).trans u3).trans u5).trans u6) ((hA.up u6).mono (by omega))
theorem gAt_mul (x y : W4) (j : Nat) : (x.conj.mul (y.mul (turnW j))).re = gAt (x.conj.mul y) j:=by unfold gAt; rw [W4.mul_assoc]
theorem lo_next (p : W4) (j : Nat) : lo p (j+1) = if sgd (gAt p (j+1)) (lo p j).2 < 0 then (j+1,gAt p (j+1)) else lo p j:=rfl
theorem hi_next (x : W4) (j : Nat) : hi x (j+1) = if 0 < sgd (fAt x (j+1)) (hi x j).2 then (j+1,fAt x (j+1)) else hi x j:=rfl
theorem rhigh_v (hx : WQ k cs x K) (hK : K≤5000) (C : ∀ k' ds,Up k k'→SQ k' ds (hi x 23).2 (8*K+61)→R k' (.tuple #[.int .i64 ((hi x 23).1 : Int),.agg ds])) :
 Cl k 81 #[.agg cs] R:=by
 intro k0 u0
 replace hx:=hx.up u0
 replace C:=fun k' ds u=>C k' ds (u0.trans u)
 have hx':=hx
 obtain ⟨xa,xb,rfl,ha,hb⟩:=hx'
 refine rHigh_vc ha.seg hb.seg ⟨fun m k' vs=>∃ j c,j+m = 23∧vs = [.int .i64 ((hi x j).1 : Int),.int .i64 ((j+1 : Nat) : Int),.agg c]∧SQ k' c (hi x j).2 (8*K+61),⟨23,fun k' u=>⟨0,_,rfl,rfl,(ha.up u).mono (by omega)⟩⟩,?_⟩
 rintro m k1 vs u1 ⟨j,c,hj,rfl,hc⟩
 refine ⟨_,_,c,hc.seg,rfl,fun hlt=>?_,fun hge=>?_⟩
 ·have hlt:=of_decide_eq_true hlt
  have hlt : j+1 < 24:=by omega
  refine rturn_v fun k2 d2 u2 hT=>?_
  rw [plc_down hlt] at hT
  have hT':=hT
  obtain ⟨ta,tb,rfl,hta,htb⟩:=hT'
  refine ⟨ta,hta.seg,tb,htb.seg,rfl,?_⟩
  refine wmul_v ((hx.up u1).up u2) hT (by omega) fun k3 d3 u3 h3=>?_
  obtain ⟨ma,mb,rfl,hma,hmb⟩:=h3
  refine ⟨ma,hma.seg,mb,hmb.seg,rfl,?_⟩
  have hma : SQ k3 ma (fAt x (j+1)) (8*K+61):=hma.mono (by omega)
  refine scmp_v hma ((hc.up u2).up u3) (by omega) fun k4 u4=>⟨_,rfl,fun hd=>?_,fun hd=>?_⟩
  ·have hd : 0 < sgd (fAt x (j+1)) (hi x j).2:=of_decide_eq_true hd
   refine fun k5 u5=>⟨m - 1,by omega,j+1,ma,by omega,?_,?_⟩
   ·rw [hi_next,if_pos hd,wrap_up (by omega)]
   ·rw [hi_next,if_pos hd]; exact (hma.up u4).up u5
  ·have hd : ¬ (0 < sgd (fAt x (j+1)) (hi x j).2):=of_decide_eq_false hd
   refine fun k5 u5=>⟨m - 1,by omega,j+1,c,by omega,?_,?_⟩
   ·rw [hi_next,if_neg hd,wrap_up (by omega)]
   ·rw [hi_next,if_neg hd]; exact ((((hc.up u2).up u3).up u4).up u5)
 ·have hge:=of_decide_eq_false hge
  have e : j = 23:=by omega
  subst e
  exact fun k2 u2=>C k2 c (u1.trans u2) (hc.up u2)
theorem rdot_v (hx : WQ k cs x K) (hy : WQ k cs' y K) (hK : K≤5000) (C : ∀ k',Up k k'→R k' (.int .i64 (dotK x y : Int))) :
 Cl k 19 #[.agg cs,.agg cs'] R:=by
 intro k0 u0
 have h1:=(hi_spec x 23).1
 have h2:=(hi_spec y 23).1
 refine rDot_vc hx.seg hy.seg (rhigh_v (hx.up u0) hK fun k1 d1 u1 a1=>⟨_,d1,a1.seg,rfl,?_⟩)
 refine rhigh_v ((hy.up u0).up u1) hK fun k3 d3 u3 a3=>⟨_,d3,a3.seg,rfl,fun k4 u4=>?_⟩
 have:=C k4 (((u0.trans u1).trans u3).trans u4)
 unfold dotK at this
 generalize (hi x 23).1 = p at h1 this ⊢
 generalize (hi y 23).1 = q at h2 this ⊢
 have w1 : IntKind.wrap .i64 ((p : Int)+36) = (p : Int)+36:=by rw [IntKind.wrap_i64]; omega
 have w2 : IntKind.wrap .i64 ((p : Int)+36 - (q : Int)) = (p : Int)+36 - (q : Int):=by rw [IntKind.wrap_i64]; omega
 rw [w1,w2,Int.tmod_eq_emod_of_nonneg (by omega)]
 have e : (((p+36 - q) % 24 : Nat) : Int) = ((p : Int)+36 - (q : Int)) % 24:=by omega
 rw [← e]
 exact this
theorem rbest_v (hx : WQ k cs x K) (hy : WQ k cs' y K) (hK : K≤500) (C : ∀ k' ds,Up k k'→SQ k' ds (bestN x y) (144*K+1037)→R k' (.agg ((Value.int .i64 (bestK x y : Int)) :: (ds.toList ++ ([]))).toArray)) :
 Cl k 13 #[.agg cs,.agg cs'] R:=by
 intro k0 u0
 replace hx:=hx.up u0
 replace hy:=hy.up u0
 replace C:=fun k' ds u=>C k' ds (u0.trans u)
 have hx':=hx
 obtain ⟨xa,xb,rfl,hxa,hxb⟩:=hx'
 have hy':=hy
 obtain ⟨ya,yb,rfl,hya,hyb⟩:=hy'
 unfold bestN bestK at C
 generalize hpe : x.conj.mul y = p at *
 refine rBest_vc hxa.seg hxb.seg hya.seg hyb.seg ⟨fun m k' vs=>∃ (j a : Nat) (c : Array Value),j+m = 24∧vs = [.int .i64 (a : Int),.int .i64 (j : Int),.agg c]∧Seg 12 c∧(∀ i,j = i+1→a = (lo p i).1∧SQ k' c (lo p i).2 (72*K+533)),⟨24,fun k' u=>⟨0,0,_,rfl,rfl,⟨rfl,by simp [Value.scalar,Value.noWord]⟩,fun i hi=>by omega⟩⟩,?_⟩
 rintro m k1 vs u1 ⟨j,a,c,hj,rfl,hs,hc⟩
 refine ⟨_,_,c,hs,rfl,fun hlt=>?_,fun hge=>?_⟩
 ·have hlt : j < 24:=by have:=of_decide_eq_true hlt; omega
  refine wconj_v (hx.up u1) (by omega) fun k2 d2 u2 h2=>?_
  have h2':=h2
  obtain ⟨ca,cb,rfl,hca,hcb⟩:=h2'
  refine ⟨ca,hca.seg,cb,hcb.seg,rfl,?_⟩
  refine rturn_v fun k3 d3 u3 hT=>?_
  rw [plc_nat hlt] at hT
  have hT':=hT
  obtain ⟨ta,tb,rfl,hta,htb⟩:=hT'
  refine ⟨ta,hta.seg,tb,htb.seg,rfl,?_⟩
  refine wmul_v (((hy.up u1).up u2).up u3) hT (by omega) fun k4 d4 u4 h4=>?_
  have h4':=h4
  obtain ⟨ma,mb,rfl,hma,hmb⟩:=h4'
  refine ⟨ma,hma.seg,mb,hmb.seg,rfl,?_⟩
  refine wmul_v ((h2.up u3).up u4) h4 (by omega) fun k5 d5 u5 h5=>?_
  obtain ⟨na,nb,rfl,hna,hnb⟩:=h5
  refine ⟨na,hna.seg,nb,hnb.seg,rfl,?_⟩
  have hna : SQ k5 na (gAt p j) (72*K+533):=by
   have e:=gAt_mul x y j
   rw [hpe] at e
   exact e ▸ hna.mono (by omega)
  have u15:=(((u2.trans u3).trans u4).trans u5)
  refine ⟨fun h=>?_,fun h=>?_⟩
  ·have h : j = 0:=by have:=eq_of_beq h; omega
   subst h
   refine fun k6 u6=>⟨m - 1,by omega,1,0,na,by omega,rfl,hna.seg,fun i hi=>?_⟩
   have : i = 0:=by omega
   subst this
   rw [gAt_zero] at hna
   exact ⟨rfl,hna.up u6⟩
  ·obtain ⟨i,rfl⟩ : ∃ i,j = i+1:=⟨j - 1,by
    have : j ≠ 0:=fun e=>by subst e; exact absurd h (by decide)
    omega⟩
   obtain ⟨ea,hc'⟩:=hc i rfl
   subst ea
   refine scmp_v hna (hc'.up u15) (by omega) fun k6 u6=>⟨_,rfl,fun hd=>?_,fun hd=>?_⟩
   ·have hd : sgd (gAt p (i+1)) (lo p i).2 < 0:=of_decide_eq_true hd
    refine fun k7 u7=>⟨m - 1,by omega,i+2,i+1,na,by omega,by rw [wrap_up (by omega)],hna.seg,fun q hq=>?_⟩
    have : q = i+1:=by omega
    subst this
    rw [lo_next,if_pos hd]
    exact ⟨rfl,(hna.up u6).up u7⟩
   ·have hd : ¬ (sgd (gAt p (i+1)) (lo p i).2 < 0):=of_decide_eq_false hd
    refine fun k7 u7=>⟨m - 1,by omega,i+2,(lo p i).1,c,by omega,by rw [wrap_up (by omega)],hs,fun q hq=>?_⟩
    have : q = i+1:=by omega
    subst this
    rw [lo_next,if_neg hd]
    exact ⟨rfl,((hc'.up u15).up u6).up u7⟩
 ·have hge:=of_decide_eq_false hge
  have e : j = 23+1:=by omega
  obtain ⟨ea,_⟩:=hc 23 e
  subst ea
  have hlo:=(lo_spec p 23).1
  refine rres_v (hx.up u1) (hy.up u1) (by omega) fun k2 d2 u2 h2=>?_
  rw [plc_nat (by omega)] at h2
  have h2':=h2
  obtain ⟨ra,rb,rfl,hra,hrb⟩:=h2'
  refine ⟨ra,hra.seg,rb,hrb.seg,rfl,?_⟩
  refine norm_v h2 (by omega) fun k3 d3 u3 h3=>⟨d3,h3.seg,rfl,fun k4 u4=>?_⟩
  exact C k4 d3 (((u1.trans u2).trans u3).trans u4) ((h3.up u4).mono (by omega))
theorem mtr {b : Bool} {P Q : Prop} (h : b = true) (p : P) : (b = true→P)∧(b = false→Q):=⟨fun _=>p,fun h'=>absurd (h.symm.trans h') (by decide)⟩
theorem mbest_s {n0 n1 n2 n3 n4 n5 n6 n7 n8 n9 n10 n11 : Int} (h0 : In8 n0) (h1 : In8 n1) (h2 : In8 n2) (h3 : In8 n3) (h4 : In8 n4) (h5 : In8 n5) (h6 : In8 n6) (h7 : In8 n7) (h8 : In8 n8) (h9 : In8 n9) (h10 : In8 n10) (h11 : In8 n11) (n12 : Int) (C : ∀ k',Up k k'→R k' (.bool true)) :
 Cl k 3 #[.agg #[.int .i8 n0,.int .i8 n1,.int .i8 n2,.int .i8 n3,.int .i8 n4,.int .i8 n5],.agg #[.int .i8 n6,.int .i8 n7,.int .i8 n8,.int .i8 n9,.int .i8 n10,.int .i8 n11],.int .i64 n12] R:=by
 intro k0 u0
 replace C:=fun k' u=>C k' (u0.trans u)
 refine mbest_vc (force_s h0 h1 h2 h3 h4 h5 fun k1 d1 e1 u1 hA gA=>⟨d1,hA.seg,e1,gA.seg,rfl,?_⟩)
 refine force_s h6 h7 h8 h9 h10 h11 fun k3 d3 e3 u3 hB gB=>⟨d3,hB.seg,e3,gB.seg,rfl,?_⟩
 replace hA:=hA.up u3
 replace gA:=gA.up u3
 replace C:=fun k' u=>C k' ((u1.trans u3).trans u)
 clear u1 u3 u0
 generalize (⟨quadQ n0 n1 n2,quadQ n3 n4 n5⟩ : W4) = a at *
 generalize (⟨quadQ n6 n7 n8,quadQ n9 n10 n11⟩ : W4) = b at *
 clear h0 h1 h2 h3 h4 h5 h6 h7 h8 h9 h10 h11
 refine best_s hA hB (by decide) (by decide) fun k4 d4 u4 hN=>⟨_,d4,hN.seg,rfl,?_⟩
 refine rbest_v (gA.up u4) (gB.up u4) (by decide) fun k5 d5 u5 hM=>⟨_,d5,hM.seg,rfl,?_⟩
 have u45:=u4.trans u5
 refine res_s (hA.up u45) (hB.up u45) (by decide) (by decide) fun k6 d6 u6 h6=>⟨d6,h6.seg,rfl,?_⟩
 refine rres_v ((gA.up u45).up u6) ((gB.up u45).up u6) (by decide) fun k7 d7 u7 h7=>⟨d7,h7.seg,rfl,?_⟩
 refine isWave_s (h6.up u7) (by decide) (by decide) h7 (by decide) fun k8 u8=>⟨_,rfl,mtr rfl (mtr (beq_self_eq_true _) ?_)⟩
 have u58:=((u6.trans u7).trans u8)
 refine isSurd_s ((hN.up u5).up u58) (by decide) (by decide) (hM.up u58) (by decide) fun k9 u9=>⟨_,rfl,mtr rfl ?_⟩
 have u49:=(u45.trans u58).trans u9
 refine dot_s (hA.up u49) (hB.up u49) (by decide) (by decide) fun k10 u10=>⟨_,rfl,?_⟩
 refine rdot_v ((gA.up u49).up u10) ((gB.up u49).up u10) (by decide) fun k11 u11=>⟨_,rfl,mtr (beq_self_eq_true _) ?_⟩
 exact mawake_s fun k12 u12=>⟨_,rfl,fun k13 u13=>C k13 ((((u49.trans u10).trans u11).trans u12).trans u13)⟩
end
end Go.Proofs.YtlginncipdaifaaGreat

