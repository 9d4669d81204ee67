/- Several texts in one. (Printed by prep.py.) -/
import Derived.Test.YtpjakokgmgggiaaGreatProg
import Derived.Test.YtpjakokgmgggiaaGreatWaSy14
import Derived.Test.YtpjakokgmgggiaaGreatWaQ5
import Derived.Test.YtpjakokgmgggiaaGreatWaG2
import Derived.Test.YtpjakokgmgggiaaGreatWaS4
import Derived.Test.YtpjakokgmgggiaaGreatWaS5
import Derived.Test.YtpjakokgmgggiaaGreatWaS6
/- What is to be shown of the calls of some functions. (Printed by gen/vc.py.) -/
namespace Go.Proofs.YtpjakokgmgggiaaGreat
open Go.RowKit
open Sy (Up Sees CallsG Seg execFn_use)
set_option maxRecDepth 100000
variable {k : World} {R : World → Value → Prop}
theorem Of_vc {n0 n1 : Int}
    (h : (((n1 : Int) == 0) = true →
 (∀ k0, Up k k0 → CallsG Tryz.prog 94 #[Value.int .i64 n0] k0 fun k1 r0 => ∃ cs2, Seg 3 cs2 ∧ some (Value.agg cs2) = some r0 ∧
 ∀ k2, Up k1 k2 → R k2 (Value.agg cs2))) ∧
 (((n1 : Int) == 0) = false →
 (∀ k3, Up k k3 → CallsG Tryz.prog 127 #[Value.int .i64 n0, Value.int .i64 n1] k3 fun k4 r3 => ∃ cs2, Seg 3 cs2 ∧ ∃ n3, some (Value.tuple #[Value.agg cs2, Value.int .i64 n3]) = some r3 ∧
 ∀ k5, Up k4 k5 → R k5 (Value.agg cs2)))) :
    CallsG Tryz.prog 15 #[Value.agg #[Value.int .i64 n0, Value.int .i64 n1]] k R :=
  execFn_use (cfg := { opq := [30] }) (args := [.agg [.var 0, .var 1]]) (vals := [Value.int .i64 n0, Value.int .i64 n1]) (kinds := [.int .i64, .int .i64]) (by kernel_rfl) ⟨⟨_, rfl⟩, ⟨⟨_, rfl⟩, trivial⟩⟩ (by kernel_rfl) (by kernel_rfl) h
end Go.Proofs.YtpjakokgmgggiaaGreat

/- Laws of layer 1: a fraction is the reference's; plain data. -/
namespace Go.Proofs.YtpjakokgmgggiaaGreat
open Go.RowKit Num W32
open Sy (Up Sees CallsG)
section
variable {k k' : World} {R : World → Value → Prop} {x y q : Rat} {K L : Nat} {cs cs' : Array Value} {g : Bool} {A A' : Option Addr} {l c l' c' : Nat}
theorem Of_s {n d : Int} (hn : In64 n) (hd : In64 d) (C : ∀ k' ds, Up k k' → RatV k' ds (ofQ n d) 1 → R k' (.agg ds)) : ∀ k0, Up k k0 → CallsG Tryz.prog 15 #[.agg #[.int .i64 n, .int .i64 d]] k0 R := by
 intro k0 u0
 refine Of_vc ⟨fun hb => ?_, fun hb => ?_⟩
 · have e : d = 0 := eq_of_beq hb
   refine QInt_s hn.1 hn.2 ?_
   intro k1 c1 u1 h1
   refine ⟨c1, h1.seg, rfl, ?_⟩
   intro k2 u2
   refine C k2 c1 (u0.trans (u1.trans u2)) ?_
   unfold ofQ
   rw [if_pos e]
   exact h1.up u2
 · have e : ¬ d = 0 := by simpa using hb
   refine QNew_s hn.1 hn.2 hd.1 hd.2 ?_
   intro k1 c1 u1 h1
   refine ⟨c1, h1.seg, _, rfl, ?_⟩
   intro k2 u2
   refine C k2 c1 (u0.trans (u1.trans u2)) ?_
   unfold ofQ
   rw [if_neg e]
   exact h1.up u2
end
end Go.Proofs.YtpjakokgmgggiaaGreat

/- Complex numbers of Surds, the turns by 24ths, and their sums. No program. -/
namespace Go.Proofs.YtpjakokgmgggiaaGreat
open Num Plain
structure W4 where
 (re im : Q4)
theorem W4.ext' {x y : W4} (h1 : x.re = y.re) (h2 : x.im = y.im) : x = y := by cases x; cases y; simp_all
instance : DecidableEq Q4 := fun x y => decidable_of_iff (x.a = y.a ∧ x.b = y.b ∧ x.c = y.c ∧ x.d = y.d)
 ⟨fun ⟨h1, h2, h3, h4⟩ => Q4.ext' h1 h2 h3 h4, fun h => by rw [h]; exact ⟨rfl, rfl, rfl, rfl⟩⟩
instance : DecidableEq W4 := fun x y => decidable_of_iff (x.re = y.re ∧ x.im = y.im)
 ⟨fun ⟨h1, h2⟩ => W4.ext' h1 h2, fun h => by rw [h]; exact ⟨rfl, rfl⟩⟩
def W4.add (x y : W4) : W4 := ⟨x.re.add y.re, x.im.add y.im⟩
def W4.sub (x y : W4) : W4 := ⟨x.re.sub y.re, x.im.sub y.im⟩
def W4.mul (x y : W4) : W4 := ⟨(x.re.mul y.re).sub (x.im.mul y.im), (x.re.mul y.im).add (x.im.mul y.re)⟩
def W4.neg (x : W4) : W4 := ⟨x.re.neg, x.im.neg⟩
def W4.conj (x : W4) : W4 := ⟨x.re, x.im.neg⟩
def W4.norm (x : W4) : Q4 := (x.re.mul x.re).add (x.im.mul x.im)
def W4.zero : W4 := ⟨Q4.zero, Q4.zero⟩
def W4.real (q : Rat) : W4 := ⟨Q4.real q, Q4.zero⟩
theorem Q4.sub_zero_iff {x y : Q4} : x.sub y = Q4.zero ↔ x = y := by
 constructor
 · intro h
   have ha := congrArg Q4.a h
   have hb := congrArg Q4.b h
   have hc := congrArg Q4.c h
   have hd := congrArg Q4.d h
   simp only [Q4.sub, Q4.add, Q4.neg, Q4.zero] at ha hb hc hd
   exact Q4.ext' (by grind) (by grind) (by grind) (by grind)
 · intro h
   subst h
   simp only [Q4.sub, Q4.add, Q4.neg, Q4.zero]
   exact Q4.ext' (by grind) (by grind) (by grind) (by grind)
def cosB : Nat → Q4
 | 0 => ⟨1, 0, 0, 0⟩
 | 1 => ⟨0, 1 / 4, 0, 1 / 4⟩
 | 2 => ⟨0, 0, 1 / 2, 0⟩
 | 3 => ⟨0, 1 / 2, 0, 0⟩
 | 4 => ⟨1 / 2, 0, 0, 0⟩
 | 5 => ⟨0, -1 / 4, 0, 1 / 4⟩
 | _ => ⟨0, 0, 0, 0⟩
def cosM (m : Nat) : Q4 := if 6 < m then (cosB (12 - m)).neg else cosB m
def cosQ (n : Nat) : Q4 := if 12 < n then cosM (24 - n) else cosM n
def turnW (n : Nat) : W4 := ⟨cosQ n, cosQ ((n + 18) % 24)⟩
def plc (k : Int) : Nat := (k % 24).toNat
def sumP (k : Nat) : Nat → W4
 | 0 => W4.zero
 | j + 1 => (sumP k j).add (turnW (j * k % 24))
def q4s (q : Rat) : Bool := (4 * q).den == 1 && decide ((4 * q).num.natAbs ≤ 1000)
def Q4.small (v : Q4) : Bool := q4s v.a && q4s v.b && q4s v.c && q4s v.d
def W4.small (v : W4) : Bool := v.re.small && v.im.small
end Go.Proofs.YtpjakokgmgggiaaGreat

/- Quotients of Surds and of complex numbers. No program. -/
namespace Go.Proofs.YtpjakokgmgggiaaGreat
open Num Plain
def Q4.t1 (y : Q4) : Q4 := ⟨y.a, -y.b, y.c, -y.d⟩
def Q4.t2 (y : Q4) : Q4 := ⟨y.a, y.b, -y.c, -y.d⟩
def Q4.cnj (y : Q4) : Q4 := (y.t1.mul y.t2).mul y.t1.t2
def Q4.div (x y : Q4) : Q4 := ⟨(x.mul y.cnj).a / (y.mul y.cnj).a, (x.mul y.cnj).b / (y.mul y.cnj).a, (x.mul y.cnj).c / (y.mul y.cnj).a, (x.mul y.cnj).d / (y.mul y.cnj).a⟩
theorem Q4.cnj_norm (y : Q4) : (y.mul y.cnj).b = 0 ∧ (y.mul y.cnj).c = 0 ∧ (y.mul y.cnj).d = 0 := by
 obtain ⟨a, b, c, d⟩ := y
 simp only [Q4.cnj, Q4.mul, Q4.t1, Q4.t2]
 refine ⟨?_, ?_, ?_⟩ <;> grind
theorem Q4.t1_ne {y : Q4} (h : y ≠ Q4.zero) : y.t1 ≠ Q4.zero := fun e => h (by
 have ha := congrArg Q4.a e
 have hb := congrArg Q4.b e
 have hc := congrArg Q4.c e
 have hd := congrArg Q4.d e
 simp only [Q4.t1, Q4.zero] at ha hb hc hd
 exact Q4.ext' ha (by show y.b = 0; grind) hc (by show y.d = 0; grind))
theorem Q4.t2_ne {y : Q4} (h : y ≠ Q4.zero) : y.t2 ≠ Q4.zero := fun e => h (by
 have ha := congrArg Q4.a e
 have hb := congrArg Q4.b e
 have hc := congrArg Q4.c e
 have hd := congrArg Q4.d e
 simp only [Q4.t2, Q4.zero] at ha hb hc hd
 exact Q4.ext' ha hb (by show y.c = 0; grind) (by show y.d = 0; grind))
theorem Q4.norm_ne {y : Q4} (h : y ≠ Q4.zero) : (y.mul y.cnj).a ≠ 0 := by
 intro ha
 obtain ⟨hb, hc, hd⟩ := Q4.cnj_norm y
 have e : y.mul y.cnj = Q4.zero := Q4.ext' ha hb hc hd
 have e2 : y.toQ * ((y.t1.toQ * y.t2.toQ) * y.t1.t2.toQ) = 0 := by
   rw [← toQ_mul, ← toQ_mul, ← toQ_mul]
   exact (congrArg Q4.toQ e).trans toQ_zero
 exact C.mul_ne (e4_ne.2 h) (C.mul_ne (C.mul_ne (e4_ne.2 (Q4.t1_ne h)) (e4_ne.2 (Q4.t2_ne h))) (e4_ne.2 (Q4.t2_ne (Q4.t1_ne h)))) e2
theorem Q4.div_mul {x y : Q4} (h : y ≠ Q4.zero) : (x.div y).toQ * y.toQ = x.toQ := by
 have hn := Q4.norm_ne h
 obtain ⟨hb, hc, hd⟩ := Q4.cnj_norm y
 have e2 : y.toQ * y.cnj.toQ = em (y.mul y.cnj).a := by
   rw [← toQ_mul]
   show e4 _ _ _ _ = e4 _ 0 0 0
   rw [hb, hc, hd]
 have e1 : (x.div y).toQ = (x.toQ * y.cnj.toQ) * em (1 / (y.mul y.cnj).a) := by
   rw [← toQ_mul]
   show e4 _ _ _ _ = e4 _ _ _ _ * _
   rw [e4_em]
   simp only [Rat.div_def, Rat.one_mul]
   rfl
 have e3 : em (y.mul y.cnj).a * em (1 / (y.mul y.cnj).a) = 1 := by
   rw [em_mul, Rat.div_def, Rat.one_mul, Rat.mul_inv_cancel _ hn, em_one]
 rw [e1]
 generalize em (1 / (y.mul y.cnj).a) = r at e3 ⊢
 rw [← e2] at e3
 generalize x.toQ = a at e3 ⊢
 generalize y.toQ = b at e3 ⊢
 generalize y.cnj.toQ = c at e3 ⊢
 have e4 : (a * c * r) * b = a * (b * c * r) := by
   (refine Q23.ext' (Q2.ext' ?_ ?_) (Q2.ext' ?_ ?_) <;> (simp only [Q23.mul_re, Q23.mul_im, Q2.add_re, Q2.add_im, Q2.mul_re, Q2.mul_im, Q2.three_re, Q2.three_im]; grind))
 rw [e4, e3]
 (refine Q23.ext' (Q2.ext' ?_ ?_) (Q2.ext' ?_ ?_) <;> (simp only [Q23.mul_re, Q23.mul_im, Q23.one_re, Q23.one_im, Q2.add_re, Q2.add_im, Q2.mul_re, Q2.mul_im, Q2.one_re, Q2.one_im, Q2.zero_re, Q2.zero_im, Q2.three_re, Q2.three_im]; grind))
theorem Q4.div_uniq {x y q : Q4} (h : y ≠ Q4.zero) (hq : q.toQ * y.toQ = x.toQ) : q = x.div y := by
 have e := Q4.div_mul (x := x) h
 apply toQ_inj
 have e1 : (q.sub (x.div y)).toQ * y.toQ = 0 := by
   rw [toQ_sub]
   have : (q.toQ - (x.div y).toQ) * y.toQ = q.toQ * y.toQ - (x.div y).toQ * y.toQ := by
     generalize q.toQ = a
     generalize (x.div y).toQ = b
     generalize y.toQ = c
     (refine Q23.ext' (Q2.ext' ?_ ?_) (Q2.ext' ?_ ?_) <;> (simp only [Q23.mul_re, Q23.mul_im, Q23.sub_re, Q23.sub_im, Q2.add_re, Q2.add_im, Q2.mul_re, Q2.mul_im, Q2.sub_re, Q2.sub_im, Q2.three_re, Q2.three_im]; grind))
   rw [this, hq, e]
   generalize x.toQ = a
   (refine Q23.ext' (Q2.ext' ?_ ?_) (Q2.ext' ?_ ?_) <;> (simp only [Q23.sub_re, Q23.sub_im, Q23.zero_re, Q23.zero_im, Q2.sub_re, Q2.sub_im, Q2.zero_re, Q2.zero_im]; grind))
 have e2 : q.sub (x.div y) = Q4.zero := Classical.byContradiction fun hn => C.mul_ne (e4_ne.2 hn) (e4_ne.2 h) e1
 rw [Q4.sub_zero_iff.1 e2]
theorem Q4.div_zero (x : Q4) : x.div Q4.zero = Q4.zero := by
 have h : (Q4.zero.mul Q4.zero.cnj).a = 0 := by simp only [Q4.cnj, Q4.mul, Q4.zero, Q4.t1, Q4.t2]; grind
 unfold Q4.div
 rw [h]
 refine Q4.ext' ?_ ?_ ?_ ?_ <;> (show _ / (0 : Rat) = 0; rw [Rat.div_def]; simp)
theorem Q4.zero_iff (v : Q4) : decide (v = Q4.zero) = (decide (v.a = 0) && decide (v.b = 0) && decide (v.c = 0) && decide (v.d = 0)) := by
 rw [Bool.eq_iff_iff]
 simp only [Bool.and_eq_true, decide_eq_true_iff]
 constructor
 · intro h; subst h; exact ⟨⟨⟨rfl, rfl⟩, rfl⟩, rfl⟩
 · intro ⟨⟨⟨h1, h2⟩, h3⟩, h4⟩; exact Q4.ext' h1 h2 h3 h4
def W4.div (x y : W4) : W4 := ⟨(x.mul y.conj).re.div y.norm, (x.mul y.conj).im.div y.norm⟩
theorem W4.div_zero (x : W4) : x.div W4.zero = W4.zero := by
 have h : W4.zero.norm = Q4.zero := by
   simp only [W4.norm, W4.zero, Q4.mul, Q4.add, Q4.zero]
   refine Q4.ext' ?_ ?_ ?_ ?_ <;> grind
 unfold W4.div
 rw [h, Q4.div_zero, Q4.div_zero]
 rfl
theorem W4.zero_iff (v : W4) : decide (v = W4.zero) = (decide (v.re = Q4.zero) && decide (v.im = Q4.zero)) := by
 rw [Bool.eq_iff_iff]
 simp only [Bool.and_eq_true, decide_eq_true_iff]
 constructor
 · intro h; subst h; exact ⟨rfl, rfl⟩
 · intro ⟨h1, h2⟩; exact W4.ext' h1 h2
theorem W4.same_iff (v w : W4) : decide (v = w) = (decide (v.re = w.re) && decide (v.im = w.im)) := by
 rw [Bool.eq_iff_iff]
 simp only [Bool.and_eq_true, decide_eq_true_iff]
 constructor
 · intro h; subst h; exact ⟨rfl, rfl⟩
 · intro ⟨h1, h2⟩; exact W4.ext' h1 h2
theorem W4.sub_zero_iff {x y : W4} : x.sub y = W4.zero ↔ x = y := by
 constructor
 · intro h
   exact W4.ext' (Q4.sub_zero_iff.1 (congrArg W4.re h)) (Q4.sub_zero_iff.1 (congrArg W4.im h))
 · intro h
   subst h
   exact W4.ext' (Q4.sub_zero_iff.2 rfl) (Q4.sub_zero_iff.2 rfl)
end Go.Proofs.YtpjakokgmgggiaaGreat

/- What is to be shown of the calls of some functions. (Printed by gen/vc.py.) -/
namespace Go.Proofs.YtpjakokgmgggiaaGreat
open Go.RowKit
open Sy (Up Sees CallsG Seg execFn_use)
set_option maxRecDepth 100000
variable {k : World} {R : World → Value → Prop}
theorem wAdd_vc {cs0 cs1 cs2 cs3 : Array Value} (hcs0 : Seg 9 cs0) (hcs1 : Seg 9 cs1) (hcs2 : Seg 9 cs2) (hcs3 : Seg 9 cs3)
    (h : ∀ k0, Up k k0 → CallsG Tryz.prog 71 #[Value.agg cs0, Value.agg cs2] k0 fun k1 r0 => ∃ cs4, Seg 9 cs4 ∧ some (Value.agg cs4) = some r0 ∧
 ∀ k2, Up k1 k2 → CallsG Tryz.prog 71 #[Value.agg cs1, Value.agg cs3] k2 fun k3 r2 => ∃ cs5, Seg 9 cs5 ∧ some (Value.agg cs5) = some r2 ∧
 ∀ k4, Up k3 k4 → R k4 (Value.agg (cs4.toList ++ (cs5.toList ++ ([]))).toArray)) :
    CallsG Tryz.prog 40 #[Value.agg (cs0.toList ++ (cs1.toList ++ ([]))).toArray, Value.agg (cs2.toList ++ (cs3.toList ++ ([]))).toArray] k R :=
  execFn_use (cfg := { opq := [57] }) (args := [.agg [.seg 0 9, .seg 1 9], .agg [.seg 2 9, .seg 3 9]]) (vals := [Value.agg cs0, Value.agg cs1, Value.agg cs2, Value.agg cs3]) (kinds := [.seg 9, .seg 9, .seg 9, .seg 9]) (by kernel_rfl) ⟨⟨cs0, rfl, hcs0⟩, ⟨⟨cs1, rfl, hcs1⟩, ⟨⟨cs2, rfl, hcs2⟩, ⟨⟨cs3, rfl, hcs3⟩, trivial⟩⟩⟩⟩ (by kernel_rfl) (by kernel_rfl) h
theorem wSub_vc {cs0 cs1 cs2 cs3 : Array Value} (hcs0 : Seg 9 cs0) (hcs1 : Seg 9 cs1) (hcs2 : Seg 9 cs2) (hcs3 : Seg 9 cs3)
    (h : ∀ k0, Up k k0 → CallsG Tryz.prog 73 #[Value.agg cs0, Value.agg cs2] k0 fun k1 r0 => ∃ cs4, Seg 9 cs4 ∧ some (Value.agg cs4) = some r0 ∧
 ∀ k2, Up k1 k2 → CallsG Tryz.prog 73 #[Value.agg cs1, Value.agg cs3] k2 fun k3 r2 => ∃ cs5, Seg 9 cs5 ∧ some (Value.agg cs5) = some r2 ∧
 ∀ k4, Up k3 k4 → R k4 (Value.agg (cs4.toList ++ (cs5.toList ++ ([]))).toArray)) :
    CallsG Tryz.prog 42 #[Value.agg (cs0.toList ++ (cs1.toList ++ ([]))).toArray, Value.agg (cs2.toList ++ (cs3.toList ++ ([]))).toArray] k R :=
  execFn_use (cfg := { opq := [57] }) (args := [.agg [.seg 0 9, .seg 1 9], .agg [.seg 2 9, .seg 3 9]]) (vals := [Value.agg cs0, Value.agg cs1, Value.agg cs2, Value.agg cs3]) (kinds := [.seg 9, .seg 9, .seg 9, .seg 9]) (by kernel_rfl) ⟨⟨cs0, rfl, hcs0⟩, ⟨⟨cs1, rfl, hcs1⟩, ⟨⟨cs2, rfl, hcs2⟩, ⟨⟨cs3, rfl, hcs3⟩, trivial⟩⟩⟩⟩ (by kernel_rfl) (by kernel_rfl) h
theorem wMul_vc {cs0 cs1 cs2 cs3 : Array Value} (hcs0 : Seg 9 cs0) (hcs1 : Seg 9 cs1) (hcs2 : Seg 9 cs2) (hcs3 : Seg 9 cs3)
    (h : ∀ k0, Up k k0 → CallsG Tryz.prog 75 #[Value.agg cs0, Value.agg cs2] k0 fun k1 r0 => ∃ cs4, Seg 9 cs4 ∧ some (Value.agg cs4) = some r0 ∧
 ∀ k2, Up k1 k2 → CallsG Tryz.prog 75 #[Value.agg cs1, Value.agg cs3] k2 fun k3 r2 => ∃ cs5, Seg 9 cs5 ∧ some (Value.agg cs5) = some r2 ∧
 ∀ k4, Up k3 k4 → CallsG Tryz.prog 73 #[Value.agg cs4, Value.agg cs5] k4 fun k5 r4 => ∃ cs6, Seg 9 cs6 ∧ some (Value.agg cs6) = some r4 ∧
 ∀ k6, Up k5 k6 → CallsG Tryz.prog 75 #[Value.agg cs0, Value.agg cs3] k6 fun k7 r6 => ∃ cs7, Seg 9 cs7 ∧ some (Value.agg cs7) = some r6 ∧
 ∀ k8, Up k7 k8 → CallsG Tryz.prog 75 #[Value.agg cs1, Value.agg cs2] k8 fun k9 r8 => ∃ cs8, Seg 9 cs8 ∧ some (Value.agg cs8) = some r8 ∧
 ∀ k10, Up k9 k10 → CallsG Tryz.prog 71 #[Value.agg cs7, Value.agg cs8] k10 fun k11 r10 => ∃ cs9, Seg 9 cs9 ∧ some (Value.agg cs9) = some r10 ∧
 ∀ k12, Up k11 k12 → R k12 (Value.agg (cs6.toList ++ (cs9.toList ++ ([]))).toArray)) :
    CallsG Tryz.prog 44 #[Value.agg (cs0.toList ++ (cs1.toList ++ ([]))).toArray, Value.agg (cs2.toList ++ (cs3.toList ++ ([]))).toArray] k R :=
  execFn_use (cfg := { opq := [57] }) (args := [.agg [.seg 0 9, .seg 1 9], .agg [.seg 2 9, .seg 3 9]]) (vals := [Value.agg cs0, Value.agg cs1, Value.agg cs2, Value.agg cs3]) (kinds := [.seg 9, .seg 9, .seg 9, .seg 9]) (by kernel_rfl) ⟨⟨cs0, rfl, hcs0⟩, ⟨⟨cs1, rfl, hcs1⟩, ⟨⟨cs2, rfl, hcs2⟩, ⟨⟨cs3, rfl, hcs3⟩, trivial⟩⟩⟩⟩ (by kernel_rfl) (by kernel_rfl) h
theorem wNeg_vc {cs0 cs1 : Array Value} (hcs0 : Seg 9 cs0) (hcs1 : Seg 9 cs1)
    (h : ∀ k0, Up k k0 → CallsG Tryz.prog 83 #[Value.agg cs0] k0 fun k1 r0 => ∃ cs2, Seg 9 cs2 ∧ some (Value.agg cs2) = some r0 ∧
 ∀ k2, Up k1 k2 → CallsG Tryz.prog 83 #[Value.agg cs1] k2 fun k3 r2 => ∃ cs3, Seg 9 cs3 ∧ some (Value.agg cs3) = some r2 ∧
 ∀ k4, Up k3 k4 → R k4 (Value.agg (cs2.toList ++ (cs3.toList ++ ([]))).toArray)) :
    CallsG Tryz.prog 46 #[Value.agg (cs0.toList ++ (cs1.toList ++ ([]))).toArray] k R :=
  execFn_use (cfg := { opq := [57] }) (args := [.agg [.seg 0 9, .seg 1 9]]) (vals := [Value.agg cs0, Value.agg cs1]) (kinds := [.seg 9, .seg 9]) (by kernel_rfl) ⟨⟨cs0, rfl, hcs0⟩, ⟨⟨cs1, rfl, hcs1⟩, trivial⟩⟩ (by kernel_rfl) (by kernel_rfl) h
theorem wConj_vc {cs0 cs1 : Array Value} (hcs0 : Seg 9 cs0) (hcs1 : Seg 9 cs1)
    (h : ∀ k0, Up k k0 → CallsG Tryz.prog 83 #[Value.agg cs1] k0 fun k1 r0 => ∃ cs2, Seg 9 cs2 ∧ some (Value.agg cs2) = some r0 ∧
 ∀ k2, Up k1 k2 → R k2 (Value.agg (cs0.toList ++ (cs2.toList ++ ([]))).toArray)) :
    CallsG Tryz.prog 48 #[Value.agg (cs0.toList ++ (cs1.toList ++ ([]))).toArray] k R :=
  execFn_use (cfg := { opq := [57] }) (args := [.agg [.seg 0 9, .seg 1 9]]) (vals := [Value.agg cs0, Value.agg cs1]) (kinds := [.seg 9, .seg 9]) (by kernel_rfl) ⟨⟨cs0, rfl, hcs0⟩, ⟨⟨cs1, rfl, hcs1⟩, trivial⟩⟩ (by kernel_rfl) (by kernel_rfl) h
theorem wZero_vc {cs0 cs1 : Array Value} (hcs0 : Seg 9 cs0) (hcs1 : Seg 9 cs1)
    (h : ∀ k0, Up k k0 → CallsG Tryz.prog 90 #[Value.agg cs0] k0 fun k1 r0 => ∃ b2, some (Value.bool b2) = some r0 ∧
 (b2 = true →
 (∀ k2, Up k1 k2 → CallsG Tryz.prog 90 #[Value.agg cs1] k2 fun k3 r2 => ∃ b3, some (Value.bool b3) = some r2 ∧
 ∀ k4, Up k3 k4 → R k4 (Value.bool b3))) ∧
 (b2 = false →
 (∀ k5, Up k1 k5 → R k5 (Value.bool false)))) :
    CallsG Tryz.prog 55 #[Value.agg (cs0.toList ++ (cs1.toList ++ ([]))).toArray] k R :=
  execFn_use (cfg := { opq := [57] }) (args := [.agg [.seg 0 9, .seg 1 9]]) (vals := [Value.agg cs0, Value.agg cs1]) (kinds := [.seg 9, .seg 9]) (by kernel_rfl) ⟨⟨cs0, rfl, hcs0⟩, ⟨⟨cs1, rfl, hcs1⟩, trivial⟩⟩ (by kernel_rfl) (by kernel_rfl) h
theorem wSame_vc {cs0 cs1 cs2 cs3 : Array Value} (hcs0 : Seg 9 cs0) (hcs1 : Seg 9 cs1) (hcs2 : Seg 9 cs2) (hcs3 : Seg 9 cs3)
    (h : ∀ k0, Up k k0 → CallsG Tryz.prog 88 #[Value.agg cs0, Value.agg cs2] k0 fun k1 r0 => ∃ b4, some (Value.bool b4) = some r0 ∧
 (b4 = true →
 (∀ k2, Up k1 k2 → CallsG Tryz.prog 88 #[Value.agg cs1, Value.agg cs3] k2 fun k3 r2 => ∃ b5, some (Value.bool b5) = some r2 ∧
 ∀ k4, Up k3 k4 → R k4 (Value.bool b5))) ∧
 (b4 = false →
 (∀ k5, Up k1 k5 → R k5 (Value.bool false)))) :
    CallsG Tryz.prog 53 #[Value.agg (cs0.toList ++ (cs1.toList ++ ([]))).toArray, Value.agg (cs2.toList ++ (cs3.toList ++ ([]))).toArray] k R :=
  execFn_use (cfg := { opq := [57] }) (args := [.agg [.seg 0 9, .seg 1 9], .agg [.seg 2 9, .seg 3 9]]) (vals := [Value.agg cs0, Value.agg cs1, Value.agg cs2, Value.agg cs3]) (kinds := [.seg 9, .seg 9, .seg 9, .seg 9]) (by kernel_rfl) ⟨⟨cs0, rfl, hcs0⟩, ⟨⟨cs1, rfl, hcs1⟩, ⟨⟨cs2, rfl, hcs2⟩, ⟨⟨cs3, rfl, hcs3⟩, trivial⟩⟩⟩⟩ (by kernel_rfl) (by kernel_rfl) h
theorem wNorm_vc {cs0 cs1 : Array Value} (hcs0 : Seg 9 cs0) (hcs1 : Seg 9 cs1)
    (h : ∀ k0, Up k k0 → CallsG Tryz.prog 75 #[Value.agg cs0, Value.agg cs0] k0 fun k1 r0 => ∃ cs2, Seg 9 cs2 ∧ some (Value.agg cs2) = some r0 ∧
 ∀ k2, Up k1 k2 → CallsG Tryz.prog 75 #[Value.agg cs1, Value.agg cs1] k2 fun k3 r2 => ∃ cs3, Seg 9 cs3 ∧ some (Value.agg cs3) = some r2 ∧
 ∀ k4, Up k3 k4 → CallsG Tryz.prog 71 #[Value.agg cs2, Value.agg cs3] k4 fun k5 r4 => ∃ cs4, Seg 9 cs4 ∧ some (Value.agg cs4) = some r4 ∧
 ∀ k6, Up k5 k6 → R k6 (Value.agg cs4)) :
    CallsG Tryz.prog 51 #[Value.agg (cs0.toList ++ (cs1.toList ++ ([]))).toArray] k R :=
  execFn_use (cfg := { opq := [57] }) (args := [.agg [.seg 0 9, .seg 1 9]]) (vals := [Value.agg cs0, Value.agg cs1]) (kinds := [.seg 9, .seg 9]) (by kernel_rfl) ⟨⟨cs0, rfl, hcs0⟩, ⟨⟨cs1, rfl, hcs1⟩, trivial⟩⟩ (by kernel_rfl) (by kernel_rfl) h
theorem wDiv_vc {cs0 cs1 cs2 cs3 : Array Value} (hcs0 : Seg 9 cs0) (hcs1 : Seg 9 cs1) (hcs2 : Seg 9 cs2) (hcs3 : Seg 9 cs3)
    (h : ∀ k0, Up k k0 → CallsG Tryz.prog 55 #[Value.agg (cs2.toList ++ (cs3.toList ++ ([]))).toArray] k0 fun k1 r0 => ∃ b4, some (Value.bool b4) = some r0 ∧
 (b4 = true →
 (∀ k2, Up k1 k2 → R k2 (Value.tuple #[Value.agg #[Value.bool false, Value.slice none 0 0, Value.bool false, Value.slice none 0 0, Value.bool false, Value.slice none 0 0, Value.bool false, Value.slice none 0 0, Value.slice none 0 0, Value.bool false, Value.slice none 0 0, Value.bool false, Value.slice none 0 0, Value.bool false, Value.slice none 0 0, Value.bool false, Value.slice none 0 0, Value.slice none 0 0], Value.int .i64 3]))) ∧
 (b4 = false →
 (∀ k3, Up k1 k3 → CallsG Tryz.prog 48 #[Value.agg (cs2.toList ++ (cs3.toList ++ ([]))).toArray] k3 fun k4 r3 => ∃ cs5, Seg 9 cs5 ∧ ∃ cs6, Seg 9 cs6 ∧ some (Value.agg (cs5.toList ++ (cs6.toList ++ ([]))).toArray) = some r3 ∧
 ∀ k5, Up k4 k5 → CallsG Tryz.prog 44 #[Value.agg (cs0.toList ++ (cs1.toList ++ ([]))).toArray, Value.agg (cs5.toList ++ (cs6.toList ++ ([]))).toArray] k5 fun k6 r5 => ∃ cs7, Seg 9 cs7 ∧ ∃ cs8, Seg 9 cs8 ∧ some (Value.agg (cs7.toList ++ (cs8.toList ++ ([]))).toArray) = some r5 ∧
 ∀ k7, Up k6 k7 → CallsG Tryz.prog 51 #[Value.agg (cs2.toList ++ (cs3.toList ++ ([]))).toArray] k7 fun k8 r7 => ∃ cs9, Seg 9 cs9 ∧ some (Value.agg cs9) = some r7 ∧
 ∀ k9, Up k8 k9 → CallsG Tryz.prog 69 #[Value.agg cs7, Value.agg cs9] k9 fun k10 r9 => ∃ cs10, Seg 9 cs10 ∧ ∃ n11, some (Value.tuple #[Value.agg cs10, Value.int .i64 n11]) = some r9 ∧
 ∀ k11, Up k10 k11 → CallsG Tryz.prog 69 #[Value.agg cs8, Value.agg cs9] k11 fun k12 r11 => ∃ cs12, Seg 9 cs12 ∧ ∃ n13, some (Value.tuple #[Value.agg cs12, Value.int .i64 n13]) = some r11 ∧
 ∀ k13, Up k12 k13 → R k13 (Value.tuple #[Value.agg (cs10.toList ++ (cs12.toList ++ ([]))).toArray, Value.int .i64 0])))) :
    CallsG Tryz.prog 37 #[Value.agg (cs0.toList ++ (cs1.toList ++ ([]))).toArray, Value.agg (cs2.toList ++ (cs3.toList ++ ([]))).toArray] k R :=
  execFn_use (cfg := { opq := [57] }) (args := [.agg [.seg 0 9, .seg 1 9], .agg [.seg 2 9, .seg 3 9]]) (vals := [Value.agg cs0, Value.agg cs1, Value.agg cs2, Value.agg cs3]) (kinds := [.seg 9, .seg 9, .seg 9, .seg 9]) (by kernel_rfl) ⟨⟨cs0, rfl, hcs0⟩, ⟨⟨cs1, rfl, hcs1⟩, ⟨⟨cs2, rfl, hcs2⟩, ⟨⟨cs3, rfl, hcs3⟩, trivial⟩⟩⟩⟩ (by kernel_rfl) (by kernel_rfl) h
theorem wRe_vc {cs0 cs1 : Array Value} (hcs0 : Seg 9 cs0) (hcs1 : Seg 9 cs1)
   (h : ∀ k0, Up k k0 → R k0 (Value.agg cs0)) :
   CallsG Tryz.prog 149 #[Value.agg (cs0.toList ++ (cs1.toList ++ ([]))).toArray] k R :=
 execFn_use (cfg := { opq := [57] }) (args := [.agg [.seg 0 9, .seg 1 9]]) (vals := [Value.agg cs0, Value.agg cs1]) (kinds := [.seg 9, .seg 9]) (by kernel_rfl) ⟨⟨cs0, rfl, hcs0⟩, ⟨⟨cs1, rfl, hcs1⟩, trivial⟩⟩ (by kernel_rfl) (by kernel_rfl) h
theorem wIm_vc {cs0 cs1 : Array Value} (hcs0 : Seg 9 cs0) (hcs1 : Seg 9 cs1)
   (h : ∀ k0, Up k k0 → R k0 (Value.agg cs1)) :
   CallsG Tryz.prog 150 #[Value.agg (cs0.toList ++ (cs1.toList ++ ([]))).toArray] k R :=
 execFn_use (cfg := { opq := [57] }) (args := [.agg [.seg 0 9, .seg 1 9]]) (vals := [Value.agg cs0, Value.agg cs1]) (kinds := [.seg 9, .seg 9]) (by kernel_rfl) ⟨⟨cs0, rfl, hcs0⟩, ⟨⟨cs1, rfl, hcs1⟩, trivial⟩⟩ (by kernel_rfl) (by kernel_rfl) h
theorem wOf_vc {cs0 cs1 cs2 : Array Value} (hcs0 : Seg 9 cs0) (hcs1 : Seg 9 cs1) (hcs2 : Seg 3 cs2)
    (h : ∀ k0, Up k k0 → CallsG Tryz.prog 81 #[Value.agg cs0, Value.agg cs2] k0 fun k1 r0 => ∃ cs3, Seg 9 cs3 ∧ some (Value.agg cs3) = some r0 ∧
 ∀ k2, Up k1 k2 → R k2 (Value.agg (cs3.toList ++ ((Value.bool false) :: ((Value.slice none 0 0) :: ((Value.bool false) :: ((Value.slice none 0 0) :: ((Value.bool false) :: ((Value.slice none 0 0) :: ((Value.bool false) :: ((Value.slice none 0 0) :: ((Value.slice none 0 0) :: ([]))))))))))).toArray)) :
    CallsG Tryz.prog 57 #[Value.agg (cs0.toList ++ (cs1.toList ++ ([]))).toArray, Value.agg cs2] k R :=
  execFn_use (cfg := { opq := [57, 30] }) (args := [.agg [.seg 0 9, .seg 1 9], .agg [.seg 2 3]]) (vals := [Value.agg cs0, Value.agg cs1, Value.agg cs2]) (kinds := [.seg 9, .seg 9, .seg 3]) (by kernel_rfl) ⟨⟨cs0, rfl, hcs0⟩, ⟨⟨cs1, rfl, hcs1⟩, ⟨⟨cs2, rfl, hcs2⟩, trivial⟩⟩⟩ (by kernel_rfl) (by kernel_rfl) h
theorem pair_vc {cs0 cs1 : Array Value} (hcs0 : Seg 9 cs0) (hcs1 : Seg 9 cs1)
   (h : ∀ k0, Up k k0 → R k0 (Value.agg (cs0.toList ++ (cs1.toList ++ ([]))).toArray)) :
   CallsG Tryz.prog 148 #[Value.agg cs0, Value.agg cs1] k R :=
 execFn_use (cfg := { opq := [57] }) (args := [.agg [.seg 0 9], .agg [.seg 1 9]]) (vals := [Value.agg cs0, Value.agg cs1]) (kinds := [.seg 9, .seg 9]) (by kernel_rfl) ⟨⟨cs0, rfl, hcs0⟩, ⟨⟨cs1, rfl, hcs1⟩, trivial⟩⟩ (by kernel_rfl) (by kernel_rfl) h
end Go.Proofs.YtpjakokgmgggiaaGreat

/- Waves of the program. (Printed by gen/waves.py.) -/
namespace Go.Proofs.YtpjakokgmgggiaaGreat
open Go.RowKit Num Plain
open Sy (Up Sees CallsG Seg)
def cat2 (c0 c1 : Array Value) : Array Value := (c0.toList ++ (c1.toList ++ ([]))).toArray
theorem seg_cat2 {m n : Nat} {c0 c1 : Array Value} (h0 : Seg m c0) (h1 : Seg n c1) : Seg (m + n) (cat2 c0 c1) := by
 obtain ⟨a0, b0⟩ := h0
 obtain ⟨a1, b1⟩ := h1
 refine ⟨by simp [cat2, a0, a1], fun u hu => ?_⟩
 simp only [cat2, List.append_nil, List.mem_append] at hu
 rcases hu with hu | hu
 · exact b0 u hu
 · exact b1 u hu
def WaveV (k : World) (cs : Array Value) (w : W4) (K : Nat) : Prop := ∃ c0 c1 : Array Value, cs = cat2 c0 c1 ∧ SurdV k c0 w.re K ∧ SurdV k c1 w.im K
section
variable {k k' : World} {cs cs' c0 c1 : Array Value} {R : World → Value → Prop} {v v' : Q4} {x y : W4} {K L : Nat}
theorem WaveV.up (h : WaveV k cs x K) (u : Up k k') : WaveV k' cs x K := by
 obtain ⟨c0, c1, e, h0, h1⟩ := h
 exact ⟨c0, c1, e, h0.up u, h1.up u⟩
theorem WaveV.seg (h : WaveV k cs x K) : Seg 18 cs := by
 obtain ⟨c0, c1, rfl, h0, h1⟩ := h
 exact seg_cat2 h0.seg h1.seg
theorem SZero_d (hx : SurdV k cs v K) (hK : K ≤ 268435456) (C : ∀ k', Up k k' → R k' (.bool (decide (v = Q4.zero)))) :
   ∀ k0, Up k k0 → CallsG Tryz.prog 90 #[.agg cs] k0 R :=
 SZero_s hx hK fun k' u b hb => by
   have e : b = decide (v = Q4.zero) := by rw [Bool.eq_iff_iff, hb, decide_eq_true_iff]
   rw [e]; exact C k' u
theorem SSame_d (hx : SurdV k cs v K) (hy : SurdV k cs' v' K) (hK1 : 1 ≤ K) (hK : K ≤ 134217727) (C : ∀ k', Up k k' → R k' (.bool (decide (v = v')))) :
   ∀ k0, Up k k0 → CallsG Tryz.prog 88 #[.agg cs, .agg cs'] k0 R :=
 SSame_s hx hy hK1 hK fun k' u b hb => by
   have e : b = decide (v = v') := by rw [Bool.eq_iff_iff, hb, decide_eq_true_iff, Q4.sub_zero_iff]
   rw [e]; exact C k' u
theorem SDiv_z (hx : SurdV k cs v K) (hy : SurdV k cs' v' K) (hz : v' = Q4.zero) (hK : K ≤ 33554431) (C : ∀ k', Up k k' → R k' (.tuple #[.agg #[.bool false, .slice none 0 0, .bool false, .slice none 0 0, .bool false, .slice none 0 0, .bool false, .slice none 0 0, .slice none 0 0], .int .i64 3])) :
   ∀ k0, Up k k0 → CallsG Tryz.prog 69 #[.agg cs, .agg cs'] k0 R := by
 intro k0 u0
 obtain ⟨_, _, _, _, D, d, e, x0, x1, x2, x3, m, rfl, hm, hg, rfl, i0, i1, i2, i3, lx, hd⟩ := hx.up u0
 have hy' := hy.up u0
 obtain ⟨_, _, _, _, D', d', e', y0, y1, y2, y3, n, rfl, hn, hg', rfl, j0, j1, j2, j3, ly, hd'⟩ := hy'
 obtain ⟨bx0, Ax0, nx0, cx0, rfl, i0⟩ := i0.dest
 obtain ⟨by0, Ay0, ny0, cy0, rfl, j0⟩ := j0.dest
 obtain ⟨bx1, Ax1, nx1, cx1, rfl, i1⟩ := i1.dest
 obtain ⟨by1, Ay1, ny1, cy1, rfl, j1⟩ := j1.dest
 obtain ⟨bx2, Ax2, nx2, cx2, rfl, i2⟩ := i2.dest
 obtain ⟨by2, Ay2, ny2, cy2, rfl, j2⟩ := j2.dest
 obtain ⟨bx3, Ax3, nx3, cx3, rfl, i3⟩ := i3.dest
 obtain ⟨by3, Ay3, ny3, cy3, rfl, j3⟩ := j3.dest
 replace hy := hy.up u0
 replace C := fun k' u => C k' (u0.trans u)
 refine SDiv_vc2 ?_
 refine SZero_s hy (by omega) ?_
 intro k1 u1 b hb
 refine ⟨b, rfl, fun _ k2 u2 => C k2 (u1.trans u2), fun hbf => ?_⟩
 rw [hb.2 hz] at hbf
 cases hbf
theorem SDiv_d (hx : SurdV k cs v K) (hy : SurdV k cs' v' K) (hK1 : 1 ≤ K) (hK : K ≤ 33554431)
   (C : ∀ k' ds, Up k k' → SurdV k' ds (v.div v') (5 * K + 12) → R k' (.tuple #[.agg ds, .int .i64 (if v' = Q4.zero then 3 else 0)])) :
   ∀ k0, Up k k0 → CallsG Tryz.prog 69 #[.agg cs, .agg cs'] k0 R := by
 by_cases hz : v' = Q4.zero
 · rw [if_pos hz, hz, Q4.div_zero] at C
   exact SDiv_z hx hy hz hK (fun k' u => C k' _ u (SurdV.nil (Nat.zero_le _)))
 · rw [if_neg hz] at C
   refine SDiv_s hx hy hK1 hK (fun k' u h => absurd h hz) (fun k' ds q u h e => ?_)
   rw [Q4.div_uniq hz e] at h
   exact C k' ds u (h.mono (by omega))
theorem WAdd_s (hx : WaveV k cs x K) (hy : WaveV k cs' y K) (hK1 : 1 ≤ K) (hK : K ≤ 134217727) (C : ∀ k' ds, Up k k' → WaveV k' ds (x.add y) (2 * K + 1) → R k' (.agg ds)) :
   ∀ k0, Up k k0 → CallsG Tryz.prog 40 #[.agg cs, .agg cs'] k0 R := by
 intro k0 u0
 obtain ⟨a, b, rfl, a0, b0⟩ := hx.up u0
 obtain ⟨c, d, rfl, c0, d0⟩ := hy.up u0
 refine wAdd_vc a0.seg b0.seg c0.seg d0.seg ?_
 refine SAdd_s a0 c0 hK1 (by omega) fun k1 e1 u1 h1 => ⟨e1, h1.seg, rfl, ?_⟩
 refine SAdd_s (b0.up u1) (d0.up u1) hK1 (by omega) fun k3 e3 u3 h3 => ⟨e3, h3.seg, rfl, fun k4 u4 => ?_⟩
 exact C k4 _ (((u0.trans u1).trans u3).trans u4) ⟨e1, e3, rfl, (h1.up u3).up u4, h3.up u4⟩
theorem WSub_s (hx : WaveV k cs x K) (hy : WaveV k cs' y K) (hK1 : 1 ≤ K) (hK : K ≤ 134217727) (C : ∀ k' ds, Up k k' → WaveV k' ds (x.sub y) (2 * K + 1) → R k' (.agg ds)) :
   ∀ k0, Up k k0 → CallsG Tryz.prog 42 #[.agg cs, .agg cs'] k0 R := by
 intro k0 u0
 obtain ⟨a, b, rfl, a0, b0⟩ := hx.up u0
 obtain ⟨c, d, rfl, c0, d0⟩ := hy.up u0
 refine wSub_vc a0.seg b0.seg c0.seg d0.seg ?_
 refine SSub_s a0 c0 hK1 (by omega) fun k1 e1 u1 h1 => ⟨e1, h1.seg, rfl, ?_⟩
 refine SSub_s (b0.up u1) (d0.up u1) hK1 (by omega) fun k3 e3 u3 h3 => ⟨e3, h3.seg, rfl, fun k4 u4 => ?_⟩
 exact C k4 _ (((u0.trans u1).trans u3).trans u4) ⟨e1, e3, rfl, (h1.up u3).up u4, h3.up u4⟩
theorem WMul_s (hx : WaveV k cs x K) (hy : WaveV k cs' y K) (hK1 : 1 ≤ K) (hK : K ≤ 33554431) (C : ∀ k' ds, Up k k' → WaveV k' ds (x.mul y) (4 * K + 9) → R k' (.agg ds)) :
   ∀ k0, Up k k0 → CallsG Tryz.prog 44 #[.agg cs, .agg cs'] k0 R := by
 intro k0 u0
 obtain ⟨a, b, rfl, a0, b0⟩ := hx.up u0
 obtain ⟨c, d, rfl, c0, d0⟩ := hy.up u0
 refine wMul_vc a0.seg b0.seg c0.seg d0.seg ?_
 refine SMul_s a0 c0 hK1 (by omega) fun k1 e1 u1 h1 => ⟨e1, h1.seg, rfl, ?_⟩
 refine SMul_s (b0.up u1) (d0.up u1) hK1 (by omega) fun k2 e2 u2 h2 => ⟨e2, h2.seg, rfl, ?_⟩
 refine SSub_s (h1.up u2) h2 (by omega) (by omega) fun k3 e3 u3 h3 => ⟨e3, h3.seg, rfl, ?_⟩
 have u123 := (u1.trans u2).trans u3
 refine SMul_s (a0.up u123) (d0.up u123) hK1 (by omega) fun k4 e4 u4 h4 => ⟨e4, h4.seg, rfl, ?_⟩
 refine SMul_s (b0.up (u123.trans u4)) (c0.up (u123.trans u4)) hK1 (by omega) fun k5 e5 u5 h5 => ⟨e5, h5.seg, rfl, ?_⟩
 refine SAdd_s (h4.up u5) h5 (by omega) (by omega) fun k6 e6 u6 h6 => ⟨e6, h6.seg, rfl, fun k7 u7 => ?_⟩
 exact C k7 _ (((((u0.trans u123).trans u4).trans u5).trans u6).trans u7) ⟨e3, e6, rfl, ((((h3.up u4).up u5).up u6).up u7).mono (by omega), (h6.up u7).mono (by omega)⟩
theorem WNeg_s (hx : WaveV k cs x K) (hK : K ≤ 268435456) (C : ∀ k' ds, Up k k' → WaveV k' ds x.neg K → R k' (.agg ds)) :
   ∀ k0, Up k k0 → CallsG Tryz.prog 46 #[.agg cs] k0 R := by
 intro k0 u0
 obtain ⟨a, b, rfl, a0, b0⟩ := hx.up u0
 refine wNeg_vc a0.seg b0.seg ?_
 refine SNeg_s a0 hK fun k1 e1 u1 h1 => ⟨e1, h1.seg, rfl, ?_⟩
 refine SNeg_s (b0.up u1) hK fun k2 e2 u2 h2 => ⟨e2, h2.seg, rfl, fun k4 u4 => ?_⟩
 exact C k4 _ (((u0.trans u1).trans u2).trans u4) ⟨e1, e2, rfl, (h1.up u2).up u4, h2.up u4⟩
theorem WConj_s (hx : WaveV k cs x K) (hK : K ≤ 268435456) (C : ∀ k' ds, Up k k' → WaveV k' ds x.conj K → R k' (.agg ds)) :
   ∀ k0, Up k k0 → CallsG Tryz.prog 48 #[.agg cs] k0 R := by
 intro k0 u0
 obtain ⟨a, b, rfl, a0, b0⟩ := hx.up u0
 refine wConj_vc a0.seg b0.seg ?_
 refine SNeg_s b0 hK fun k2 e2 u2 h2 => ⟨e2, h2.seg, rfl, fun k4 u4 => ?_⟩
 exact C k4 _ ((u0.trans u2).trans u4) ⟨a, e2, rfl, (a0.up u2).up u4, h2.up u4⟩
theorem WZero_s (hx : WaveV k cs x K) (hK : K ≤ 268435456) (C : ∀ k', Up k k' → R k' (.bool (decide (x = W4.zero)))) :
   ∀ k0, Up k k0 → CallsG Tryz.prog 55 #[.agg cs] k0 R := by
 intro k0 u0
 obtain ⟨a, b, rfl, a0, b0⟩ := hx.up u0
 rw [W4.zero_iff] at C
 refine wZero_vc a0.seg b0.seg (SZero_d a0 hK fun k1 u1 => ⟨_, rfl, fun h => ?_, fun h k5 u5 => ?_⟩)
 · rw [h] at C
   exact SZero_d (b0.up u1) hK fun k2 u2 => ⟨_, rfl, fun k3 u3 => C k3 (((u0.trans u1).trans u2).trans u3)⟩
 · rw [h] at C
   exact C k5 ((u0.trans u1).trans u5)
theorem WSame_s (hx : WaveV k cs x K) (hy : WaveV k cs' y K) (hK1 : 1 ≤ K) (hK : K ≤ 134217727) (C : ∀ k', Up k k' → R k' (.bool (decide (x = y)))) :
   ∀ k0, Up k k0 → CallsG Tryz.prog 53 #[.agg cs, .agg cs'] k0 R := by
 intro k0 u0
 obtain ⟨a, b, rfl, a0, b0⟩ := hx.up u0
 obtain ⟨c, d, rfl, c0, d0⟩ := hy.up u0
 rw [W4.same_iff] at C
 refine wSame_vc a0.seg b0.seg c0.seg d0.seg (SSame_d a0 c0 hK1 hK fun k1 u1 => ⟨_, rfl, fun h => ?_, fun h k5 u5 => ?_⟩)
 · rw [h] at C
   exact SSame_d (b0.up u1) (d0.up u1) hK1 hK fun k2 u2 => ⟨_, rfl, fun k3 u3 => C k3 (((u0.trans u1).trans u2).trans u3)⟩
 · rw [h] at C
   exact C k5 ((u0.trans u1).trans u5)
theorem WNorm_s (hx : WaveV k cs x K) (hK1 : 1 ≤ K) (hK : K ≤ 33554431) (C : ∀ k' ds, Up k k' → SurdV k' ds x.norm (4 * K + 9) → R k' (.agg ds)) :
   ∀ k0, Up k k0 → CallsG Tryz.prog 51 #[.agg cs] k0 R := by
 intro k0 u0
 obtain ⟨a, b, rfl, a0, b0⟩ := hx.up u0
 refine wNorm_vc a0.seg b0.seg ?_
 refine SMul_s a0 a0 hK1 (by omega) fun k1 e1 u1 h1 => ⟨e1, h1.seg, rfl, ?_⟩
 refine SMul_s (b0.up u1) (b0.up u1) hK1 (by omega) fun k2 e2 u2 h2 => ⟨e2, h2.seg, rfl, ?_⟩
 refine SAdd_s (h1.up u2) h2 (by omega) (by omega) fun k3 e3 u3 h3 => ⟨e3, h3.seg, rfl, fun k4 u4 => ?_⟩
 exact C k4 _ ((((u0.trans u1).trans u2).trans u3).trans u4) ((h3.up u4).mono (by omega))
theorem WRe_s (hx : WaveV k cs x K) (C : ∀ k' ds, Up k k' → SurdV k' ds x.re K → R k' (.agg ds)) :
   ∀ k0, Up k k0 → CallsG Tryz.prog 149 #[.agg cs] k0 R := by
 intro k0 u0
 obtain ⟨a, b, rfl, a0, b0⟩ := hx.up u0
 exact wRe_vc a0.seg b0.seg fun k1 u1 => C k1 _ (u0.trans u1) (a0.up u1)
theorem WIm_s (hx : WaveV k cs x K) (C : ∀ k' ds, Up k k' → SurdV k' ds x.im K → R k' (.agg ds)) :
   ∀ k0, Up k k0 → CallsG Tryz.prog 150 #[.agg cs] k0 R := by
 intro k0 u0
 obtain ⟨a, b, rfl, a0, b0⟩ := hx.up u0
 exact wIm_vc a0.seg b0.seg fun k1 u1 => C k1 _ (u0.trans u1) (b0.up u1)
theorem WOf_s {q : Rat} (hx : WaveV k cs x K) (hy : RatV k cs' q L) (C : ∀ k' ds, Up k k' → WaveV k' ds (W4.real q) L → R k' (.agg ds)) :
   ∀ k0, Up k k0 → CallsG Tryz.prog 57 #[.agg cs, .agg cs'] k0 R := by
 intro k0 u0
 obtain ⟨a, b, rfl, a0, b0⟩ := hx.up u0
 refine wOf_vc a0.seg b0.seg hy.seg (SOf_s a0 (hy.up u0) fun k1 e1 u1 h1 => ⟨e1, h1.seg, rfl, fun k2 u2 => ?_⟩)
 exact C k2 _ ((u0.trans u1).trans u2) ⟨e1, _, rfl, h1.up u2, SurdV.nil (Nat.zero_le _)⟩
theorem pair_s (hx : SurdV k cs v K) (hy : SurdV k cs' v' K) (C : ∀ k' ds, Up k k' → WaveV k' ds ⟨v, v'⟩ K → R k' (.agg ds)) :
   ∀ k0, Up k k0 → CallsG Tryz.prog 148 #[.agg cs, .agg cs'] k0 R :=
 fun _ u0 => pair_vc hx.seg hy.seg fun k1 u1 => C k1 _ (u0.trans u1) ⟨cs, cs', rfl, (hx.up u0).up u1, (hy.up u0).up u1⟩
theorem WDiv_s (hx : WaveV k cs x K) (hy : WaveV k cs' y K) (hK1 : 1 ≤ K) (hK : K ≤ 4194304) (C : ∀ k' ds, Up k k' → WaveV k' ds (x.div y) (20 * K + 57) → R k' (.tuple #[.agg ds, .int .i64 (if y = W4.zero then 3 else 0)])) :
   ∀ k0, Up k k0 → CallsG Tryz.prog 37 #[.agg cs, .agg cs'] k0 R := by
 intro k0 u0
 replace hx := hx.up u0
 replace hy := hy.up u0
 have hx' := hx
 have hy' := hy
 obtain ⟨a, b, rfl, a0, b0⟩ := hx'
 obtain ⟨c, d, rfl, c0, d0⟩ := hy'
 refine wDiv_vc a0.seg b0.seg c0.seg d0.seg (WZero_s hy (by omega) fun k1 u1 => ⟨_, rfl, fun hz k2 u2 => ?_, fun hz => ?_⟩)
 · have hz := of_decide_eq_true hz
   rw [if_pos hz, hz, W4.div_zero] at C
   exact C k2 _ ((u0.trans u1).trans u2) ⟨#[.bool false, .slice none 0 0, .bool false, .slice none 0 0, .bool false, .slice none 0 0, .bool false, .slice none 0 0, .slice none 0 0], #[.bool false, .slice none 0 0, .bool false, .slice none 0 0, .bool false, .slice none 0 0, .bool false, .slice none 0 0, .slice none 0 0], rfl, SurdV.nil (Nat.zero_le _), SurdV.nil (Nat.zero_le _)⟩
 · have hz := of_decide_eq_false hz
   rw [if_neg hz] at C
   refine WConj_s (hy.up u1) (by omega) fun k4 e4 u4 h4 => ?_
   have h4' := h4
   obtain ⟨p, q, rfl, p0, q0⟩ := h4'
   refine ⟨p, p0.seg, q, q0.seg, rfl, ?_⟩
   refine WMul_s ((hx.up u1).up u4) h4 hK1 (by omega) fun k6 e6 u6 h6 => ?_
   obtain ⟨r, s, rfl, r0, s0⟩ := h6
   refine ⟨r, r0.seg, s, s0.seg, rfl, ?_⟩
   refine WNorm_s (((hy.up u1).up u4).up u6) hK1 (by omega) fun k8 e8 u8 h8 => ⟨e8, h8.seg, rfl, ?_⟩
   refine SDiv_d (r0.up u8) h8 (by omega) (by omega) fun k10 e10 u10 h10 => ⟨e10, h10.seg, _, rfl, ?_⟩
   refine SDiv_d ((s0.up u8).up u10) (h8.up u10) (by omega) (by omega) fun k12 e12 u12 h12 => ⟨e12, h12.seg, _, rfl, fun k13 u13 => ?_⟩
   exact C k13 _ (((((((u0.trans u1).trans u4).trans u6).trans u8).trans u10).trans u12).trans u13) ⟨e10, e12, rfl, ((h10.up u12).up u13).mono (by omega), (h12.up u13).mono (by omega)⟩
end
end Go.Proofs.YtpjakokgmgggiaaGreat

/- What is to be shown of the calls of some functions. (Printed by gen/vc.py.) -/
namespace Go.Proofs.YtpjakokgmgggiaaGreat
open Go.RowKit
open Sy (Up Sees CallsG Seg execFn_use)
set_option maxRecDepth 100000
variable {k : World} {R : World → Value → Prop}
theorem qBy_vc {cs0 cs1 : Array Value} (hcs0 : Seg 3 cs0) (hcs1 : Seg 3 cs1)
    (h : ∀ k0, Up k k0 → CallsG Tryz.prog 18 #[Value.agg cs0, Value.agg cs1] k0 fun k1 r0 => ∃ cs2, Seg 3 cs2 ∧ ∃ n3, some (Value.tuple #[Value.agg cs2, Value.int .i64 n3]) = some r0 ∧
 ∀ k2, Up k1 k2 → R k2 (Value.agg cs2)) :
    CallsG Tryz.prog 152 #[Value.agg cs0, Value.agg cs1] k R :=
  execFn_use (cfg := { opq := [34] }) (args := [.agg [.seg 0 3], .agg [.seg 1 3]]) (vals := [Value.agg cs0, Value.agg cs1]) (kinds := [.seg 3, .seg 3]) (by kernel_rfl) ⟨⟨cs0, rfl, hcs0⟩, ⟨⟨cs1, rfl, hcs1⟩, trivial⟩⟩ (by kernel_rfl) (by kernel_rfl) h
theorem sOfQuad_vc {n0 n1 n2 n3 n4 n5 n6 n7 : Int}
    (h : ∀ k0, Up k k0 → CallsG Tryz.prog 16 #[Value.agg #[Value.int .i64 n0, Value.int .i64 n1]] k0 fun k1 r0 => ∃ cs8, Seg 3 cs8 ∧ some (Value.agg cs8) = some r0 ∧
 ∀ k2, Up k1 k2 → CallsG Tryz.prog 16 #[Value.agg #[Value.int .i64 n2, Value.int .i64 n3]] k2 fun k3 r2 => ∃ cs9, Seg 3 cs9 ∧ some (Value.agg cs9) = some r2 ∧
 ∀ k4, Up k3 k4 → CallsG Tryz.prog 16 #[Value.agg #[Value.int .i64 n4, Value.int .i64 n5]] k4 fun k5 r4 => ∃ cs10, Seg 3 cs10 ∧ some (Value.agg cs10) = some r4 ∧
 ∀ k6, Up k5 k6 → CallsG Tryz.prog 16 #[Value.agg #[Value.int .i64 n6, Value.int .i64 n7]] k6 fun k7 r6 => ∃ cs11, Seg 3 cs11 ∧ some (Value.agg cs11) = some r6 ∧
 ∀ k8, Up k7 k8 → R k8 (Value.agg (cs8.toList ++ (cs9.toList ++ (cs10.toList ++ (cs11.toList ++ ([]))))).toArray)) :
    CallsG Tryz.prog 68 #[Value.agg #[Value.int .i64 n0, Value.int .i64 n1, Value.int .i64 n2, Value.int .i64 n3, Value.int .i64 n4, Value.int .i64 n5, Value.int .i64 n6, Value.int .i64 n7]] k R :=
  execFn_use (cfg := { opq := [34] }) (args := [.agg [.var 0, .var 1, .var 2, .var 3, .var 4, .var 5, .var 6, .var 7]]) (vals := [Value.int .i64 n0, Value.int .i64 n1, Value.int .i64 n2, Value.int .i64 n3, Value.int .i64 n4, Value.int .i64 n5, Value.int .i64 n6, Value.int .i64 n7]) (kinds := [.int .i64, .int .i64, .int .i64, .int .i64, .int .i64, .int .i64, .int .i64, .int .i64]) (by kernel_rfl) ⟨⟨_, rfl⟩, ⟨⟨_, rfl⟩, ⟨⟨_, rfl⟩, ⟨⟨_, rfl⟩, ⟨⟨_, rfl⟩, ⟨⟨_, rfl⟩, ⟨⟨_, rfl⟩, ⟨⟨_, rfl⟩, trivial⟩⟩⟩⟩⟩⟩⟩⟩ (by kernel_rfl) (by kernel_rfl) h
theorem wOfWave_vc {n0 n1 n2 n3 n4 n5 n6 n7 n8 n9 n10 n11 n12 n13 n14 n15 : Int}
    (h : ∀ k0, Up k k0 → CallsG Tryz.prog 68 #[Value.agg #[Value.int .i64 n0, Value.int .i64 n1, Value.int .i64 n2, Value.int .i64 n3, Value.int .i64 n4, Value.int .i64 n5, Value.int .i64 n6, Value.int .i64 n7]] k0 fun k1 r0 => ∃ cs16, Seg 12 cs16 ∧ some (Value.agg cs16) = some r0 ∧
 ∀ k2, Up k1 k2 → CallsG Tryz.prog 68 #[Value.agg #[Value.int .i64 n8, Value.int .i64 n9, Value.int .i64 n10, Value.int .i64 n11, Value.int .i64 n12, Value.int .i64 n13, Value.int .i64 n14, Value.int .i64 n15]] k2 fun k3 r2 => ∃ cs17, Seg 12 cs17 ∧ some (Value.agg cs17) = some r2 ∧
 ∀ k4, Up k3 k4 → R k4 (Value.agg (cs16.toList ++ (cs17.toList ++ ([]))).toArray)) :
    CallsG Tryz.prog 36 #[Value.agg #[Value.int .i64 n0, Value.int .i64 n1, Value.int .i64 n2, Value.int .i64 n3, Value.int .i64 n4, Value.int .i64 n5, Value.int .i64 n6, Value.int .i64 n7, Value.int .i64 n8, Value.int .i64 n9, Value.int .i64 n10, Value.int .i64 n11, Value.int .i64 n12, Value.int .i64 n13, Value.int .i64 n14, Value.int .i64 n15]] k R :=
  execFn_use (cfg := { opq := [62] }) (args := [.agg [.var 0, .var 1, .var 2, .var 3, .var 4, .var 5, .var 6, .var 7, .var 8, .var 9, .var 10, .var 11, .var 12, .var 13, .var 14, .var 15]]) (vals := [Value.int .i64 n0, Value.int .i64 n1, Value.int .i64 n2, Value.int .i64 n3, Value.int .i64 n4, Value.int .i64 n5, Value.int .i64 n6, Value.int .i64 n7, Value.int .i64 n8, Value.int .i64 n9, Value.int .i64 n10, Value.int .i64 n11, Value.int .i64 n12, Value.int .i64 n13, Value.int .i64 n14, Value.int .i64 n15]) (kinds := [.int .i64, .int .i64, .int .i64, .int .i64, .int .i64, .int .i64, .int .i64, .int .i64, .int .i64, .int .i64, .int .i64, .int .i64, .int .i64, .int .i64, .int .i64, .int .i64]) (by kernel_rfl) ⟨⟨_, rfl⟩, ⟨⟨_, rfl⟩, ⟨⟨_, rfl⟩, ⟨⟨_, rfl⟩, ⟨⟨_, rfl⟩, ⟨⟨_, rfl⟩, ⟨⟨_, rfl⟩, ⟨⟨_, rfl⟩, ⟨⟨_, rfl⟩, ⟨⟨_, rfl⟩, ⟨⟨_, rfl⟩, ⟨⟨_, rfl⟩, ⟨⟨_, rfl⟩, ⟨⟨_, rfl⟩, ⟨⟨_, rfl⟩, ⟨⟨_, rfl⟩, trivial⟩⟩⟩⟩⟩⟩⟩⟩⟩⟩⟩⟩⟩⟩⟩⟩ (by kernel_rfl) (by kernel_rfl) h
theorem sReal_vc {cs0 : Array Value} (hcs0 : Seg 3 cs0)
    (h : ∀ k0, Up k k0 → CallsG Tryz.prog 108 #[Value.int .i64 0] k0 fun k1 r0 => ∃ cs1, Seg 3 cs1 ∧ some (Value.agg cs1) = some r0 ∧
 ∀ k2, Up k1 k2 → CallsG Tryz.prog 108 #[Value.int .i64 0] k2 fun k3 r2 => ∃ cs2, Seg 3 cs2 ∧ some (Value.agg cs2) = some r2 ∧
 ∀ k4, Up k3 k4 → CallsG Tryz.prog 108 #[Value.int .i64 0] k4 fun k5 r4 => ∃ cs3, Seg 3 cs3 ∧ some (Value.agg cs3) = some r4 ∧
 ∀ k6, Up k5 k6 → R k6 (Value.agg (cs0.toList ++ (cs1.toList ++ (cs2.toList ++ (cs3.toList ++ ([]))))).toArray)) :
    CallsG Tryz.prog 82 #[Value.agg cs0] k R :=
  execFn_use (cfg := { opq := [34] }) (args := [.agg [.seg 0 3]]) (vals := [Value.agg cs0]) (kinds := [.seg 3]) (by kernel_rfl) ⟨⟨cs0, rfl, hcs0⟩, trivial⟩ (by kernel_rfl) (by kernel_rfl) h
theorem sNeg_vc {cs0 cs1 cs2 cs3 : Array Value} (hcs0 : Seg 3 cs0) (hcs1 : Seg 3 cs1) (hcs2 : Seg 3 cs2) (hcs3 : Seg 3 cs3)
    (h : ∀ k0, Up k k0 → CallsG Tryz.prog 27 #[Value.agg cs0] k0 fun k1 r0 => ∃ cs4, Seg 3 cs4 ∧ some (Value.agg cs4) = some r0 ∧
 ∀ k2, Up k1 k2 → CallsG Tryz.prog 27 #[Value.agg cs1] k2 fun k3 r2 => ∃ cs5, Seg 3 cs5 ∧ some (Value.agg cs5) = some r2 ∧
 ∀ k4, Up k3 k4 → CallsG Tryz.prog 27 #[Value.agg cs2] k4 fun k5 r4 => ∃ cs6, Seg 3 cs6 ∧ some (Value.agg cs6) = some r4 ∧
 ∀ k6, Up k5 k6 → CallsG Tryz.prog 27 #[Value.agg cs3] k6 fun k7 r6 => ∃ cs7, Seg 3 cs7 ∧ some (Value.agg cs7) = some r6 ∧
 ∀ k8, Up k7 k8 → R k8 (Value.agg (cs4.toList ++ (cs5.toList ++ (cs6.toList ++ (cs7.toList ++ ([]))))).toArray)) :
    CallsG Tryz.prog 84 #[Value.agg (cs0.toList ++ (cs1.toList ++ (cs2.toList ++ (cs3.toList ++ ([]))))).toArray] k R :=
  execFn_use (cfg := { opq := [34] }) (args := [.agg [.seg 0 3, .seg 1 3, .seg 2 3, .seg 3 3]]) (vals := [Value.agg cs0, Value.agg cs1, Value.agg cs2, Value.agg cs3]) (kinds := [.seg 3, .seg 3, .seg 3, .seg 3]) (by kernel_rfl) ⟨⟨cs0, rfl, hcs0⟩, ⟨⟨cs1, rfl, hcs1⟩, ⟨⟨cs2, rfl, hcs2⟩, ⟨⟨cs3, rfl, hcs3⟩, trivial⟩⟩⟩⟩ (by kernel_rfl) (by kernel_rfl) h
theorem sAdd_vc {cs0 cs1 cs2 cs3 cs4 cs5 cs6 cs7 : Array Value} (hcs0 : Seg 3 cs0) (hcs1 : Seg 3 cs1) (hcs2 : Seg 3 cs2) (hcs3 : Seg 3 cs3) (hcs4 : Seg 3 cs4) (hcs5 : Seg 3 cs5) (hcs6 : Seg 3 cs6) (hcs7 : Seg 3 cs7)
    (h : ∀ k0, Up k k0 → CallsG Tryz.prog 21 #[Value.agg cs0, Value.agg cs4] k0 fun k1 r0 => ∃ cs8, Seg 3 cs8 ∧ some (Value.agg cs8) = some r0 ∧
 ∀ k2, Up k1 k2 → CallsG Tryz.prog 21 #[Value.agg cs1, Value.agg cs5] k2 fun k3 r2 => ∃ cs9, Seg 3 cs9 ∧ some (Value.agg cs9) = some r2 ∧
 ∀ k4, Up k3 k4 → CallsG Tryz.prog 21 #[Value.agg cs2, Value.agg cs6] k4 fun k5 r4 => ∃ cs10, Seg 3 cs10 ∧ some (Value.agg cs10) = some r4 ∧
 ∀ k6, Up k5 k6 → CallsG Tryz.prog 21 #[Value.agg cs3, Value.agg cs7] k6 fun k7 r6 => ∃ cs11, Seg 3 cs11 ∧ some (Value.agg cs11) = some r6 ∧
 ∀ k8, Up k7 k8 → R k8 (Value.agg (cs8.toList ++ (cs9.toList ++ (cs10.toList ++ (cs11.toList ++ ([]))))).toArray)) :
    CallsG Tryz.prog 72 #[Value.agg (cs0.toList ++ (cs1.toList ++ (cs2.toList ++ (cs3.toList ++ ([]))))).toArray, Value.agg (cs4.toList ++ (cs5.toList ++ (cs6.toList ++ (cs7.toList ++ ([]))))).toArray] k R :=
  execFn_use (cfg := { opq := [34] }) (args := [.agg [.seg 0 3, .seg 1 3, .seg 2 3, .seg 3 3], .agg [.seg 4 3, .seg 5 3, .seg 6 3, .seg 7 3]]) (vals := [Value.agg cs0, Value.agg cs1, Value.agg cs2, Value.agg cs3, Value.agg cs4, Value.agg cs5, Value.agg cs6, Value.agg cs7]) (kinds := [.seg 3, .seg 3, .seg 3, .seg 3, .seg 3, .seg 3, .seg 3, .seg 3]) (by kernel_rfl) ⟨⟨cs0, rfl, hcs0⟩, ⟨⟨cs1, rfl, hcs1⟩, ⟨⟨cs2, rfl, hcs2⟩, ⟨⟨cs3, rfl, hcs3⟩, ⟨⟨cs4, rfl, hcs4⟩, ⟨⟨cs5, rfl, hcs5⟩, ⟨⟨cs6, rfl, hcs6⟩, ⟨⟨cs7, rfl, hcs7⟩, trivial⟩⟩⟩⟩⟩⟩⟩⟩ (by kernel_rfl) (by kernel_rfl) h
theorem sSub_vc {cs0 cs1 : Array Value} (hcs0 : Seg 12 cs0) (hcs1 : Seg 12 cs1)
    (h : ∀ k0, Up k k0 → CallsG Tryz.prog 84 #[Value.agg cs1] k0 fun k1 r0 => ∃ cs2, Seg 12 cs2 ∧ some (Value.agg cs2) = some r0 ∧
 ∀ k2, Up k1 k2 → CallsG Tryz.prog 72 #[Value.agg cs0, Value.agg cs2] k2 fun k3 r2 => ∃ cs3, Seg 12 cs3 ∧ some (Value.agg cs3) = some r2 ∧
 ∀ k4, Up k3 k4 → R k4 (Value.agg cs3)) :
    CallsG Tryz.prog 74 #[Value.agg cs0, Value.agg cs1] k R :=
  execFn_use (cfg := { opq := [62] }) (args := [.agg [.seg 0 12], .agg [.seg 1 12]]) (vals := [Value.agg cs0, Value.agg cs1]) (kinds := [.seg 12, .seg 12]) (by kernel_rfl) ⟨⟨cs0, rfl, hcs0⟩, ⟨⟨cs1, rfl, hcs1⟩, trivial⟩⟩ (by kernel_rfl) (by kernel_rfl) h
theorem sMul_vc {cs0 cs1 cs2 cs3 cs4 cs5 cs6 cs7 : Array Value} (hcs0 : Seg 3 cs0) (hcs1 : Seg 3 cs1) (hcs2 : Seg 3 cs2) (hcs3 : Seg 3 cs3) (hcs4 : Seg 3 cs4) (hcs5 : Seg 3 cs5) (hcs6 : Seg 3 cs6) (hcs7 : Seg 3 cs7)
    (h : ∀ k0, Up k k0 → CallsG Tryz.prog 108 #[Value.int .i64 0] k0 fun k1 r0 => ∃ cs8, Seg 3 cs8 ∧ some (Value.agg cs8) = some r0 ∧
 ∀ k2, Up k1 k2 → CallsG Tryz.prog 82 #[Value.agg cs8] k2 fun k3 r2 => ∃ cs9, Seg 3 cs9 ∧ ∃ cs10, Seg 3 cs10 ∧ ∃ cs11, Seg 3 cs11 ∧ ∃ cs12, Seg 3 cs12 ∧ some (Value.agg (cs9.toList ++ (cs10.toList ++ (cs11.toList ++ (cs12.toList ++ ([]))))).toArray) = some r2 ∧
 ∀ k4, Up k3 k4 → CallsG Tryz.prog 25 #[Value.agg cs0, Value.agg cs4] k4 fun k5 r4 => ∃ cs13, Seg 3 cs13 ∧ some (Value.agg cs13) = some r4 ∧
 ∀ k6, Up k5 k6 → CallsG Tryz.prog 21 #[Value.agg cs9, Value.agg cs13] k6 fun k7 r6 => ∃ cs14, Seg 3 cs14 ∧ some (Value.agg cs14) = some r6 ∧
 ∀ k8, Up k7 k8 → CallsG Tryz.prog 25 #[Value.agg cs0, Value.agg cs5] k8 fun k9 r8 => ∃ cs15, Seg 3 cs15 ∧ some (Value.agg cs15) = some r8 ∧
 ∀ k10, Up k9 k10 → CallsG Tryz.prog 21 #[Value.agg cs10, Value.agg cs15] k10 fun k11 r10 => ∃ cs16, Seg 3 cs16 ∧ some (Value.agg cs16) = some r10 ∧
 ∀ k12, Up k11 k12 → CallsG Tryz.prog 25 #[Value.agg cs0, Value.agg cs6] k12 fun k13 r12 => ∃ cs17, Seg 3 cs17 ∧ some (Value.agg cs17) = some r12 ∧
 ∀ k14, Up k13 k14 → CallsG Tryz.prog 21 #[Value.agg cs11, Value.agg cs17] k14 fun k15 r14 => ∃ cs18, Seg 3 cs18 ∧ some (Value.agg cs18) = some r14 ∧
 ∀ k16, Up k15 k16 → CallsG Tryz.prog 25 #[Value.agg cs0, Value.agg cs7] k16 fun k17 r16 => ∃ cs19, Seg 3 cs19 ∧ some (Value.agg cs19) = some r16 ∧
 ∀ k18, Up k17 k18 → CallsG Tryz.prog 21 #[Value.agg cs12, Value.agg cs19] k18 fun k19 r18 => ∃ cs20, Seg 3 cs20 ∧ some (Value.agg cs20) = some r18 ∧
 ∀ k20, Up k19 k20 → CallsG Tryz.prog 25 #[Value.agg cs1, Value.agg cs4] k20 fun k21 r20 => ∃ cs21, Seg 3 cs21 ∧ some (Value.agg cs21) = some r20 ∧
 ∀ k22, Up k21 k22 → CallsG Tryz.prog 21 #[Value.agg cs16, Value.agg cs21] k22 fun k23 r22 => ∃ cs22, Seg 3 cs22 ∧ some (Value.agg cs22) = some r22 ∧
 ∀ k24, Up k23 k24 → CallsG Tryz.prog 25 #[Value.agg cs1, Value.agg cs5] k24 fun k25 r24 => ∃ cs23, Seg 3 cs23 ∧ some (Value.agg cs23) = some r24 ∧
 ∀ k26, Up k25 k26 → CallsG Tryz.prog 108 #[Value.int .i64 2] k26 fun k27 r26 => ∃ cs24, Seg 3 cs24 ∧ some (Value.agg cs24) = some r26 ∧
 ∀ k28, Up k27 k28 → CallsG Tryz.prog 25 #[Value.agg cs23, Value.agg cs24] k28 fun k29 r28 => ∃ cs25, Seg 3 cs25 ∧ some (Value.agg cs25) = some r28 ∧
 ∀ k30, Up k29 k30 → CallsG Tryz.prog 21 #[Value.agg cs14, Value.agg cs25] k30 fun k31 r30 => ∃ cs26, Seg 3 cs26 ∧ some (Value.agg cs26) = some r30 ∧
 ∀ k32, Up k31 k32 → CallsG Tryz.prog 25 #[Value.agg cs1, Value.agg cs6] k32 fun k33 r32 => ∃ cs27, Seg 3 cs27 ∧ some (Value.agg cs27) = some r32 ∧
 ∀ k34, Up k33 k34 → CallsG Tryz.prog 21 #[Value.agg cs20, Value.agg cs27] k34 fun k35 r34 => ∃ cs28, Seg 3 cs28 ∧ some (Value.agg cs28) = some r34 ∧
 ∀ k36, Up k35 k36 → CallsG Tryz.prog 25 #[Value.agg cs1, Value.agg cs7] k36 fun k37 r36 => ∃ cs29, Seg 3 cs29 ∧ some (Value.agg cs29) = some r36 ∧
 ∀ k38, Up k37 k38 → CallsG Tryz.prog 108 #[Value.int .i64 2] k38 fun k39 r38 => ∃ cs30, Seg 3 cs30 ∧ some (Value.agg cs30) = some r38 ∧
 ∀ k40, Up k39 k40 → CallsG Tryz.prog 25 #[Value.agg cs29, Value.agg cs30] k40 fun k41 r40 => ∃ cs31, Seg 3 cs31 ∧ some (Value.agg cs31) = some r40 ∧
 ∀ k42, Up k41 k42 → CallsG Tryz.prog 21 #[Value.agg cs18, Value.agg cs31] k42 fun k43 r42 => ∃ cs32, Seg 3 cs32 ∧ some (Value.agg cs32) = some r42 ∧
 ∀ k44, Up k43 k44 → CallsG Tryz.prog 25 #[Value.agg cs2, Value.agg cs4] k44 fun k45 r44 => ∃ cs33, Seg 3 cs33 ∧ some (Value.agg cs33) = some r44 ∧
 ∀ k46, Up k45 k46 → CallsG Tryz.prog 21 #[Value.agg cs32, Value.agg cs33] k46 fun k47 r46 => ∃ cs34, Seg 3 cs34 ∧ some (Value.agg cs34) = some r46 ∧
 ∀ k48, Up k47 k48 → CallsG Tryz.prog 25 #[Value.agg cs2, Value.agg cs5] k48 fun k49 r48 => ∃ cs35, Seg 3 cs35 ∧ some (Value.agg cs35) = some r48 ∧
 ∀ k50, Up k49 k50 → CallsG Tryz.prog 21 #[Value.agg cs28, Value.agg cs35] k50 fun k51 r50 => ∃ cs36, Seg 3 cs36 ∧ some (Value.agg cs36) = some r50 ∧
 ∀ k52, Up k51 k52 → CallsG Tryz.prog 25 #[Value.agg cs2, Value.agg cs6] k52 fun k53 r52 => ∃ cs37, Seg 3 cs37 ∧ some (Value.agg cs37) = some r52 ∧
 ∀ k54, Up k53 k54 → CallsG Tryz.prog 108 #[Value.int .i64 3] k54 fun k55 r54 => ∃ cs38, Seg 3 cs38 ∧ some (Value.agg cs38) = some r54 ∧
 ∀ k56, Up k55 k56 → CallsG Tryz.prog 25 #[Value.agg cs37, Value.agg cs38] k56 fun k57 r56 => ∃ cs39, Seg 3 cs39 ∧ some (Value.agg cs39) = some r56 ∧
 ∀ k58, Up k57 k58 → CallsG Tryz.prog 21 #[Value.agg cs26, Value.agg cs39] k58 fun k59 r58 => ∃ cs40, Seg 3 cs40 ∧ some (Value.agg cs40) = some r58 ∧
 ∀ k60, Up k59 k60 → CallsG Tryz.prog 25 #[Value.agg cs2, Value.agg cs7] k60 fun k61 r60 => ∃ cs41, Seg 3 cs41 ∧ some (Value.agg cs41) = some r60 ∧
 ∀ k62, Up k61 k62 → CallsG Tryz.prog 108 #[Value.int .i64 3] k62 fun k63 r62 => ∃ cs42, Seg 3 cs42 ∧ some (Value.agg cs42) = some r62 ∧
 ∀ k64, Up k63 k64 → CallsG Tryz.prog 25 #[Value.agg cs41, Value.agg cs42] k64 fun k65 r64 => ∃ cs43, Seg 3 cs43 ∧ some (Value.agg cs43) = some r64 ∧
 ∀ k66, Up k65 k66 → CallsG Tryz.prog 21 #[Value.agg cs22, Value.agg cs43] k66 fun k67 r66 => ∃ cs44, Seg 3 cs44 ∧ some (Value.agg cs44) = some r66 ∧
 ∀ k68, Up k67 k68 → CallsG Tryz.prog 25 #[Value.agg cs3, Value.agg cs4] k68 fun k69 r68 => ∃ cs45, Seg 3 cs45 ∧ some (Value.agg cs45) = some r68 ∧
 ∀ k70, Up k69 k70 → CallsG Tryz.prog 21 #[Value.agg cs36, Value.agg cs45] k70 fun k71 r70 => ∃ cs46, Seg 3 cs46 ∧ some (Value.agg cs46) = some r70 ∧
 ∀ k72, Up k71 k72 → CallsG Tryz.prog 25 #[Value.agg cs3, Value.agg cs5] k72 fun k73 r72 => ∃ cs47, Seg 3 cs47 ∧ some (Value.agg cs47) = some r72 ∧
 ∀ k74, Up k73 k74 → CallsG Tryz.prog 108 #[Value.int .i64 2] k74 fun k75 r74 => ∃ cs48, Seg 3 cs48 ∧ some (Value.agg cs48) = some r74 ∧
 ∀ k76, Up k75 k76 → CallsG Tryz.prog 25 #[Value.agg cs47, Value.agg cs48] k76 fun k77 r76 => ∃ cs49, Seg 3 cs49 ∧ some (Value.agg cs49) = some r76 ∧
 ∀ k78, Up k77 k78 → CallsG Tryz.prog 21 #[Value.agg cs34, Value.agg cs49] k78 fun k79 r78 => ∃ cs50, Seg 3 cs50 ∧ some (Value.agg cs50) = some r78 ∧
 ∀ k80, Up k79 k80 → CallsG Tryz.prog 25 #[Value.agg cs3, Value.agg cs6] k80 fun k81 r80 => ∃ cs51, Seg 3 cs51 ∧ some (Value.agg cs51) = some r80 ∧
 ∀ k82, Up k81 k82 → CallsG Tryz.prog 108 #[Value.int .i64 3] k82 fun k83 r82 => ∃ cs52, Seg 3 cs52 ∧ some (Value.agg cs52) = some r82 ∧
 ∀ k84, Up k83 k84 → CallsG Tryz.prog 25 #[Value.agg cs51, Value.agg cs52] k84 fun k85 r84 => ∃ cs53, Seg 3 cs53 ∧ some (Value.agg cs53) = some r84 ∧
 ∀ k86, Up k85 k86 → CallsG Tryz.prog 21 #[Value.agg cs44, Value.agg cs53] k86 fun k87 r86 => ∃ cs54, Seg 3 cs54 ∧ some (Value.agg cs54) = some r86 ∧
 ∀ k88, Up k87 k88 → CallsG Tryz.prog 25 #[Value.agg cs3, Value.agg cs7] k88 fun k89 r88 => ∃ cs55, Seg 3 cs55 ∧ some (Value.agg cs55) = some r88 ∧
 ∀ k90, Up k89 k90 → CallsG Tryz.prog 108 #[Value.int .i64 2] k90 fun k91 r90 => ∃ cs56, Seg 3 cs56 ∧ some (Value.agg cs56) = some r90 ∧
 ∀ k92, Up k91 k92 → CallsG Tryz.prog 25 #[Value.agg cs55, Value.agg cs56] k92 fun k93 r92 => ∃ cs57, Seg 3 cs57 ∧ some (Value.agg cs57) = some r92 ∧
 ∀ k94, Up k93 k94 → CallsG Tryz.prog 108 #[Value.int .i64 3] k94 fun k95 r94 => ∃ cs58, Seg 3 cs58 ∧ some (Value.agg cs58) = some r94 ∧
 ∀ k96, Up k95 k96 → CallsG Tryz.prog 25 #[Value.agg cs57, Value.agg cs58] k96 fun k97 r96 => ∃ cs59, Seg 3 cs59 ∧ some (Value.agg cs59) = some r96 ∧
 ∀ k98, Up k97 k98 → CallsG Tryz.prog 21 #[Value.agg cs40, Value.agg cs59] k98 fun k99 r98 => ∃ cs60, Seg 3 cs60 ∧ some (Value.agg cs60) = some r98 ∧
 ∀ k100, Up k99 k100 → R k100 (Value.agg (cs60.toList ++ (cs54.toList ++ (cs50.toList ++ (cs46.toList ++ ([]))))).toArray)) :
    CallsG Tryz.prog 76 #[Value.agg (cs0.toList ++ (cs1.toList ++ (cs2.toList ++ (cs3.toList ++ ([]))))).toArray, Value.agg (cs4.toList ++ (cs5.toList ++ (cs6.toList ++ (cs7.toList ++ ([]))))).toArray] k R :=
  execFn_use (cfg := { opq := [34] }) (args := [.agg [.seg 0 3, .seg 1 3, .seg 2 3, .seg 3 3], .agg [.seg 4 3, .seg 5 3, .seg 6 3, .seg 7 3]]) (vals := [Value.agg cs0, Value.agg cs1, Value.agg cs2, Value.agg cs3, Value.agg cs4, Value.agg cs5, Value.agg cs6, Value.agg cs7]) (kinds := [.seg 3, .seg 3, .seg 3, .seg 3, .seg 3, .seg 3, .seg 3, .seg 3]) (by kernel_rfl) ⟨⟨cs0, rfl, hcs0⟩, ⟨⟨cs1, rfl, hcs1⟩, ⟨⟨cs2, rfl, hcs2⟩, ⟨⟨cs3, rfl, hcs3⟩, ⟨⟨cs4, rfl, hcs4⟩, ⟨⟨cs5, rfl, hcs5⟩, ⟨⟨cs6, rfl, hcs6⟩, ⟨⟨cs7, rfl, hcs7⟩, trivial⟩⟩⟩⟩⟩⟩⟩⟩ (by kernel_rfl) (by kernel_rfl) h
theorem sZero_vc {cs0 cs1 cs2 cs3 : Array Value} (hcs0 : Seg 3 cs0) (hcs1 : Seg 3 cs1) (hcs2 : Seg 3 cs2) (hcs3 : Seg 3 cs3)
    (h : ∀ k0, Up k k0 → CallsG Tryz.prog 79 #[Value.agg cs0] k0 fun k1 r0 => ∃ b4, some (Value.bool b4) = some r0 ∧
 (b4 = true →
 (∀ k2, Up k1 k2 → CallsG Tryz.prog 79 #[Value.agg cs1] k2 fun k3 r2 => ∃ b5, some (Value.bool b5) = some r2 ∧
 (b5 = true →
 (∀ k4, Up k3 k4 → CallsG Tryz.prog 79 #[Value.agg cs2] k4 fun k5 r4 => ∃ b6, some (Value.bool b6) = some r4 ∧
 (b6 = true →
 (∀ k6, Up k5 k6 → CallsG Tryz.prog 79 #[Value.agg cs3] k6 fun k7 r6 => ∃ b7, some (Value.bool b7) = some r6 ∧
 ∀ k8, Up k7 k8 → R k8 (Value.bool b7))) ∧
 (b6 = false →
 (∀ k9, Up k5 k9 → R k9 (Value.bool false))))) ∧
 (b5 = false →
 (∀ k10, Up k3 k10 → R k10 (Value.bool false))))) ∧
 (b4 = false →
 (∀ k11, Up k1 k11 → R k11 (Value.bool false)))) :
    CallsG Tryz.prog 91 #[Value.agg (cs0.toList ++ (cs1.toList ++ (cs2.toList ++ (cs3.toList ++ ([]))))).toArray] k R :=
  execFn_use (cfg := { opq := [34] }) (args := [.agg [.seg 0 3, .seg 1 3, .seg 2 3, .seg 3 3]]) (vals := [Value.agg cs0, Value.agg cs1, Value.agg cs2, Value.agg cs3]) (kinds := [.seg 3, .seg 3, .seg 3, .seg 3]) (by kernel_rfl) ⟨⟨cs0, rfl, hcs0⟩, ⟨⟨cs1, rfl, hcs1⟩, ⟨⟨cs2, rfl, hcs2⟩, ⟨⟨cs3, rfl, hcs3⟩, trivial⟩⟩⟩⟩ (by kernel_rfl) (by kernel_rfl) h
theorem turned1_vc {cs0 cs1 cs2 cs3 : Array Value} (hcs0 : Seg 3 cs0) (hcs1 : Seg 3 cs1) (hcs2 : Seg 3 cs2) (hcs3 : Seg 3 cs3)
    (h : ∀ k0, Up k k0 → CallsG Tryz.prog 27 #[Value.agg cs1] k0 fun k1 r0 => ∃ cs4, Seg 3 cs4 ∧ some (Value.agg cs4) = some r0 ∧
 ∀ k2, Up k1 k2 → CallsG Tryz.prog 27 #[Value.agg cs3] k2 fun k3 r2 => ∃ cs5, Seg 3 cs5 ∧ some (Value.agg cs5) = some r2 ∧
 ∀ k4, Up k3 k4 → R k4 (Value.agg (cs0.toList ++ (cs4.toList ++ (cs2.toList ++ (cs5.toList ++ ([]))))).toArray)) :
    CallsG Tryz.prog 162 #[Value.agg (cs0.toList ++ (cs1.toList ++ (cs2.toList ++ (cs3.toList ++ ([]))))).toArray, Value.int .i64 1] k R :=
  Sy.execFn_use_heap (cfg := { opq := [34] }) (args := [.agg [.seg 0 3, .seg 1 3, .seg 2 3, .seg 3 3], .one (.lit (.int .i64 (1)))]) (vals := [Value.agg cs0, Value.agg cs1, Value.agg cs2, Value.agg cs3]) (kinds := [.seg 3, .seg 3, .seg 3, .seg 3]) (blks := []) (heap := []) (by kernel_rfl) ⟨⟨cs0, rfl, hcs0⟩, ⟨⟨cs1, rfl, hcs1⟩, ⟨⟨cs2, rfl, hcs2⟩, ⟨⟨cs3, rfl, hcs3⟩, trivial⟩⟩⟩⟩ (by kernel_rfl) trivial (by kernel_rfl) h
theorem turned2_vc {cs0 cs1 cs2 cs3 : Array Value} (hcs0 : Seg 3 cs0) (hcs1 : Seg 3 cs1) (hcs2 : Seg 3 cs2) (hcs3 : Seg 3 cs3)
    (h : ∀ k0, Up k k0 → CallsG Tryz.prog 27 #[Value.agg cs2] k0 fun k1 r0 => ∃ cs4, Seg 3 cs4 ∧ some (Value.agg cs4) = some r0 ∧
 ∀ k2, Up k1 k2 → CallsG Tryz.prog 27 #[Value.agg cs3] k2 fun k3 r2 => ∃ cs5, Seg 3 cs5 ∧ some (Value.agg cs5) = some r2 ∧
 ∀ k4, Up k3 k4 → R k4 (Value.agg (cs0.toList ++ (cs1.toList ++ (cs4.toList ++ (cs5.toList ++ ([]))))).toArray)) :
    CallsG Tryz.prog 162 #[Value.agg (cs0.toList ++ (cs1.toList ++ (cs2.toList ++ (cs3.toList ++ ([]))))).toArray, Value.int .i64 2] k R :=
  Sy.execFn_use_heap (cfg := { opq := [34] }) (args := [.agg [.seg 0 3, .seg 1 3, .seg 2 3, .seg 3 3], .one (.lit (.int .i64 (2)))]) (vals := [Value.agg cs0, Value.agg cs1, Value.agg cs2, Value.agg cs3]) (kinds := [.seg 3, .seg 3, .seg 3, .seg 3]) (blks := []) (heap := []) (by kernel_rfl) ⟨⟨cs0, rfl, hcs0⟩, ⟨⟨cs1, rfl, hcs1⟩, ⟨⟨cs2, rfl, hcs2⟩, ⟨⟨cs3, rfl, hcs3⟩, trivial⟩⟩⟩⟩ (by kernel_rfl) trivial (by kernel_rfl) h
theorem sDiv_vc {cs0 cs1 cs2 cs3 cs4 cs5 cs6 cs7 : Array Value} (hcs0 : Seg 3 cs0) (hcs1 : Seg 3 cs1) (hcs2 : Seg 3 cs2) (hcs3 : Seg 3 cs3) (hcs4 : Seg 3 cs4) (hcs5 : Seg 3 cs5) (hcs6 : Seg 3 cs6) (hcs7 : Seg 3 cs7)
    (h : ∀ k0, Up k k0 → CallsG Tryz.prog 91 #[Value.agg (cs4.toList ++ (cs5.toList ++ (cs6.toList ++ (cs7.toList ++ ([]))))).toArray] k0 fun k1 r0 => ∃ b8, some (Value.bool b8) = some r0 ∧
 (b8 = true →
 (∀ k2, Up k1 k2 → CallsG Tryz.prog 108 #[Value.int .i64 0] k2 fun k3 r2 => ∃ cs9, Seg 3 cs9 ∧ some (Value.agg cs9) = some r2 ∧
 ∀ k4, Up k3 k4 → CallsG Tryz.prog 82 #[Value.agg cs9] k4 fun k5 r4 => ∃ cs10, Seg 3 cs10 ∧ ∃ cs11, Seg 3 cs11 ∧ ∃ cs12, Seg 3 cs12 ∧ ∃ cs13, Seg 3 cs13 ∧ some (Value.agg (cs10.toList ++ (cs11.toList ++ (cs12.toList ++ (cs13.toList ++ ([]))))).toArray) = some r4 ∧
 ∀ k6, Up k5 k6 → R k6 (Value.tuple #[Value.agg (cs10.toList ++ (cs11.toList ++ (cs12.toList ++ (cs13.toList ++ ([]))))).toArray, Value.int .i64 3]))) ∧
 (b8 = false →
 (∀ k7, Up k1 k7 → CallsG Tryz.prog 162 #[Value.agg (cs4.toList ++ (cs5.toList ++ (cs6.toList ++ (cs7.toList ++ ([]))))).toArray, Value.int .i64 1] k7 fun k8 r7 => ∃ cs9, Seg 3 cs9 ∧ ∃ cs10, Seg 3 cs10 ∧ ∃ cs11, Seg 3 cs11 ∧ ∃ cs12, Seg 3 cs12 ∧ some (Value.agg (cs9.toList ++ (cs10.toList ++ (cs11.toList ++ (cs12.toList ++ ([]))))).toArray) = some r7 ∧
 ∀ k9, Up k8 k9 → CallsG Tryz.prog 162 #[Value.agg (cs4.toList ++ (cs5.toList ++ (cs6.toList ++ (cs7.toList ++ ([]))))).toArray, Value.int .i64 2] k9 fun k10 r9 => ∃ cs13, Seg 3 cs13 ∧ ∃ cs14, Seg 3 cs14 ∧ ∃ cs15, Seg 3 cs15 ∧ ∃ cs16, Seg 3 cs16 ∧ some (Value.agg (cs13.toList ++ (cs14.toList ++ (cs15.toList ++ (cs16.toList ++ ([]))))).toArray) = some r9 ∧
 ∀ k11, Up k10 k11 → CallsG Tryz.prog 76 #[Value.agg (cs9.toList ++ (cs10.toList ++ (cs11.toList ++ (cs12.toList ++ ([]))))).toArray, Value.agg (cs13.toList ++ (cs14.toList ++ (cs15.toList ++ (cs16.toList ++ ([]))))).toArray] k11 fun k12 r11 => ∃ cs17, Seg 3 cs17 ∧ ∃ cs18, Seg 3 cs18 ∧ ∃ cs19, Seg 3 cs19 ∧ ∃ cs20, Seg 3 cs20 ∧ some (Value.agg (cs17.toList ++ (cs18.toList ++ (cs19.toList ++ (cs20.toList ++ ([]))))).toArray) = some r11 ∧
 ∀ k13, Up k12 k13 → CallsG Tryz.prog 162 #[Value.agg (cs4.toList ++ (cs5.toList ++ (cs6.toList ++ (cs7.toList ++ ([]))))).toArray, Value.int .i64 1] k13 fun k14 r13 => ∃ cs21, Seg 3 cs21 ∧ ∃ cs22, Seg 3 cs22 ∧ ∃ cs23, Seg 3 cs23 ∧ ∃ cs24, Seg 3 cs24 ∧ some (Value.agg (cs21.toList ++ (cs22.toList ++ (cs23.toList ++ (cs24.toList ++ ([]))))).toArray) = some r13 ∧
 ∀ k15, Up k14 k15 → CallsG Tryz.prog 162 #[Value.agg (cs21.toList ++ (cs22.toList ++ (cs23.toList ++ (cs24.toList ++ ([]))))).toArray, Value.int .i64 2] k15 fun k16 r15 => ∃ cs25, Seg 3 cs25 ∧ ∃ cs26, Seg 3 cs26 ∧ ∃ cs27, Seg 3 cs27 ∧ ∃ cs28, Seg 3 cs28 ∧ some (Value.agg (cs25.toList ++ (cs26.toList ++ (cs27.toList ++ (cs28.toList ++ ([]))))).toArray) = some r15 ∧
 ∀ k17, Up k16 k17 → CallsG Tryz.prog 76 #[Value.agg (cs17.toList ++ (cs18.toList ++ (cs19.toList ++ (cs20.toList ++ ([]))))).toArray, Value.agg (cs25.toList ++ (cs26.toList ++ (cs27.toList ++ (cs28.toList ++ ([]))))).toArray] k17 fun k18 r17 => ∃ cs29, Seg 3 cs29 ∧ ∃ cs30, Seg 3 cs30 ∧ ∃ cs31, Seg 3 cs31 ∧ ∃ cs32, Seg 3 cs32 ∧ some (Value.agg (cs29.toList ++ (cs30.toList ++ (cs31.toList ++ (cs32.toList ++ ([]))))).toArray) = some r17 ∧
 ∀ k19, Up k18 k19 → CallsG Tryz.prog 76 #[Value.agg (cs4.toList ++ (cs5.toList ++ (cs6.toList ++ (cs7.toList ++ ([]))))).toArray, Value.agg (cs29.toList ++ (cs30.toList ++ (cs31.toList ++ (cs32.toList ++ ([]))))).toArray] k19 fun k20 r19 => ∃ cs33, Seg 3 cs33 ∧ ∃ cs34, Seg 3 cs34 ∧ ∃ cs35, Seg 3 cs35 ∧ ∃ cs36, Seg 3 cs36 ∧ some (Value.agg (cs33.toList ++ (cs34.toList ++ (cs35.toList ++ (cs36.toList ++ ([]))))).toArray) = some r19 ∧
 ∀ k21, Up k20 k21 → CallsG Tryz.prog 76 #[Value.agg (cs0.toList ++ (cs1.toList ++ (cs2.toList ++ (cs3.toList ++ ([]))))).toArray, Value.agg (cs29.toList ++ (cs30.toList ++ (cs31.toList ++ (cs32.toList ++ ([]))))).toArray] k21 fun k22 r21 => ∃ cs37, Seg 3 cs37 ∧ ∃ cs38, Seg 3 cs38 ∧ ∃ cs39, Seg 3 cs39 ∧ ∃ cs40, Seg 3 cs40 ∧ some (Value.agg (cs37.toList ++ (cs38.toList ++ (cs39.toList ++ (cs40.toList ++ ([]))))).toArray) = some r21 ∧
 ∀ k23, Up k22 k23 → CallsG Tryz.prog 152 #[Value.agg cs37, Value.agg cs33] k23 fun k24 r23 => ∃ cs41, Seg 3 cs41 ∧ some (Value.agg cs41) = some r23 ∧
 ∀ k25, Up k24 k25 → CallsG Tryz.prog 152 #[Value.agg cs38, Value.agg cs33] k25 fun k26 r25 => ∃ cs42, Seg 3 cs42 ∧ some (Value.agg cs42) = some r25 ∧
 ∀ k27, Up k26 k27 → CallsG Tryz.prog 152 #[Value.agg cs39, Value.agg cs33] k27 fun k28 r27 => ∃ cs43, Seg 3 cs43 ∧ some (Value.agg cs43) = some r27 ∧
 ∀ k29, Up k28 k29 → CallsG Tryz.prog 152 #[Value.agg cs40, Value.agg cs33] k29 fun k30 r29 => ∃ cs44, Seg 3 cs44 ∧ some (Value.agg cs44) = some r29 ∧
 ∀ k31, Up k30 k31 → R k31 (Value.tuple #[Value.agg (cs41.toList ++ (cs42.toList ++ (cs43.toList ++ (cs44.toList ++ ([]))))).toArray, Value.int .i64 0])))) :
    CallsG Tryz.prog 70 #[Value.agg (cs0.toList ++ (cs1.toList ++ (cs2.toList ++ (cs3.toList ++ ([]))))).toArray, Value.agg (cs4.toList ++ (cs5.toList ++ (cs6.toList ++ (cs7.toList ++ ([]))))).toArray] k R :=
  execFn_use (cfg := { opq := [34] }) (args := [.agg [.seg 0 3, .seg 1 3, .seg 2 3, .seg 3 3], .agg [.seg 4 3, .seg 5 3, .seg 6 3, .seg 7 3]]) (vals := [Value.agg cs0, Value.agg cs1, Value.agg cs2, Value.agg cs3, Value.agg cs4, Value.agg cs5, Value.agg cs6, Value.agg cs7]) (kinds := [.seg 3, .seg 3, .seg 3, .seg 3, .seg 3, .seg 3, .seg 3, .seg 3]) (by kernel_rfl) ⟨⟨cs0, rfl, hcs0⟩, ⟨⟨cs1, rfl, hcs1⟩, ⟨⟨cs2, rfl, hcs2⟩, ⟨⟨cs3, rfl, hcs3⟩, ⟨⟨cs4, rfl, hcs4⟩, ⟨⟨cs5, rfl, hcs5⟩, ⟨⟨cs6, rfl, hcs6⟩, ⟨⟨cs7, rfl, hcs7⟩, trivial⟩⟩⟩⟩⟩⟩⟩⟩ (by kernel_rfl) (by kernel_rfl) h
theorem rwAdd_vc {cs0 cs1 cs2 cs3 : Array Value} (hcs0 : Seg 12 cs0) (hcs1 : Seg 12 cs1) (hcs2 : Seg 12 cs2) (hcs3 : Seg 12 cs3)
    (h : ∀ k0, Up k k0 → CallsG Tryz.prog 72 #[Value.agg cs0, Value.agg cs2] k0 fun k1 r0 => ∃ cs4, Seg 12 cs4 ∧ some (Value.agg cs4) = some r0 ∧
 ∀ k2, Up k1 k2 → CallsG Tryz.prog 72 #[Value.agg cs1, Value.agg cs3] k2 fun k3 r2 => ∃ cs5, Seg 12 cs5 ∧ some (Value.agg cs5) = some r2 ∧
 ∀ k4, Up k3 k4 → R k4 (Value.agg (cs4.toList ++ (cs5.toList ++ ([]))).toArray)) :
    CallsG Tryz.prog 41 #[Value.agg (cs0.toList ++ (cs1.toList ++ ([]))).toArray, Value.agg (cs2.toList ++ (cs3.toList ++ ([]))).toArray] k R :=
  execFn_use (cfg := { opq := [62] }) (args := [.agg [.seg 0 12, .seg 1 12], .agg [.seg 2 12, .seg 3 12]]) (vals := [Value.agg cs0, Value.agg cs1, Value.agg cs2, Value.agg cs3]) (kinds := [.seg 12, .seg 12, .seg 12, .seg 12]) (by kernel_rfl) ⟨⟨cs0, rfl, hcs0⟩, ⟨⟨cs1, rfl, hcs1⟩, ⟨⟨cs2, rfl, hcs2⟩, ⟨⟨cs3, rfl, hcs3⟩, trivial⟩⟩⟩⟩ (by kernel_rfl) (by kernel_rfl) h
theorem rwSub_vc {cs0 cs1 cs2 cs3 : Array Value} (hcs0 : Seg 12 cs0) (hcs1 : Seg 12 cs1) (hcs2 : Seg 12 cs2) (hcs3 : Seg 12 cs3)
    (h : ∀ k0, Up k k0 → CallsG Tryz.prog 74 #[Value.agg cs0, Value.agg cs2] k0 fun k1 r0 => ∃ cs4, Seg 12 cs4 ∧ some (Value.agg cs4) = some r0 ∧
 ∀ k2, Up k1 k2 → CallsG Tryz.prog 74 #[Value.agg cs1, Value.agg cs3] k2 fun k3 r2 => ∃ cs5, Seg 12 cs5 ∧ some (Value.agg cs5) = some r2 ∧
 ∀ k4, Up k3 k4 → R k4 (Value.agg (cs4.toList ++ (cs5.toList ++ ([]))).toArray)) :
    CallsG Tryz.prog 43 #[Value.agg (cs0.toList ++ (cs1.toList ++ ([]))).toArray, Value.agg (cs2.toList ++ (cs3.toList ++ ([]))).toArray] k R :=
  execFn_use (cfg := { opq := [62] }) (args := [.agg [.seg 0 12, .seg 1 12], .agg [.seg 2 12, .seg 3 12]]) (vals := [Value.agg cs0, Value.agg cs1, Value.agg cs2, Value.agg cs3]) (kinds := [.seg 12, .seg 12, .seg 12, .seg 12]) (by kernel_rfl) ⟨⟨cs0, rfl, hcs0⟩, ⟨⟨cs1, rfl, hcs1⟩, ⟨⟨cs2, rfl, hcs2⟩, ⟨⟨cs3, rfl, hcs3⟩, trivial⟩⟩⟩⟩ (by kernel_rfl) (by kernel_rfl) h
theorem rwMul_vc {cs0 cs1 cs2 cs3 : Array Value} (hcs0 : Seg 12 cs0) (hcs1 : Seg 12 cs1) (hcs2 : Seg 12 cs2) (hcs3 : Seg 12 cs3)
    (h : ∀ k0, Up k k0 → CallsG Tryz.prog 76 #[Value.agg cs0, Value.agg cs2] k0 fun k1 r0 => ∃ cs4, Seg 12 cs4 ∧ some (Value.agg cs4) = some r0 ∧
 ∀ k2, Up k1 k2 → CallsG Tryz.prog 76 #[Value.agg cs1, Value.agg cs3] k2 fun k3 r2 => ∃ cs5, Seg 12 cs5 ∧ some (Value.agg cs5) = some r2 ∧
 ∀ k4, Up k3 k4 → CallsG Tryz.prog 74 #[Value.agg cs4, Value.agg cs5] k4 fun k5 r4 => ∃ cs6, Seg 12 cs6 ∧ some (Value.agg cs6) = some r4 ∧
 ∀ k6, Up k5 k6 → CallsG Tryz.prog 76 #[Value.agg cs0, Value.agg cs3] k6 fun k7 r6 => ∃ cs7, Seg 12 cs7 ∧ some (Value.agg cs7) = some r6 ∧
 ∀ k8, Up k7 k8 → CallsG Tryz.prog 76 #[Value.agg cs1, Value.agg cs2] k8 fun k9 r8 => ∃ cs8, Seg 12 cs8 ∧ some (Value.agg cs8) = some r8 ∧
 ∀ k10, Up k9 k10 → CallsG Tryz.prog 72 #[Value.agg cs7, Value.agg cs8] k10 fun k11 r10 => ∃ cs9, Seg 12 cs9 ∧ some (Value.agg cs9) = some r10 ∧
 ∀ k12, Up k11 k12 → R k12 (Value.agg (cs6.toList ++ (cs9.toList ++ ([]))).toArray)) :
    CallsG Tryz.prog 45 #[Value.agg (cs0.toList ++ (cs1.toList ++ ([]))).toArray, Value.agg (cs2.toList ++ (cs3.toList ++ ([]))).toArray] k R :=
  execFn_use (cfg := { opq := [62] }) (args := [.agg [.seg 0 12, .seg 1 12], .agg [.seg 2 12, .seg 3 12]]) (vals := [Value.agg cs0, Value.agg cs1, Value.agg cs2, Value.agg cs3]) (kinds := [.seg 12, .seg 12, .seg 12, .seg 12]) (by kernel_rfl) ⟨⟨cs0, rfl, hcs0⟩, ⟨⟨cs1, rfl, hcs1⟩, ⟨⟨cs2, rfl, hcs2⟩, ⟨⟨cs3, rfl, hcs3⟩, trivial⟩⟩⟩⟩ (by kernel_rfl) (by kernel_rfl) h
theorem rwNeg_vc {cs0 cs1 : Array Value} (hcs0 : Seg 12 cs0) (hcs1 : Seg 12 cs1)
    (h : ∀ k0, Up k k0 → CallsG Tryz.prog 84 #[Value.agg cs0] k0 fun k1 r0 => ∃ cs2, Seg 12 cs2 ∧ some (Value.agg cs2) = some r0 ∧
 ∀ k2, Up k1 k2 → CallsG Tryz.prog 84 #[Value.agg cs1] k2 fun k3 r2 => ∃ cs3, Seg 12 cs3 ∧ some (Value.agg cs3) = some r2 ∧
 ∀ k4, Up k3 k4 → R k4 (Value.agg (cs2.toList ++ (cs3.toList ++ ([]))).toArray)) :
    CallsG Tryz.prog 47 #[Value.agg (cs0.toList ++ (cs1.toList ++ ([]))).toArray] k R :=
  execFn_use (cfg := { opq := [62] }) (args := [.agg [.seg 0 12, .seg 1 12]]) (vals := [Value.agg cs0, Value.agg cs1]) (kinds := [.seg 12, .seg 12]) (by kernel_rfl) ⟨⟨cs0, rfl, hcs0⟩, ⟨⟨cs1, rfl, hcs1⟩, trivial⟩⟩ (by kernel_rfl) (by kernel_rfl) h
theorem rwConj_vc {cs0 cs1 : Array Value} (hcs0 : Seg 12 cs0) (hcs1 : Seg 12 cs1)
    (h : ∀ k0, Up k k0 → CallsG Tryz.prog 84 #[Value.agg cs1] k0 fun k1 r0 => ∃ cs2, Seg 12 cs2 ∧ some (Value.agg cs2) = some r0 ∧
 ∀ k2, Up k1 k2 → R k2 (Value.agg (cs0.toList ++ (cs2.toList ++ ([]))).toArray)) :
    CallsG Tryz.prog 49 #[Value.agg (cs0.toList ++ (cs1.toList ++ ([]))).toArray] k R :=
  execFn_use (cfg := { opq := [62] }) (args := [.agg [.seg 0 12, .seg 1 12]]) (vals := [Value.agg cs0, Value.agg cs1]) (kinds := [.seg 12, .seg 12]) (by kernel_rfl) ⟨⟨cs0, rfl, hcs0⟩, ⟨⟨cs1, rfl, hcs1⟩, trivial⟩⟩ (by kernel_rfl) (by kernel_rfl) h
theorem rwReal_vc {cs0 : Array Value} (hcs0 : Seg 3 cs0)
    (h : ∀ k0, Up k k0 → CallsG Tryz.prog 82 #[Value.agg cs0] k0 fun k1 r0 => ∃ cs1, Seg 12 cs1 ∧ some (Value.agg cs1) = some r0 ∧
 ∀ k2, Up k1 k2 → CallsG Tryz.prog 108 #[Value.int .i64 0] k2 fun k3 r2 => ∃ cs2, Seg 3 cs2 ∧ some (Value.agg cs2) = some r2 ∧
 ∀ k4, Up k3 k4 → CallsG Tryz.prog 82 #[Value.agg cs2] k4 fun k5 r4 => ∃ cs3, Seg 12 cs3 ∧ some (Value.agg cs3) = some r4 ∧
 ∀ k6, Up k5 k6 → R k6 (Value.agg (cs1.toList ++ (cs3.toList ++ ([]))).toArray)) :
    CallsG Tryz.prog 58 #[Value.agg cs0] k R :=
  execFn_use (cfg := { opq := [34, 62] }) (args := [.agg [.seg 0 3]]) (vals := [Value.agg cs0]) (kinds := [.seg 3]) (by kernel_rfl) ⟨⟨cs0, rfl, hcs0⟩, trivial⟩ (by kernel_rfl) (by kernel_rfl) h
theorem rwZero_vc {cs0 cs1 : Array Value} (hcs0 : Seg 12 cs0) (hcs1 : Seg 12 cs1)
    (h : ∀ k0, Up k k0 → CallsG Tryz.prog 91 #[Value.agg cs0] k0 fun k1 r0 => ∃ b2, some (Value.bool b2) = some r0 ∧
 (b2 = true →
 (∀ k2, Up k1 k2 → CallsG Tryz.prog 91 #[Value.agg cs1] k2 fun k3 r2 => ∃ b3, some (Value.bool b3) = some r2 ∧
 ∀ k4, Up k3 k4 → R k4 (Value.bool b3))) ∧
 (b2 = false →
 (∀ k5, Up k1 k5 → R k5 (Value.bool false)))) :
    CallsG Tryz.prog 56 #[Value.agg (cs0.toList ++ (cs1.toList ++ ([]))).toArray] k R :=
  execFn_use (cfg := { opq := [62] }) (args := [.agg [.seg 0 12, .seg 1 12]]) (vals := [Value.agg cs0, Value.agg cs1]) (kinds := [.seg 12, .seg 12]) (by kernel_rfl) ⟨⟨cs0, rfl, hcs0⟩, ⟨⟨cs1, rfl, hcs1⟩, trivial⟩⟩ (by kernel_rfl) (by kernel_rfl) h
theorem rwSame_vc {cs0 cs1 cs2 cs3 : Array Value} (hcs0 : Seg 12 cs0) (hcs1 : Seg 12 cs1) (hcs2 : Seg 12 cs2) (hcs3 : Seg 12 cs3)
    (h : ∀ k0, Up k k0 → CallsG Tryz.prog 43 #[Value.agg (cs0.toList ++ (cs1.toList ++ ([]))).toArray, Value.agg (cs2.toList ++ (cs3.toList ++ ([]))).toArray] k0 fun k1 r0 => ∃ cs4, Seg 12 cs4 ∧ ∃ cs5, Seg 12 cs5 ∧ some (Value.agg (cs4.toList ++ (cs5.toList ++ ([]))).toArray) = some r0 ∧
 ∀ k2, Up k1 k2 → CallsG Tryz.prog 56 #[Value.agg (cs4.toList ++ (cs5.toList ++ ([]))).toArray] k2 fun k3 r2 => ∃ b6, some (Value.bool b6) = some r2 ∧
 ∀ k4, Up k3 k4 → R k4 (Value.bool b6)) :
    CallsG Tryz.prog 54 #[Value.agg (cs0.toList ++ (cs1.toList ++ ([]))).toArray, Value.agg (cs2.toList ++ (cs3.toList ++ ([]))).toArray] k R :=
  execFn_use (cfg := { opq := [62] }) (args := [.agg [.seg 0 12, .seg 1 12], .agg [.seg 2 12, .seg 3 12]]) (vals := [Value.agg cs0, Value.agg cs1, Value.agg cs2, Value.agg cs3]) (kinds := [.seg 12, .seg 12, .seg 12, .seg 12]) (by kernel_rfl) ⟨⟨cs0, rfl, hcs0⟩, ⟨⟨cs1, rfl, hcs1⟩, ⟨⟨cs2, rfl, hcs2⟩, ⟨⟨cs3, rfl, hcs3⟩, trivial⟩⟩⟩⟩ (by kernel_rfl) (by kernel_rfl) h
theorem rNorm_vc {cs0 cs1 : Array Value} (hcs0 : Seg 12 cs0) (hcs1 : Seg 12 cs1)
    (h : ∀ k0, Up k k0 → CallsG Tryz.prog 76 #[Value.agg cs0, Value.agg cs0] k0 fun k1 r0 => ∃ cs2, Seg 12 cs2 ∧ some (Value.agg cs2) = some r0 ∧
 ∀ k2, Up k1 k2 → CallsG Tryz.prog 76 #[Value.agg cs1, Value.agg cs1] k2 fun k3 r2 => ∃ cs3, Seg 12 cs3 ∧ some (Value.agg cs3) = some r2 ∧
 ∀ k4, Up k3 k4 → CallsG Tryz.prog 72 #[Value.agg cs2, Value.agg cs3] k4 fun k5 r4 => ∃ cs4, Seg 12 cs4 ∧ some (Value.agg cs4) = some r4 ∧
 ∀ k6, Up k5 k6 → R k6 (Value.agg cs4)) :
    CallsG Tryz.prog 52 #[Value.agg (cs0.toList ++ (cs1.toList ++ ([]))).toArray] k R :=
  execFn_use (cfg := { opq := [62] }) (args := [.agg [.seg 0 12, .seg 1 12]]) (vals := [Value.agg cs0, Value.agg cs1]) (kinds := [.seg 12, .seg 12]) (by kernel_rfl) ⟨⟨cs0, rfl, hcs0⟩, ⟨⟨cs1, rfl, hcs1⟩, trivial⟩⟩ (by kernel_rfl) (by kernel_rfl) h
theorem rwDiv_vc {cs0 cs1 cs2 cs3 : Array Value} (hcs0 : Seg 12 cs0) (hcs1 : Seg 12 cs1) (hcs2 : Seg 12 cs2) (hcs3 : Seg 12 cs3)
    (h : ∀ k0, Up k k0 → CallsG Tryz.prog 56 #[Value.agg (cs2.toList ++ (cs3.toList ++ ([]))).toArray] k0 fun k1 r0 => ∃ b4, some (Value.bool b4) = some r0 ∧
 (b4 = true →
 (∀ k2, Up k1 k2 → CallsG Tryz.prog 108 #[Value.int .i64 0] k2 fun k3 r2 => ∃ cs5, Seg 3 cs5 ∧ some (Value.agg cs5) = some r2 ∧
 ∀ k4, Up k3 k4 → CallsG Tryz.prog 58 #[Value.agg cs5] k4 fun k5 r4 => ∃ cs6, Seg 12 cs6 ∧ ∃ cs7, Seg 12 cs7 ∧ some (Value.agg (cs6.toList ++ (cs7.toList ++ ([]))).toArray) = some r4 ∧
 ∀ k6, Up k5 k6 → R k6 (Value.tuple #[Value.agg (cs6.toList ++ (cs7.toList ++ ([]))).toArray, Value.int .i64 3]))) ∧
 (b4 = false →
 (∀ k7, Up k1 k7 → CallsG Tryz.prog 49 #[Value.agg (cs2.toList ++ (cs3.toList ++ ([]))).toArray] k7 fun k8 r7 => ∃ cs5, Seg 12 cs5 ∧ ∃ cs6, Seg 12 cs6 ∧ some (Value.agg (cs5.toList ++ (cs6.toList ++ ([]))).toArray) = some r7 ∧
 ∀ k9, Up k8 k9 → CallsG Tryz.prog 45 #[Value.agg (cs0.toList ++ (cs1.toList ++ ([]))).toArray, Value.agg (cs5.toList ++ (cs6.toList ++ ([]))).toArray] k9 fun k10 r9 => ∃ cs7, Seg 12 cs7 ∧ ∃ cs8, Seg 12 cs8 ∧ some (Value.agg (cs7.toList ++ (cs8.toList ++ ([]))).toArray) = some r9 ∧
 ∀ k11, Up k10 k11 → CallsG Tryz.prog 52 #[Value.agg (cs2.toList ++ (cs3.toList ++ ([]))).toArray] k11 fun k12 r11 => ∃ cs9, Seg 12 cs9 ∧ some (Value.agg cs9) = some r11 ∧
 ∀ k13, Up k12 k13 → CallsG Tryz.prog 70 #[Value.agg cs7, Value.agg cs9] k13 fun k14 r13 => ∃ cs10, Seg 12 cs10 ∧ ∃ n11, some (Value.tuple #[Value.agg cs10, Value.int .i64 n11]) = some r13 ∧
 ∀ k15, Up k14 k15 → CallsG Tryz.prog 52 #[Value.agg (cs2.toList ++ (cs3.toList ++ ([]))).toArray] k15 fun k16 r15 => ∃ cs12, Seg 12 cs12 ∧ some (Value.agg cs12) = some r15 ∧
 ∀ k17, Up k16 k17 → CallsG Tryz.prog 70 #[Value.agg cs8, Value.agg cs12] k17 fun k18 r17 => ∃ cs13, Seg 12 cs13 ∧ ∃ n14, some (Value.tuple #[Value.agg cs13, Value.int .i64 n14]) = some r17 ∧
 ∀ k19, Up k18 k19 → R k19 (Value.tuple #[Value.agg (cs10.toList ++ (cs13.toList ++ ([]))).toArray, Value.int .i64 0])))) :
    CallsG Tryz.prog 38 #[Value.agg (cs0.toList ++ (cs1.toList ++ ([]))).toArray, Value.agg (cs2.toList ++ (cs3.toList ++ ([]))).toArray] k R :=
  execFn_use (cfg := { opq := [62, 34] }) (args := [.agg [.seg 0 12, .seg 1 12], .agg [.seg 2 12, .seg 3 12]]) (vals := [Value.agg cs0, Value.agg cs1, Value.agg cs2, Value.agg cs3]) (kinds := [.seg 12, .seg 12, .seg 12, .seg 12]) (by kernel_rfl) ⟨⟨cs0, rfl, hcs0⟩, ⟨⟨cs1, rfl, hcs1⟩, ⟨⟨cs2, rfl, hcs2⟩, ⟨⟨cs3, rfl, hcs3⟩, trivial⟩⟩⟩⟩ (by kernel_rfl) (by kernel_rfl) h
end Go.Proofs.YtpjakokgmgggiaaGreat

/- The reference's Surds: sums, products, quotients. (Printed by gen/refs.py.) -/
namespace Go.Proofs.YtpjakokgmgggiaaGreat.W32
open Go.RowKit Num
open Sy (Up Sees CallsG Seg)
def cat4 (c0 c1 c2 c3 : Array Value) : Array Value := (c0.toList ++ (c1.toList ++ (c2.toList ++ (c3.toList ++ ([]))))).toArray
def SQ (k : World) (cs : Array Value) (v : Q4) (K : Nat) : Prop := ∃ c0 c1 c2 c3 : Array Value, cs = cat4 c0 c1 c2 c3 ∧ QV k c0 v.a K ∧ QV k c1 v.b K ∧ QV k c2 v.c K ∧ QV k c3 v.d K
section
variable {k k' : World} {cs cs' c0 c1 c2 c3 : Array Value} {R : World → Value → Prop} {x y q q' : Rat} {v v' : Q4} {K L : Nat}
theorem QV.cast (h : QV k cs q K) (e : q = q') : QV k cs q' K := e ▸ h
theorem SQ.up (h : SQ k cs v K) (u : Up k k') : SQ k' cs v K := by
 obtain ⟨c0, c1, c2, c3, e, h0, h1, h2, h3⟩ := h
 exact ⟨c0, c1, c2, c3, e, h0.up u, h1.up u, h2.up u, h3.up u⟩
theorem SQ.mono (h : SQ k cs v K) (hL : K ≤ L) : SQ k cs v L := by
 obtain ⟨c0, c1, c2, c3, e, h0, h1, h2, h3⟩ := h
 exact ⟨c0, c1, c2, c3, e, h0.mono hL, h1.mono hL, h2.mono hL, h3.mono hL⟩
theorem seg_cat4 (h0 : Seg 3 c0) (h1 : Seg 3 c1) (h2 : Seg 3 c2) (h3 : Seg 3 c3) : Seg 12 (cat4 c0 c1 c2 c3) := by
 obtain ⟨a0, b0⟩ := h0
 obtain ⟨a1, b1⟩ := h1
 obtain ⟨a2, b2⟩ := h2
 obtain ⟨a3, b3⟩ := h3
 refine ⟨by simp [cat4, a0, a1, a2, a3], fun u hu => ?_⟩
 simp only [cat4, List.append_nil, List.mem_append] at hu
 rcases hu with hu | hu | hu | hu
 · exact b0 u hu
 · exact b1 u hu
 · exact b2 u hu
 · exact b3 u hu
theorem SQ.seg (h : SQ k cs v K) : Seg 12 cs := by
 obtain ⟨c0, c1, c2, c3, rfl, h0, h1, h2, h3⟩ := h
 exact seg_cat4 h0.seg h1.seg h2.seg h3.seg
theorem two_lit : ((2 : Int) : Rat) = 2 := rfl
theorem zero_lit : ((0 : Int) : Rat) = 0 := rfl
theorem by_v (hx : QV k cs x K) (hy : QV k cs' y L) (hK1 : 1 ≤ K) (hL1 : 1 ≤ L) (hK : K + L ≤ 10000000000) (C : ∀ k' ds, Up k k' → QV k' ds (x / y) (K + L) → R k' (.agg ds)) :
   ∀ k0, Up k k0 → CallsG Tryz.prog 152 #[.agg cs, .agg cs'] k0 R :=
 fun _ u0 => qBy_vc hx.seg hy.seg (div_v (hx.up u0) (hy.up u0) hK1 hL1 hK fun __k1 ds u1 hD => ⟨ds, hD.seg, _, rfl, fun k2 u2 => C k2 ds ((u0.trans u1).trans u2) (hD.up u2)⟩)
theorem sadd_v (hx : SQ k cs v K) (hy : SQ k cs' v' L) (hK : K + L ≤ 10000000000) (C : ∀ k' ds, Up k k' → SQ k' ds (v.add v') (K + L + 1) → R k' (.agg ds)) :
   ∀ k0, Up k k0 → CallsG Tryz.prog 72 #[.agg cs, .agg cs'] k0 R := by
 obtain ⟨c0, c1, c2, c3, rfl, x0, x1, x2, x3⟩ := hx
 obtain ⟨e0, e1, e2, e3, rfl, y0, y1, y2, y3⟩ := hy
 intro k0 u0
 replace x0 := x0.up u0
 replace x1 := x1.up u0
 replace x2 := x2.up u0
 replace x3 := x3.up u0
 replace y0 := y0.up u0
 replace y1 := y1.up u0
 replace y2 := y2.up u0
 replace y3 := y3.up u0
 replace C := fun k' ds u => C k' ds (u0.trans u)
 refine sAdd_vc x0.seg x1.seg x2.seg x3.seg y0.seg y1.seg y2.seg y3.seg ?_
 refine add_v x0 y0 hK ?_
 intro k1 d0 u1 z0
 refine ⟨d0, z0.seg, rfl, ?_⟩
 replace x1 := x1.up u1
 replace x2 := x2.up u1
 replace x3 := x3.up u1
 replace y1 := y1.up u1
 replace y2 := y2.up u1
 replace y3 := y3.up u1
 replace C := fun k' ds u => C k' ds (u1.trans u)
 refine add_v x1 y1 hK ?_
 intro k2 d1 u2 z1
 refine ⟨d1, z1.seg, rfl, ?_⟩
 replace x2 := x2.up u2
 replace x3 := x3.up u2
 replace y2 := y2.up u2
 replace y3 := y3.up u2
 replace z0 := z0.up u2
 replace C := fun k' ds u => C k' ds (u2.trans u)
 refine add_v x2 y2 hK ?_
 intro k3 d2 u3 z2
 refine ⟨d2, z2.seg, rfl, ?_⟩
 replace x3 := x3.up u3
 replace y3 := y3.up u3
 replace z0 := z0.up u3
 replace z1 := z1.up u3
 replace C := fun k' ds u => C k' ds (u3.trans u)
 refine add_v x3 y3 hK ?_
 intro k4 d3 u4 z3
 refine ⟨d3, z3.seg, rfl, ?_⟩
 replace z0 := z0.up u4
 replace z1 := z1.up u4
 replace z2 := z2.up u4
 replace C := fun k' ds u => C k' ds (u4.trans u)
 intro k5 u5
 replace z0 := z0.up u5
 replace z1 := z1.up u5
 replace z2 := z2.up u5
 replace z3 := z3.up u5
 exact C _ _ u5 ⟨d0, d1, d2, d3, rfl, z0, z1, z2, z3⟩
theorem sneg_v (hx : SQ k cs v K) (hK : K ≤ 10000000000) (C : ∀ k' ds, Up k k' → SQ k' ds v.neg K → R k' (.agg ds)) :
   ∀ k0, Up k k0 → CallsG Tryz.prog 84 #[.agg cs] k0 R := by
 obtain ⟨c0, c1, c2, c3, rfl, x0, x1, x2, x3⟩ := hx
 intro k0 u0
 replace x0 := x0.up u0
 replace x1 := x1.up u0
 replace x2 := x2.up u0
 replace x3 := x3.up u0
 replace C := fun k' ds u => C k' ds (u0.trans u)
 refine sNeg_vc x0.seg x1.seg x2.seg x3.seg ?_
 refine neg_v x0 hK ?_
 intro k1 d0 u1 z0
 refine ⟨d0, z0.seg, rfl, ?_⟩
 replace x1 := x1.up u1
 replace x2 := x2.up u1
 replace x3 := x3.up u1
 replace C := fun k' ds u => C k' ds (u1.trans u)
 refine neg_v x1 hK ?_
 intro k2 d1 u2 z1
 refine ⟨d1, z1.seg, rfl, ?_⟩
 replace x2 := x2.up u2
 replace x3 := x3.up u2
 replace z0 := z0.up u2
 replace C := fun k' ds u => C k' ds (u2.trans u)
 refine neg_v x2 hK ?_
 intro k3 d2 u3 z2
 refine ⟨d2, z2.seg, rfl, ?_⟩
 replace x3 := x3.up u3
 replace z0 := z0.up u3
 replace z1 := z1.up u3
 replace C := fun k' ds u => C k' ds (u3.trans u)
 refine neg_v x3 hK ?_
 intro k4 d3 u4 z3
 refine ⟨d3, z3.seg, rfl, ?_⟩
 replace z0 := z0.up u4
 replace z1 := z1.up u4
 replace z2 := z2.up u4
 replace C := fun k' ds u => C k' ds (u4.trans u)
 intro k5 u5
 replace z0 := z0.up u5
 replace z1 := z1.up u5
 replace z2 := z2.up u5
 replace z3 := z3.up u5
 exact C _ _ u5 ⟨d0, d1, d2, d3, rfl, z0, z1, z2, z3⟩
theorem ssub_v (hx : SQ k cs v K) (hy : SQ k cs' v' L) (hK : K + L ≤ 10000000000) (C : ∀ k' ds, Up k k' → SQ k' ds (v.sub v') (K + L + 1) → R k' (.agg ds)) :
   ∀ k0, Up k k0 → CallsG Tryz.prog 74 #[.agg cs, .agg cs'] k0 R := by
 intro k0 u0
 exact sSub_vc hx.seg hy.seg (sneg_v (hy.up u0) (by omega) fun k1 d1 u1 h1 => ⟨d1, h1.seg, rfl, sadd_v ((hx.up u0).up u1) h1 hK fun k3 d3 u3 h3 => ⟨d3, h3.seg, rfl, fun k4 u4 => C k4 d3 (((u0.trans u1).trans u3).trans u4) (h3.up u4)⟩⟩)
theorem real_v (hx : QV k cs q K) (hK : 2 ≤ K) (C : ∀ k' ds, Up k k' → SQ k' ds (Q4.real q) K → R k' (.agg ds)) :
   ∀ k0, Up k k0 → CallsG Tryz.prog 82 #[.agg cs] k0 R := by
 intro k0 u0
 refine sReal_vc hx.seg ?_
 refine whole_v (by decide) (by decide) fun k1 d1 u1 h1 => ⟨d1, h1.seg, rfl, ?_⟩
 refine whole_v (by decide) (by decide) fun k2 d2 u2 h2 => ⟨d2, h2.seg, rfl, ?_⟩
 refine whole_v (by decide) (by decide) fun k3 d3 u3 h3 => ⟨d3, h3.seg, rfl, fun k4 u4 => ?_⟩
 exact C k4 _ ((((u0.trans u1).trans u2).trans u3).trans u4) ⟨cs, d1, d2, d3, rfl, ((((hx.up u0).up u1).up u2).up u3).up u4, (((h1.up u2).up u3).up u4).mono hK, ((h2.up u3).up u4).mono hK, (h3.up u4).mono hK⟩
set_option maxHeartbeats 4000000 in
theorem smul_v (hx : SQ k cs v K) (hy : SQ k cs' v' L) (hK : 4 * (K + L) + 22 ≤ 10000000000) (C : ∀ k' ds, Up k k' → SQ k' ds (v.mul v') (4 * (K + L) + 22) → R k' (.agg ds)) :
   ∀ k0, Up k k0 → CallsG Tryz.prog 76 #[.agg cs, .agg cs'] k0 R := by
 obtain ⟨c0, c1, c2, c3, rfl, x0, x1, x2, x3⟩ := hx
 obtain ⟨e0, e1, e2, e3, rfl, y0, y1, y2, y3⟩ := hy
 intro k0 u0
 replace x0 := x0.up u0
 replace x1 := x1.up u0
 replace x2 := x2.up u0
 replace x3 := x3.up u0
 replace y0 := y0.up u0
 replace y1 := y1.up u0
 replace y2 := y2.up u0
 replace y3 := y3.up u0
 replace C := fun k' ds u => C k' ds (u0.trans u)
 refine sMul_vc x0.seg x1.seg x2.seg x3.seg y0.seg y1.seg y2.seg y3.seg ?_
 refine whole_v (by decide) (by decide) ?_
 intro k1 w0 u1 hw0
 refine ⟨w0, hw0.seg, rfl, ?_⟩
 replace x0 := x0.up u1
 replace x1 := x1.up u1
 replace x2 := x2.up u1
 replace x3 := x3.up u1
 replace y0 := y0.up u1
 replace y1 := y1.up u1
 replace y2 := y2.up u1
 replace y3 := y3.up u1
 replace C := fun k' ds u => C k' ds (u1.trans u)
 refine real_v hw0 (by decide) ?_
 rintro k2 _ u2 ⟨o0, o1, o2, o3, rfl, out0, out1, out2, out3⟩
 refine ⟨o0, out0.seg, o1, out1.seg, o2, out2.seg, o3, out3.seg, rfl, ?_⟩
 replace x0 := x0.up u2
 replace x1 := x1.up u2
 replace x2 := x2.up u2
 replace x3 := x3.up u2
 replace y0 := y0.up u2
 replace y1 := y1.up u2
 replace y2 := y2.up u2
 replace y3 := y3.up u2
 replace C := fun k' ds u => C k' ds (u2.trans u)
 clear hw0
 refine mul_v x0 y0 (by omega) ?_
 intro k3 a00 u3 p00
 refine ⟨a00, p00.seg, rfl, ?_⟩
 replace x0 := x0.up u3
 replace x1 := x1.up u3
 replace x2 := x2.up u3
 replace x3 := x3.up u3
 replace y0 := y0.up u3
 replace y1 := y1.up u3
 replace y2 := y2.up u3
 replace y3 := y3.up u3
 replace out0 := out0.up u3
 replace out1 := out1.up u3
 replace out2 := out2.up u3
 replace out3 := out3.up u3
 replace C := fun k' ds u => C k' ds (u3.trans u)
 refine add_v out0 p00 (by omega) ?_
 intro k4 s00 u4 o00
 refine ⟨s00, o00.seg, rfl, ?_⟩
 replace x0 := x0.up u4
 replace x1 := x1.up u4
 replace x2 := x2.up u4
 replace x3 := x3.up u4
 replace y0 := y0.up u4
 replace y1 := y1.up u4
 replace y2 := y2.up u4
 replace y3 := y3.up u4
 replace out1 := out1.up u4
 replace out2 := out2.up u4
 replace out3 := out3.up u4
 replace C := fun k' ds u => C k' ds (u4.trans u)
 clear out0 p00
 refine mul_v x0 y1 (by omega) ?_
 intro k5 a01 u5 p01
 refine ⟨a01, p01.seg, rfl, ?_⟩
 replace x0 := x0.up u5
 replace x1 := x1.up u5
 replace x2 := x2.up u5
 replace x3 := x3.up u5
 replace y0 := y0.up u5
 replace y1 := y1.up u5
 replace y2 := y2.up u5
 replace y3 := y3.up u5
 replace out1 := out1.up u5
 replace out2 := out2.up u5
 replace out3 := out3.up u5
 replace o00 := o00.up u5
 replace C := fun k' ds u => C k' ds (u5.trans u)
 refine add_v out1 p01 (by omega) ?_
 intro k6 s01 u6 o01
 refine ⟨s01, o01.seg, rfl, ?_⟩
 replace x0 := x0.up u6
 replace x1 := x1.up u6
 replace x2 := x2.up u6
 replace x3 := x3.up u6
 replace y0 := y0.up u6
 replace y1 := y1.up u6
 replace y2 := y2.up u6
 replace y3 := y3.up u6
 replace out2 := out2.up u6
 replace out3 := out3.up u6
 replace o00 := o00.up u6
 replace C := fun k' ds u => C k' ds (u6.trans u)
 clear out1 p01
 refine mul_v x0 y2 (by omega) ?_
 intro k7 a02 u7 p02
 refine ⟨a02, p02.seg, rfl, ?_⟩
 replace x0 := x0.up u7
 replace x1 := x1.up u7
 replace x2 := x2.up u7
 replace x3 := x3.up u7
 replace y0 := y0.up u7
 replace y1 := y1.up u7
 replace y2 := y2.up u7
 replace y3 := y3.up u7
 replace out2 := out2.up u7
 replace out3 := out3.up u7
 replace o00 := o00.up u7
 replace o01 := o01.up u7
 replace C := fun k' ds u => C k' ds (u7.trans u)
 refine add_v out2 p02 (by omega) ?_
 intro k8 s02 u8 o02
 refine ⟨s02, o02.seg, rfl, ?_⟩
 replace x0 := x0.up u8
 replace x1 := x1.up u8
 replace x2 := x2.up u8
 replace x3 := x3.up u8
 replace y0 := y0.up u8
 replace y1 := y1.up u8
 replace y2 := y2.up u8
 replace y3 := y3.up u8
 replace out3 := out3.up u8
 replace o00 := o00.up u8
 replace o01 := o01.up u8
 replace C := fun k' ds u => C k' ds (u8.trans u)
 clear out2 p02
 refine mul_v x0 y3 (by omega) ?_
 intro k9 a03 u9 p03
 refine ⟨a03, p03.seg, rfl, ?_⟩
 replace x1 := x1.up u9
 replace x2 := x2.up u9
 replace x3 := x3.up u9
 replace y0 := y0.up u9
 replace y1 := y1.up u9
 replace y2 := y2.up u9
 replace y3 := y3.up u9
 replace out3 := out3.up u9
 replace o00 := o00.up u9
 replace o01 := o01.up u9
 replace o02 := o02.up u9
 replace C := fun k' ds u => C k' ds (u9.trans u)
 refine add_v out3 p03 (by omega) ?_
 intro k10 s03 u10 o03
 refine ⟨s03, o03.seg, rfl, ?_⟩
 replace x1 := x1.up u10
 replace x2 := x2.up u10
 replace x3 := x3.up u10
 replace y0 := y0.up u10
 replace y1 := y1.up u10
 replace y2 := y2.up u10
 replace y3 := y3.up u10
 replace o00 := o00.up u10
 replace o01 := o01.up u10
 replace o02 := o02.up u10
 replace C := fun k' ds u => C k' ds (u10.trans u)
 clear out3 p03
 refine mul_v x1 y0 (by omega) ?_
 intro k11 a10 u11 p10
 refine ⟨a10, p10.seg, rfl, ?_⟩
 replace x1 := x1.up u11
 replace x2 := x2.up u11
 replace x3 := x3.up u11
 replace y0 := y0.up u11
 replace y1 := y1.up u11
 replace y2 := y2.up u11
 replace y3 := y3.up u11
 replace o00 := o00.up u11
 replace o01 := o01.up u11
 replace o02 := o02.up u11
 replace o03 := o03.up u11
 replace C := fun k' ds u => C k' ds (u11.trans u)
 refine add_v o01 p10 (by omega) ?_
 intro k12 s10 u12 o10
 refine ⟨s10, o10.seg, rfl, ?_⟩
 replace x1 := x1.up u12
 replace x2 := x2.up u12
 replace x3 := x3.up u12
 replace y0 := y0.up u12
 replace y1 := y1.up u12
 replace y2 := y2.up u12
 replace y3 := y3.up u12
 replace o00 := o00.up u12
 replace o02 := o02.up u12
 replace o03 := o03.up u12
 replace C := fun k' ds u => C k' ds (u12.trans u)
 clear o01 p10
 refine mul_v x1 y1 (by omega) ?_
 intro k13 a11 u13 p11
 refine ⟨a11, p11.seg, rfl, ?_⟩
 replace x1 := x1.up u13
 replace x2 := x2.up u13
 replace x3 := x3.up u13
 replace y0 := y0.up u13
 replace y1 := y1.up u13
 replace y2 := y2.up u13
 replace y3 := y3.up u13
 replace o00 := o00.up u13
 replace o02 := o02.up u13
 replace o03 := o03.up u13
 replace o10 := o10.up u13
 replace C := fun k' ds u => C k' ds (u13.trans u)
 refine whole_v (by decide) (by decide) ?_
 intro k14 w11 u14 hw11
 refine ⟨w11, hw11.seg, rfl, ?_⟩
 replace x1 := x1.up u14
 replace x2 := x2.up u14
 replace x3 := x3.up u14
 replace y0 := y0.up u14
 replace y1 := y1.up u14
 replace y2 := y2.up u14
 replace y3 := y3.up u14
 replace o00 := o00.up u14
 replace o02 := o02.up u14
 replace o03 := o03.up u14
 replace o10 := o10.up u14
 replace p11 := p11.up u14
 replace C := fun k' ds u => C k' ds (u14.trans u)
 refine mul_v p11 hw11 (by omega) ?_
 intro k15 b112 u15 r112
 refine ⟨b112, r112.seg, rfl, ?_⟩
 replace x1 := x1.up u15
 replace x2 := x2.up u15
 replace x3 := x3.up u15
 replace y0 := y0.up u15
 replace y1 := y1.up u15
 replace y2 := y2.up u15
 replace y3 := y3.up u15
 replace o00 := o00.up u15
 replace o02 := o02.up u15
 replace o03 := o03.up u15
 replace o10 := o10.up u15
 replace C := fun k' ds u => C k' ds (u15.trans u)
 clear p11 hw11
 refine add_v o00 r112 (by omega) ?_
 intro k16 s11 u16 o11
 refine ⟨s11, o11.seg, rfl, ?_⟩
 replace x1 := x1.up u16
 replace x2 := x2.up u16
 replace x3 := x3.up u16
 replace y0 := y0.up u16
 replace y1 := y1.up u16
 replace y2 := y2.up u16
 replace y3 := y3.up u16
 replace o02 := o02.up u16
 replace o03 := o03.up u16
 replace o10 := o10.up u16
 replace C := fun k' ds u => C k' ds (u16.trans u)
 clear o00 r112
 refine mul_v x1 y2 (by omega) ?_
 intro k17 a12 u17 p12
 refine ⟨a12, p12.seg, rfl, ?_⟩
 replace x1 := x1.up u17
 replace x2 := x2.up u17
 replace x3 := x3.up u17
 replace y0 := y0.up u17
 replace y1 := y1.up u17
 replace y2 := y2.up u17
 replace y3 := y3.up u17
 replace o02 := o02.up u17
 replace o03 := o03.up u17
 replace o10 := o10.up u17
 replace o11 := o11.up u17
 replace C := fun k' ds u => C k' ds (u17.trans u)
 refine add_v o03 p12 (by omega) ?_
 intro k18 s12 u18 o12
 refine ⟨s12, o12.seg, rfl, ?_⟩
 replace x1 := x1.up u18
 replace x2 := x2.up u18
 replace x3 := x3.up u18
 replace y0 := y0.up u18
 replace y1 := y1.up u18
 replace y2 := y2.up u18
 replace y3 := y3.up u18
 replace o02 := o02.up u18
 replace o10 := o10.up u18
 replace o11 := o11.up u18
 replace C := fun k' ds u => C k' ds (u18.trans u)
 clear o03 p12
 refine mul_v x1 y3 (by omega) ?_
 intro k19 a13 u19 p13
 refine ⟨a13, p13.seg, rfl, ?_⟩
 replace x2 := x2.up u19
 replace x3 := x3.up u19
 replace y0 := y0.up u19
 replace y1 := y1.up u19
 replace y2 := y2.up u19
 replace y3 := y3.up u19
 replace o02 := o02.up u19
 replace o10 := o10.up u19
 replace o11 := o11.up u19
 replace o12 := o12.up u19
 replace C := fun k' ds u => C k' ds (u19.trans u)
 refine whole_v (by decide) (by decide) ?_
 intro k20 w13 u20 hw13
 refine ⟨w13, hw13.seg, rfl, ?_⟩
 replace x2 := x2.up u20
 replace x3 := x3.up u20
 replace y0 := y0.up u20
 replace y1 := y1.up u20
 replace y2 := y2.up u20
 replace y3 := y3.up u20
 replace o02 := o02.up u20
 replace o10 := o10.up u20
 replace o11 := o11.up u20
 replace o12 := o12.up u20
 replace p13 := p13.up u20
 replace C := fun k' ds u => C k' ds (u20.trans u)
 refine mul_v p13 hw13 (by omega) ?_
 intro k21 b132 u21 r132
 refine ⟨b132, r132.seg, rfl, ?_⟩
 replace x2 := x2.up u21
 replace x3 := x3.up u21
 replace y0 := y0.up u21
 replace y1 := y1.up u21
 replace y2 := y2.up u21
 replace y3 := y3.up u21
 replace o02 := o02.up u21
 replace o10 := o10.up u21
 replace o11 := o11.up u21
 replace o12 := o12.up u21
 replace C := fun k' ds u => C k' ds (u21.trans u)
 clear p13 hw13
 refine add_v o02 r132 (by omega) ?_
 intro k22 s13 u22 o13
 refine ⟨s13, o13.seg, rfl, ?_⟩
 replace x2 := x2.up u22
 replace x3 := x3.up u22
 replace y0 := y0.up u22
 replace y1 := y1.up u22
 replace y2 := y2.up u22
 replace y3 := y3.up u22
 replace o10 := o10.up u22
 replace o11 := o11.up u22
 replace o12 := o12.up u22
 replace C := fun k' ds u => C k' ds (u22.trans u)
 clear o02 r132
 refine mul_v x2 y0 (by omega) ?_
 intro k23 a20 u23 p20
 refine ⟨a20, p20.seg, rfl, ?_⟩
 replace x2 := x2.up u23
 replace x3 := x3.up u23
 replace y0 := y0.up u23
 replace y1 := y1.up u23
 replace y2 := y2.up u23
 replace y3 := y3.up u23
 replace o10 := o10.up u23
 replace o11 := o11.up u23
 replace o12 := o12.up u23
 replace o13 := o13.up u23
 replace C := fun k' ds u => C k' ds (u23.trans u)
 refine add_v o13 p20 (by omega) ?_
 intro k24 s20 u24 o20
 refine ⟨s20, o20.seg, rfl, ?_⟩
 replace x2 := x2.up u24
 replace x3 := x3.up u24
 replace y0 := y0.up u24
 replace y1 := y1.up u24
 replace y2 := y2.up u24
 replace y3 := y3.up u24
 replace o10 := o10.up u24
 replace o11 := o11.up u24
 replace o12 := o12.up u24
 replace C := fun k' ds u => C k' ds (u24.trans u)
 clear o13 p20
 refine mul_v x2 y1 (by omega) ?_
 intro k25 a21 u25 p21
 refine ⟨a21, p21.seg, rfl, ?_⟩
 replace x2 := x2.up u25
 replace x3 := x3.up u25
 replace y0 := y0.up u25
 replace y1 := y1.up u25
 replace y2 := y2.up u25
 replace y3 := y3.up u25
 replace o10 := o10.up u25
 replace o11 := o11.up u25
 replace o12 := o12.up u25
 replace o20 := o20.up u25
 replace C := fun k' ds u => C k' ds (u25.trans u)
 refine add_v o12 p21 (by omega) ?_
 intro k26 s21 u26 o21
 refine ⟨s21, o21.seg, rfl, ?_⟩
 replace x2 := x2.up u26
 replace x3 := x3.up u26
 replace y0 := y0.up u26
 replace y1 := y1.up u26
 replace y2 := y2.up u26
 replace y3 := y3.up u26
 replace o10 := o10.up u26
 replace o11 := o11.up u26
 replace o20 := o20.up u26
 replace C := fun k' ds u => C k' ds (u26.trans u)
 clear o12 p21
 refine mul_v x2 y2 (by omega) ?_
 intro k27 a22 u27 p22
 refine ⟨a22, p22.seg, rfl, ?_⟩
 replace x2 := x2.up u27
 replace x3 := x3.up u27
 replace y0 := y0.up u27
 replace y1 := y1.up u27
 replace y2 := y2.up u27
 replace y3 := y3.up u27
 replace o10 := o10.up u27
 replace o11 := o11.up u27
 replace o20 := o20.up u27
 replace o21 := o21.up u27
 replace C := fun k' ds u => C k' ds (u27.trans u)
 refine whole_v (by decide) (by decide) ?_
 intro k28 w22 u28 hw22
 refine ⟨w22, hw22.seg, rfl, ?_⟩
 replace x2 := x2.up u28
 replace x3 := x3.up u28
 replace y0 := y0.up u28
 replace y1 := y1.up u28
 replace y2 := y2.up u28
 replace y3 := y3.up u28
 replace o10 := o10.up u28
 replace o11 := o11.up u28
 replace o20 := o20.up u28
 replace o21 := o21.up u28
 replace p22 := p22.up u28
 replace C := fun k' ds u => C k' ds (u28.trans u)
 refine mul_v p22 hw22 (by omega) ?_
 intro k29 b223 u29 r223
 refine ⟨b223, r223.seg, rfl, ?_⟩
 replace x2 := x2.up u29
 replace x3 := x3.up u29
 replace y0 := y0.up u29
 replace y1 := y1.up u29
 replace y2 := y2.up u29
 replace y3 := y3.up u29
 replace o10 := o10.up u29
 replace o11 := o11.up u29
 replace o20 := o20.up u29
 replace o21 := o21.up u29
 replace C := fun k' ds u => C k' ds (u29.trans u)
 clear p22 hw22
 refine add_v o11 r223 (by omega) ?_
 intro k30 s22 u30 o22
 refine ⟨s22, o22.seg, rfl, ?_⟩
 replace x2 := x2.up u30
 replace x3 := x3.up u30
 replace y0 := y0.up u30
 replace y1 := y1.up u30
 replace y2 := y2.up u30
 replace y3 := y3.up u30
 replace o10 := o10.up u30
 replace o20 := o20.up u30
 replace o21 := o21.up u30
 replace C := fun k' ds u => C k' ds (u30.trans u)
 clear o11 r223
 refine mul_v x2 y3 (by omega) ?_
 intro k31 a23 u31 p23
 refine ⟨a23, p23.seg, rfl, ?_⟩
 replace x3 := x3.up u31
 replace y0 := y0.up u31
 replace y1 := y1.up u31
 replace y2 := y2.up u31
 replace y3 := y3.up u31
 replace o10 := o10.up u31
 replace o20 := o20.up u31
 replace o21 := o21.up u31
 replace o22 := o22.up u31
 replace C := fun k' ds u => C k' ds (u31.trans u)
 refine whole_v (by decide) (by decide) ?_
 intro k32 w23 u32 hw23
 refine ⟨w23, hw23.seg, rfl, ?_⟩
 replace x3 := x3.up u32
 replace y0 := y0.up u32
 replace y1 := y1.up u32
 replace y2 := y2.up u32
 replace y3 := y3.up u32
 replace o10 := o10.up u32
 replace o20 := o20.up u32
 replace o21 := o21.up u32
 replace o22 := o22.up u32
 replace p23 := p23.up u32
 replace C := fun k' ds u => C k' ds (u32.trans u)
 refine mul_v p23 hw23 (by omega) ?_
 intro k33 b233 u33 r233
 refine ⟨b233, r233.seg, rfl, ?_⟩
 replace x3 := x3.up u33
 replace y0 := y0.up u33
 replace y1 := y1.up u33
 replace y2 := y2.up u33
 replace y3 := y3.up u33
 replace o10 := o10.up u33
 replace o20 := o20.up u33
 replace o21 := o21.up u33
 replace o22 := o22.up u33
 replace C := fun k' ds u => C k' ds (u33.trans u)
 clear p23 hw23
 refine add_v o10 r233 (by omega) ?_
 intro k34 s23 u34 o23
 refine ⟨s23, o23.seg, rfl, ?_⟩
 replace x3 := x3.up u34
 replace y0 := y0.up u34
 replace y1 := y1.up u34
 replace y2 := y2.up u34
 replace y3 := y3.up u34
 replace o20 := o20.up u34
 replace o21 := o21.up u34
 replace o22 := o22.up u34
 replace C := fun k' ds u => C k' ds (u34.trans u)
 clear o10 r233
 refine mul_v x3 y0 (by omega) ?_
 intro k35 a30 u35 p30
 refine ⟨a30, p30.seg, rfl, ?_⟩
 replace x3 := x3.up u35
 replace y1 := y1.up u35
 replace y2 := y2.up u35
 replace y3 := y3.up u35
 replace o20 := o20.up u35
 replace o21 := o21.up u35
 replace o22 := o22.up u35
 replace o23 := o23.up u35
 replace C := fun k' ds u => C k' ds (u35.trans u)
 refine add_v o21 p30 (by omega) ?_
 intro k36 s30 u36 o30
 refine ⟨s30, o30.seg, rfl, ?_⟩
 replace x3 := x3.up u36
 replace y1 := y1.up u36
 replace y2 := y2.up u36
 replace y3 := y3.up u36
 replace o20 := o20.up u36
 replace o22 := o22.up u36
 replace o23 := o23.up u36
 replace C := fun k' ds u => C k' ds (u36.trans u)
 clear o21 p30
 refine mul_v x3 y1 (by omega) ?_
 intro k37 a31 u37 p31
 refine ⟨a31, p31.seg, rfl, ?_⟩
 replace x3 := x3.up u37
 replace y2 := y2.up u37
 replace y3 := y3.up u37
 replace o20 := o20.up u37
 replace o22 := o22.up u37
 replace o23 := o23.up u37
 replace o30 := o30.up u37
 replace C := fun k' ds u => C k' ds (u37.trans u)
 refine whole_v (by decide) (by decide) ?_
 intro k38 w31 u38 hw31
 refine ⟨w31, hw31.seg, rfl, ?_⟩
 replace x3 := x3.up u38
 replace y2 := y2.up u38
 replace y3 := y3.up u38
 replace o20 := o20.up u38
 replace o22 := o22.up u38
 replace o23 := o23.up u38
 replace o30 := o30.up u38
 replace p31 := p31.up u38
 replace C := fun k' ds u => C k' ds (u38.trans u)
 refine mul_v p31 hw31 (by omega) ?_
 intro k39 b312 u39 r312
 refine ⟨b312, r312.seg, rfl, ?_⟩
 replace x3 := x3.up u39
 replace y2 := y2.up u39
 replace y3 := y3.up u39
 replace o20 := o20.up u39
 replace o22 := o22.up u39
 replace o23 := o23.up u39
 replace o30 := o30.up u39
 replace C := fun k' ds u => C k' ds (u39.trans u)
 clear p31 hw31
 refine add_v o20 r312 (by omega) ?_
 intro k40 s31 u40 o31
 refine ⟨s31, o31.seg, rfl, ?_⟩
 replace x3 := x3.up u40
 replace y2 := y2.up u40
 replace y3 := y3.up u40
 replace o22 := o22.up u40
 replace o23 := o23.up u40
 replace o30 := o30.up u40
 replace C := fun k' ds u => C k' ds (u40.trans u)
 clear o20 r312
 refine mul_v x3 y2 (by omega) ?_
 intro k41 a32 u41 p32
 refine ⟨a32, p32.seg, rfl, ?_⟩
 replace x3 := x3.up u41
 replace y3 := y3.up u41
 replace o22 := o22.up u41
 replace o23 := o23.up u41
 replace o30 := o30.up u41
 replace o31 := o31.up u41
 replace C := fun k' ds u => C k' ds (u41.trans u)
 refine whole_v (by decide) (by decide) ?_
 intro k42 w32 u42 hw32
 refine ⟨w32, hw32.seg, rfl, ?_⟩
 replace x3 := x3.up u42
 replace y3 := y3.up u42
 replace o22 := o22.up u42
 replace o23 := o23.up u42
 replace o30 := o30.up u42
 replace o31 := o31.up u42
 replace p32 := p32.up u42
 replace C := fun k' ds u => C k' ds (u42.trans u)
 refine mul_v p32 hw32 (by omega) ?_
 intro k43 b323 u43 r323
 refine ⟨b323, r323.seg, rfl, ?_⟩
 replace x3 := x3.up u43
 replace y3 := y3.up u43
 replace o22 := o22.up u43
 replace o23 := o23.up u43
 replace o30 := o30.up u43
 replace o31 := o31.up u43
 replace C := fun k' ds u => C k' ds (u43.trans u)
 clear p32 hw32
 refine add_v o23 r323 (by omega) ?_
 intro k44 s32 u44 o32
 refine ⟨s32, o32.seg, rfl, ?_⟩
 replace x3 := x3.up u44
 replace y3 := y3.up u44
 replace o22 := o22.up u44
 replace o30 := o30.up u44
 replace o31 := o31.up u44
 replace C := fun k' ds u => C k' ds (u44.trans u)
 clear o23 r323
 refine mul_v x3 y3 (by omega) ?_
 intro k45 a33 u45 p33
 refine ⟨a33, p33.seg, rfl, ?_⟩
 replace o22 := o22.up u45
 replace o30 := o30.up u45
 replace o31 := o31.up u45
 replace o32 := o32.up u45
 replace C := fun k' ds u => C k' ds (u45.trans u)
 refine whole_v (by decide) (by decide) ?_
 intro k46 w33 u46 hw33
 refine ⟨w33, hw33.seg, rfl, ?_⟩
 replace o22 := o22.up u46
 replace o30 := o30.up u46
 replace o31 := o31.up u46
 replace o32 := o32.up u46
 replace p33 := p33.up u46
 replace C := fun k' ds u => C k' ds (u46.trans u)
 refine mul_v p33 hw33 (by omega) ?_
 intro k47 b332 u47 r332
 refine ⟨b332, r332.seg, rfl, ?_⟩
 replace o22 := o22.up u47
 replace o30 := o30.up u47
 replace o31 := o31.up u47
 replace o32 := o32.up u47
 replace hw33 := hw33.up u47
 replace C := fun k' ds u => C k' ds (u47.trans u)
 clear p33 hw33
 refine whole_v (by decide) (by decide) ?_
 intro k48 w33 u48 hw33
 refine ⟨w33, hw33.seg, rfl, ?_⟩
 replace o22 := o22.up u48
 replace o30 := o30.up u48
 replace o31 := o31.up u48
 replace o32 := o32.up u48
 replace r332 := r332.up u48
 replace C := fun k' ds u => C k' ds (u48.trans u)
 refine mul_v r332 hw33 (by omega) ?_
 intro k49 b333 u49 r333
 refine ⟨b333, r333.seg, rfl, ?_⟩
 replace o22 := o22.up u49
 replace o30 := o30.up u49
 replace o31 := o31.up u49
 replace o32 := o32.up u49
 replace C := fun k' ds u => C k' ds (u49.trans u)
 clear r332 hw33
 refine add_v o22 r333 (by omega) ?_
 intro k50 s33 u50 o33
 refine ⟨s33, o33.seg, rfl, ?_⟩
 replace o30 := o30.up u50
 replace o31 := o31.up u50
 replace o32 := o32.up u50
 replace C := fun k' ds u => C k' ds (u50.trans u)
 clear o22 r333
 intro k51 u51
 replace o30 := o30.up u51
 replace o31 := o31.up u51
 replace o32 := o32.up u51
 replace o33 := o33.up u51
 exact C _ _ u51 ⟨_, _, _, _, rfl, (o33.mono (by omega)).cast (by simp only [Q4.mul, Q4.real, zero_lit]; grind), (o32.mono (by omega)).cast (by simp only [Q4.mul, Q4.real, zero_lit]; grind), (o31.mono (by omega)).cast (by simp only [Q4.mul, Q4.real, zero_lit, two_lit]; grind), (o30.mono (by omega)).cast (by simp only [Q4.mul, Q4.real, zero_lit]; grind)⟩
end
end Go.Proofs.YtpjakokgmgggiaaGreat.W32

/- What is to be shown of the calls of some functions. (Printed by gen/vc.py.) -/
namespace Go.Proofs.YtpjakokgmgggiaaGreat
open Go.RowKit
open Sy (Up Sees CallsG Seg execFn_use)
set_option maxRecDepth 100000
variable {k : World} {R : World → Value → Prop}
theorem rsText_vc {cs0 cs1 cs2 cs3 : Array Value} (hcs0 : Seg 3 cs0) (hcs1 : Seg 3 cs1) (hcs2 : Seg 3 cs2) (hcs3 : Seg 3 cs3)
    (h : ∃ I0 : Nat → World → List Value → Prop, (∃ m0, ∀ k0, Up k k0 → I0 m0 k0 [Value.string ⟨#[]⟩, Value.int .i64 0]) ∧
 ∀ m0 k0 vs0, Up k k0 → I0 m0 k0 vs0 → ∃ s4, ∃ n5, some [Value.string s4, Value.int .i64 n5] = some vs0 ∧
 (((n5 : Int) == 0) = true →
 (∀ k1, Up k0 k1 → CallsG Tryz.prog 79 #[Value.agg cs0] k1 fun k2 r1 => ∃ b6, some (Value.bool b6) = some r1 ∧
 (b6 = true →
 (∀ k3, Up k2 k3 → ∃ m, m < m0 ∧ I0 m k3 [Value.string s4, Value.int .i64 1])) ∧
 (b6 = false →
 (((!(ByteArray.toList s4 == ByteArray.toList ⟨#[]⟩)) = true →
 (∀ k4, Up k2 k4 → CallsG Tryz.prog 146 #[Value.agg cs0] k4 fun k5 r4 => ∃ n7, some (Value.int .i64 n7) = some r4 ∧
 ((decide ((n7 : Int) > 0)) = true →
 ((decide (((ByteArray.size s4 + ByteArray.size ⟨#[43]⟩ : Nat) : Int) ≤ 9223372036854775807)) = true ∧
 (∀ k6, Up k5 k6 → CallsG Tryz.prog 138 #[Value.agg cs0] k6 fun k7 r6 => ∃ s8, some (Value.string s8) = some r6 ∧
 (decide (((ByteArray.size (s4 ++ ⟨#[43]⟩) + ByteArray.size s8 : Nat) : Int) ≤ 9223372036854775807)) = true ∧
 ((decide (((ByteArray.size ((s4 ++ ⟨#[43]⟩) ++ s8) + ByteArray.size ⟨#[]⟩ : Nat) : Int) ≤ 9223372036854775807)) = true ∧
 (∀ k8, Up k7 k8 → ∃ m, m < m0 ∧ I0 m k8 [Value.string (((s4 ++ ⟨#[43]⟩) ++ s8) ++ ⟨#[]⟩), Value.int .i64 1]))))) ∧
 ((decide ((n7 : Int) > 0)) = false →
 (∀ k9, Up k5 k9 → CallsG Tryz.prog 138 #[Value.agg cs0] k9 fun k10 r9 => ∃ s8, some (Value.string s8) = some r9 ∧
 (decide (((ByteArray.size s4 + ByteArray.size s8 : Nat) : Int) ≤ 9223372036854775807)) = true ∧
 ((decide (((ByteArray.size (s4 ++ s8) + ByteArray.size ⟨#[]⟩ : Nat) : Int) ≤ 9223372036854775807)) = true ∧
 (∀ k11, Up k10 k11 → ∃ m, m < m0 ∧ I0 m k11 [Value.string ((s4 ++ s8) ++ ⟨#[]⟩), Value.int .i64 1])))))) ∧
 ((!(ByteArray.toList s4 == ByteArray.toList ⟨#[]⟩)) = false →
 (∀ k12, Up k2 k12 → CallsG Tryz.prog 138 #[Value.agg cs0] k12 fun k13 r12 => ∃ s7, some (Value.string s7) = some r12 ∧
 (decide (((ByteArray.size s4 + ByteArray.size s7 : Nat) : Int) ≤ 9223372036854775807)) = true ∧
 ((decide (((ByteArray.size (s4 ++ s7) + ByteArray.size ⟨#[]⟩ : Nat) : Int) ≤ 9223372036854775807)) = true ∧
 (∀ k14, Up k13 k14 → ∃ m, m < m0 ∧ I0 m k14 [Value.string ((s4 ++ s7) ++ ⟨#[]⟩), Value.int .i64 1])))))))) ∧
 (((n5 : Int) == 0) = false →
 ((((n5 : Int) == 1) = true →
 (∀ k15, Up k0 k15 → CallsG Tryz.prog 79 #[Value.agg cs1] k15 fun k16 r15 => ∃ b6, some (Value.bool b6) = some r15 ∧
 (b6 = true →
 (∀ k17, Up k16 k17 → ∃ m, m < m0 ∧ I0 m k17 [Value.string s4, Value.int .i64 2])) ∧
 (b6 = false →
 (((!(ByteArray.toList s4 == ByteArray.toList ⟨#[]⟩)) = true →
 (∀ k18, Up k16 k18 → CallsG Tryz.prog 146 #[Value.agg cs1] k18 fun k19 r18 => ∃ n7, some (Value.int .i64 n7) = some r18 ∧
 ((decide ((n7 : Int) > 0)) = true →
 ((decide (((ByteArray.size s4 + ByteArray.size ⟨#[43]⟩ : Nat) : Int) ≤ 9223372036854775807)) = true ∧
 (∀ k20, Up k19 k20 → CallsG Tryz.prog 138 #[Value.agg cs1] k20 fun k21 r20 => ∃ s8, some (Value.string s8) = some r20 ∧
 (decide (((ByteArray.size (s4 ++ ⟨#[43]⟩) + ByteArray.size s8 : Nat) : Int) ≤ 9223372036854775807)) = true ∧
 ((decide (((ByteArray.size ((s4 ++ ⟨#[43]⟩) ++ s8) + ByteArray.size ⟨#[114, 50]⟩ : Nat) : Int) ≤ 9223372036854775807)) = true ∧
 (∀ k22, Up k21 k22 → ∃ m, m < m0 ∧ I0 m k22 [Value.string (((s4 ++ ⟨#[43]⟩) ++ s8) ++ ⟨#[114, 50]⟩), Value.int .i64 2]))))) ∧
 ((decide ((n7 : Int) > 0)) = false →
 (∀ k23, Up k19 k23 → CallsG Tryz.prog 138 #[Value.agg cs1] k23 fun k24 r23 => ∃ s8, some (Value.string s8) = some r23 ∧
 (decide (((ByteArray.size s4 + ByteArray.size s8 : Nat) : Int) ≤ 9223372036854775807)) = true ∧
 ((decide (((ByteArray.size (s4 ++ s8) + ByteArray.size ⟨#[114, 50]⟩ : Nat) : Int) ≤ 9223372036854775807)) = true ∧
 (∀ k25, Up k24 k25 → ∃ m, m < m0 ∧ I0 m k25 [Value.string ((s4 ++ s8) ++ ⟨#[114, 50]⟩), Value.int .i64 2])))))) ∧
 ((!(ByteArray.toList s4 == ByteArray.toList ⟨#[]⟩)) = false →
 (∀ k26, Up k16 k26 → CallsG Tryz.prog 138 #[Value.agg cs1] k26 fun k27 r26 => ∃ s7, some (Value.string s7) = some r26 ∧
 (decide (((ByteArray.size s4 + ByteArray.size s7 : Nat) : Int) ≤ 9223372036854775807)) = true ∧
 ((decide (((ByteArray.size (s4 ++ s7) + ByteArray.size ⟨#[114, 50]⟩ : Nat) : Int) ≤ 9223372036854775807)) = true ∧
 (∀ k28, Up k27 k28 → ∃ m, m < m0 ∧ I0 m k28 [Value.string ((s4 ++ s7) ++ ⟨#[114, 50]⟩), Value.int .i64 2])))))))) ∧
 (((n5 : Int) == 1) = false →
 ((((n5 : Int) == 2) = true →
 (∀ k29, Up k0 k29 → CallsG Tryz.prog 79 #[Value.agg cs2] k29 fun k30 r29 => ∃ b6, some (Value.bool b6) = some r29 ∧
 (b6 = true →
 (∀ k31, Up k30 k31 → ∃ m, m < m0 ∧ I0 m k31 [Value.string s4, Value.int .i64 3])) ∧
 (b6 = false →
 (((!(ByteArray.toList s4 == ByteArray.toList ⟨#[]⟩)) = true →
 (∀ k32, Up k30 k32 → CallsG Tryz.prog 146 #[Value.agg cs2] k32 fun k33 r32 => ∃ n7, some (Value.int .i64 n7) = some r32 ∧
 ((decide ((n7 : Int) > 0)) = true →
 ((decide (((ByteArray.size s4 + ByteArray.size ⟨#[43]⟩ : Nat) : Int) ≤ 9223372036854775807)) = true ∧
 (∀ k34, Up k33 k34 → CallsG Tryz.prog 138 #[Value.agg cs2] k34 fun k35 r34 => ∃ s8, some (Value.string s8) = some r34 ∧
 (decide (((ByteArray.size (s4 ++ ⟨#[43]⟩) + ByteArray.size s8 : Nat) : Int) ≤ 9223372036854775807)) = true ∧
 ((decide (((ByteArray.size ((s4 ++ ⟨#[43]⟩) ++ s8) + ByteArray.size ⟨#[114, 51]⟩ : Nat) : Int) ≤ 9223372036854775807)) = true ∧
 (∀ k36, Up k35 k36 → ∃ m, m < m0 ∧ I0 m k36 [Value.string (((s4 ++ ⟨#[43]⟩) ++ s8) ++ ⟨#[114, 51]⟩), Value.int .i64 3]))))) ∧
 ((decide ((n7 : Int) > 0)) = false →
 (∀ k37, Up k33 k37 → CallsG Tryz.prog 138 #[Value.agg cs2] k37 fun k38 r37 => ∃ s8, some (Value.string s8) = some r37 ∧
 (decide (((ByteArray.size s4 + ByteArray.size s8 : Nat) : Int) ≤ 9223372036854775807)) = true ∧
 ((decide (((ByteArray.size (s4 ++ s8) + ByteArray.size ⟨#[114, 51]⟩ : Nat) : Int) ≤ 9223372036854775807)) = true ∧
 (∀ k39, Up k38 k39 → ∃ m, m < m0 ∧ I0 m k39 [Value.string ((s4 ++ s8) ++ ⟨#[114, 51]⟩), Value.int .i64 3])))))) ∧
 ((!(ByteArray.toList s4 == ByteArray.toList ⟨#[]⟩)) = false →
 (∀ k40, Up k30 k40 → CallsG Tryz.prog 138 #[Value.agg cs2] k40 fun k41 r40 => ∃ s7, some (Value.string s7) = some r40 ∧
 (decide (((ByteArray.size s4 + ByteArray.size s7 : Nat) : Int) ≤ 9223372036854775807)) = true ∧
 ((decide (((ByteArray.size (s4 ++ s7) + ByteArray.size ⟨#[114, 51]⟩ : Nat) : Int) ≤ 9223372036854775807)) = true ∧
 (∀ k42, Up k41 k42 → ∃ m, m < m0 ∧ I0 m k42 [Value.string ((s4 ++ s7) ++ ⟨#[114, 51]⟩), Value.int .i64 3])))))))) ∧
 (((n5 : Int) == 2) = false →
 ((((n5 : Int) == 3) = true →
 (∀ k43, Up k0 k43 → CallsG Tryz.prog 79 #[Value.agg cs3] k43 fun k44 r43 => ∃ b6, some (Value.bool b6) = some r43 ∧
 (b6 = true →
 (∀ k45, Up k44 k45 → ∃ m, m < m0 ∧ I0 m k45 [Value.string s4, Value.int .i64 4])) ∧
 (b6 = false →
 (((!(ByteArray.toList s4 == ByteArray.toList ⟨#[]⟩)) = true →
 (∀ k46, Up k44 k46 → CallsG Tryz.prog 146 #[Value.agg cs3] k46 fun k47 r46 => ∃ n7, some (Value.int .i64 n7) = some r46 ∧
 ((decide ((n7 : Int) > 0)) = true →
 ((decide (((ByteArray.size s4 + ByteArray.size ⟨#[43]⟩ : Nat) : Int) ≤ 9223372036854775807)) = true ∧
 (∀ k48, Up k47 k48 → CallsG Tryz.prog 138 #[Value.agg cs3] k48 fun k49 r48 => ∃ s8, some (Value.string s8) = some r48 ∧
 (decide (((ByteArray.size (s4 ++ ⟨#[43]⟩) + ByteArray.size s8 : Nat) : Int) ≤ 9223372036854775807)) = true ∧
 ((decide (((ByteArray.size ((s4 ++ ⟨#[43]⟩) ++ s8) + ByteArray.size ⟨#[114, 54]⟩ : Nat) : Int) ≤ 9223372036854775807)) = true ∧
 (∀ k50, Up k49 k50 → ∃ m, m < m0 ∧ I0 m k50 [Value.string (((s4 ++ ⟨#[43]⟩) ++ s8) ++ ⟨#[114, 54]⟩), Value.int .i64 4]))))) ∧
 ((decide ((n7 : Int) > 0)) = false →
 (∀ k51, Up k47 k51 → CallsG Tryz.prog 138 #[Value.agg cs3] k51 fun k52 r51 => ∃ s8, some (Value.string s8) = some r51 ∧
 (decide (((ByteArray.size s4 + ByteArray.size s8 : Nat) : Int) ≤ 9223372036854775807)) = true ∧
 ((decide (((ByteArray.size (s4 ++ s8) + ByteArray.size ⟨#[114, 54]⟩ : Nat) : Int) ≤ 9223372036854775807)) = true ∧
 (∀ k53, Up k52 k53 → ∃ m, m < m0 ∧ I0 m k53 [Value.string ((s4 ++ s8) ++ ⟨#[114, 54]⟩), Value.int .i64 4])))))) ∧
 ((!(ByteArray.toList s4 == ByteArray.toList ⟨#[]⟩)) = false →
 (∀ k54, Up k44 k54 → CallsG Tryz.prog 138 #[Value.agg cs3] k54 fun k55 r54 => ∃ s7, some (Value.string s7) = some r54 ∧
 (decide (((ByteArray.size s4 + ByteArray.size s7 : Nat) : Int) ≤ 9223372036854775807)) = true ∧
 ((decide (((ByteArray.size (s4 ++ s7) + ByteArray.size ⟨#[114, 54]⟩ : Nat) : Int) ≤ 9223372036854775807)) = true ∧
 (∀ k56, Up k55 k56 → ∃ m, m < m0 ∧ I0 m k56 [Value.string ((s4 ++ s7) ++ ⟨#[114, 54]⟩), Value.int .i64 4])))))))) ∧
 (((n5 : Int) == 3) = false →
 ((((n5 : Int) == 4) = true →
 (((ByteArray.toList s4 == ByteArray.toList ⟨#[]⟩) = true →
 (∀ k57, Up k0 k57 → R k57 (Value.string ⟨#[48]⟩))) ∧
 ((ByteArray.toList s4 == ByteArray.toList ⟨#[]⟩) = false →
 (∀ k58, Up k0 k58 → R k58 (Value.string s4))))) ∧
 (((n5 : Int) == 4) = false →
 (False /- split -/))))))))))) :
    CallsG Tryz.prog 151 #[Value.agg (cs0.toList ++ (cs1.toList ++ (cs2.toList ++ (cs3.toList ++ ([]))))).toArray] k R :=
  execFn_use (cfg := { opq := [34], loops := [(0, [.tmp 3 false [.str], .tmp 5 false [.int .i64]])], splits := [(0, 5, [0, 1, 2, 3, 4])] }) (args := [.agg [.seg 0 3, .seg 1 3, .seg 2 3, .seg 3 3]]) (vals := [Value.agg cs0, Value.agg cs1, Value.agg cs2, Value.agg cs3]) (kinds := [.seg 3, .seg 3, .seg 3, .seg 3]) (by kernel_rfl) ⟨⟨cs0, rfl, hcs0⟩, ⟨⟨cs1, rfl, hcs1⟩, ⟨⟨cs2, rfl, hcs2⟩, ⟨⟨cs3, rfl, hcs3⟩, trivial⟩⟩⟩⟩ (by kernel_rfl) (by kernel_rfl) h
end Go.Proofs.YtpjakokgmgggiaaGreat

/- The reference's Surds: their texts. (Printed by gen/refs2.py.) -/
namespace Go.Proofs.YtpjakokgmgggiaaGreat.W32
open Go.RowKit Num
open Sy (Up Sees CallsG Seg)
section
variable {k k' : World} {cs cs' c0 c1 c2 c3 : Array Value} {R : World → Value → Prop} {x y q q' : Rat} {v v' : Q4} {K L : Nat}
theorem rtext_len (h : QV k cs q K) : (ratText q).length ≤ 20 * K + 4 := by
 obtain ⟨b, A, l, c, A', l', c', rfl, h, e1, e2⟩ := h
 have h1 := dec_short h.n
 have h2 := dec_short h.d
 unfold ratText
 rw [List.length_append, List.length_append]
 have h3 : (if q.num < 0 then [45] else ([] : List UInt8)).length ≤ 1 := by split <;> simp
 by_cases h4 : q.den = 1
 · rw [if_pos h4]; simp only [List.length_nil]; omega
 · rw [if_neg h4]; simp only [List.length_cons]; omega
theorem rbody_len (h0 : QV k c0 v.a K) (h1 : QV k c1 v.b K) (h2 : QV k c2 v.c K) (h3 : QV k c3 v.d K) (j : Nat) : (body v j).length ≤ 80 * K + 26 := by
 have e0 := rtext_len h0
 have e1 := rtext_len h1
 have e2 := rtext_len h2
 have e3 := rtext_len h3
 have f1 := addPart_len [] v.a []
 have f2 := addPart_len (addPart [] v.a []) v.b [114, 50]
 have f3 := addPart_len (addPart (addPart [] v.a []) v.b [114, 50]) v.c [114, 51]
 have f4 := addPart_len (addPart (addPart (addPart [] v.a []) v.b [114, 50]) v.c [114, 51]) v.d [114, 54]
 simp only [List.length_cons, List.length_nil] at f1 f2 f3 f4
 match j with
 | 0 => simp [body]
 | 1 => simp only [body]; omega
 | 2 => simp only [body]; omega
 | 3 => simp only [body]; omega
 | n + 4 => simp only [body]; omega
theorem stext_v (hx : SQ k cs v K) (hK : K ≤ 10000000000) (C : ∀ k', Up k k' → R k' (.string (str (surdText v)))) :
   ∀ k0, Up k k0 → CallsG Tryz.prog 151 #[.agg cs] k0 R := by
 intro k0 u0
 obtain ⟨c0, c1, c2, c3, rfl, q0, q1, q2, q3⟩ := hx.up u0
 replace C := fun k' u => C k' (u0.trans u)
 refine rsText_vc q0.seg q1.seg q2.seg q3.seg ?_
 have hlen := rbody_len q0 q1 q2 q3
 refine ⟨fun m k' vs => ∃ j, j ≤ 4 ∧ m = 4 - j ∧ vs = [.string (str (body v j)), .int .i64 (j : Nat)], ⟨4, fun k' _ => ⟨0, by omega, rfl, rfl⟩⟩, ?_⟩
 rintro m k2 vs u2 ⟨j, hj, rfl, rfl⟩
 refine ⟨str (body v j), (j : Nat), rfl, ?_⟩
 replace q0 := q0.up u2
 replace q1 := q1.up u2
 replace q2 := q2.up u2
 replace q3 := q3.up u2
 replace C := fun k' u => C k' (u2.trans u)
 clear u0 u2
 refine ⟨fun hj0 => ?_, fun hj0 => ?_⟩
 · have e : j = 0 := by have := eq_of_beq hj0; omega
   subst e
   clear C hx
   refine zero_v q0 ?_
   intro k3 u3
   refine ⟨_, rfl, fun hz => ?_, fun hz => ?_⟩
   · intro k4 u4
     refine ⟨3 - 0, by omega, 0 + 1, by omega, by omega, ?_⟩
     have hz : v.a = 0 := of_decide_eq_true hz
     have e : body v (0 + 1) = body v 0 := by simp only [body]; conv => lhs; rw [addPart, if_pos hz]
     rw [e]; rfl
   · have hz : ¬ v.a = 0 := of_decide_eq_false hz
     refine ⟨fun hs => ?_, fun hs => ?_⟩
     · have hs : body v 0 ≠ [] := by
         intro h
         rw [h, nil_eq] at hs
         cases hs
       refine sign_v (q0.up u3) ?_
       intro k4 u4
       refine ⟨_, rfl, fun hp => ?_, fun hp => ?_⟩
       · have hp : 0 < (v.a).num.sign := by simpa using hp
         refine ⟨fits (by rw [str_size]; have := hlen 0; show _ + 1 ≤ _; omega), ?_⟩
         refine text_v ((q0.up u3).up u4) (by omega) ?_
         intro k5 u5
         have e : body v (0 + 1) = (body v 0 ++ [43]) ++ (ratText v.a ++ []) := by
           simp only [body]; conv => lhs; rw [addPart, if_neg hz, if_pos ⟨hs, hp⟩]
         have hl := hlen (0 + 1)
         rw [e] at hl
         simp only [List.length_append, List.length_cons, List.length_nil] at hl
         refine ⟨_, rfl, ?_, ?_, ?_⟩
         · refine fits ?_
           show (str (body v 0) ++ str [43]).size + (str (ratText v.a)).size ≤ _
           rw [str_app, str_size, str_size]; (try simp only [List.length_append, List.length_cons, List.length_nil]); omega
         · refine fits ?_
           show ((str (body v 0) ++ str [43]) ++ str (ratText v.a)).size + (str []).size ≤ _
           rw [str_app, str_app, str_size, str_size]; (try simp only [List.length_append, List.length_cons, List.length_nil]); omega
         · intro k7 u7
           refine ⟨3 - 0, by omega, 0 + 1, by omega, by omega, ?_⟩
           rw [e, ← List.append_assoc, ← str_app, ← str_app, ← str_app]; rfl
       · have hp : ¬ 0 < (v.a).num.sign := by simpa using hp
         refine text_v ((q0.up u3).up u4) (by omega) ?_
         intro k5 u5
         have e : body v (0 + 1) = body v 0 ++ (ratText v.a ++ []) := by
           simp only [body]; conv => lhs; rw [addPart, if_neg hz, if_neg (fun h => hp h.2)]
         have hl := hlen (0 + 1)
         rw [e] at hl
         simp only [List.length_append, List.length_nil] at hl
         refine ⟨_, rfl, ?_, ?_, ?_⟩
         · refine fits ?_
           show (str (body v 0)).size + (str (ratText v.a)).size ≤ _
           rw [str_size, str_size]; (try simp only [List.length_append, List.length_cons, List.length_nil]); omega
         · refine fits ?_
           show (str (body v 0) ++ str (ratText v.a)).size + (str []).size ≤ _
           rw [str_app, str_size, str_size]; (try simp only [List.length_append, List.length_nil]); omega
         · intro k7 u7
           refine ⟨3 - 0, by omega, 0 + 1, by omega, by omega, ?_⟩
           rw [e, ← List.append_assoc, ← str_app, ← str_app]; rfl
     · have hs : ¬ body v 0 ≠ [] := by
         intro h
         cases hq : ((str (body v 0)).toList == (⟨#[]⟩ : ByteArray).toList) with
         | false => rw [hq] at hs; cases hs
         | true => exact h (str_inj (toList_inj.1 hq))
       refine text_v (q0.up u3) (by omega) ?_
       intro k5 u5
       have e : body v (0 + 1) = body v 0 ++ (ratText v.a ++ []) := by
         simp only [body]; conv => lhs; rw [addPart, if_neg hz, if_neg (fun h => hs h.1)]
       have hl := hlen (0 + 1)
       rw [e] at hl
       simp only [List.length_append, List.length_nil] at hl
       refine ⟨_, rfl, ?_, ?_, ?_⟩
       · refine fits ?_
         show (str (body v 0)).size + (str (ratText v.a)).size ≤ _
         rw [str_size, str_size]; (try simp only [List.length_append, List.length_cons, List.length_nil]); omega
       · refine fits ?_
         show (str (body v 0) ++ str (ratText v.a)).size + (str []).size ≤ _
         rw [str_app, str_size, str_size]; (try simp only [List.length_append, List.length_nil]); omega
       · intro k7 u7
         refine ⟨3 - 0, by omega, 0 + 1, by omega, by omega, ?_⟩
         rw [e, ← List.append_assoc, ← str_app, ← str_app]; rfl
 refine ⟨fun hj1 => ?_, fun hj1 => ?_⟩
 · have e : j = 1 := by have := eq_of_beq hj1; omega
   subst e
   clear C hx
   refine zero_v q1 ?_
   intro k3 u3
   refine ⟨_, rfl, fun hz => ?_, fun hz => ?_⟩
   · intro k4 u4
     refine ⟨3 - 1, by omega, 1 + 1, by omega, by omega, ?_⟩
     have hz : v.b = 0 := of_decide_eq_true hz
     have e : body v (1 + 1) = body v 1 := by simp only [body]; conv => lhs; rw [addPart, if_pos hz]
     rw [e]; rfl
   · have hz : ¬ v.b = 0 := of_decide_eq_false hz
     refine ⟨fun hs => ?_, fun hs => ?_⟩
     · have hs : body v 1 ≠ [] := by
         intro h
         rw [h, nil_eq] at hs
         cases hs
       refine sign_v (q1.up u3) ?_
       intro k4 u4
       refine ⟨_, rfl, fun hp => ?_, fun hp => ?_⟩
       · have hp : 0 < (v.b).num.sign := by simpa using hp
         refine ⟨fits (by rw [str_size]; have := hlen 1; show _ + 1 ≤ _; omega), ?_⟩
         refine text_v ((q1.up u3).up u4) (by omega) ?_
         intro k5 u5
         have e : body v (1 + 1) = (body v 1 ++ [43]) ++ (ratText v.b ++ [114, 50]) := by
           simp only [body]; conv => lhs; rw [addPart, if_neg hz, if_pos ⟨hs, hp⟩]
         have hl := hlen (1 + 1)
         rw [e] at hl
         simp only [List.length_append, List.length_cons, List.length_nil] at hl
         refine ⟨_, rfl, ?_, ?_, ?_⟩
         · refine fits ?_
           show (str (body v 1) ++ str [43]).size + (str (ratText v.b)).size ≤ _
           rw [str_app, str_size, str_size]; (try simp only [List.length_append, List.length_cons, List.length_nil]); omega
         · refine fits ?_
           show ((str (body v 1) ++ str [43]) ++ str (ratText v.b)).size + (str [114, 50]).size ≤ _
           rw [str_app, str_app, str_size, str_size]; (try simp only [List.length_append, List.length_cons, List.length_nil]); omega
         · intro k7 u7
           refine ⟨3 - 1, by omega, 1 + 1, by omega, by omega, ?_⟩
           rw [e, ← List.append_assoc, ← str_app, ← str_app, ← str_app]; rfl
       · have hp : ¬ 0 < (v.b).num.sign := by simpa using hp
         refine text_v ((q1.up u3).up u4) (by omega) ?_
         intro k5 u5
         have e : body v (1 + 1) = body v 1 ++ (ratText v.b ++ [114, 50]) := by
           simp only [body]; conv => lhs; rw [addPart, if_neg hz, if_neg (fun h => hp h.2)]
         have hl := hlen (1 + 1)
         rw [e] at hl
         simp only [List.length_append, List.length_cons, List.length_nil] at hl
         refine ⟨_, rfl, ?_, ?_, ?_⟩
         · refine fits ?_
           show (str (body v 1)).size + (str (ratText v.b)).size ≤ _
           rw [str_size, str_size]; (try simp only [List.length_append, List.length_cons, List.length_nil]); omega
         · refine fits ?_
           show (str (body v 1) ++ str (ratText v.b)).size + (str [114, 50]).size ≤ _
           rw [str_app, str_size, str_size]; (try simp only [List.length_append, List.length_cons, List.length_nil]); omega
         · intro k7 u7
           refine ⟨3 - 1, by omega, 1 + 1, by omega, by omega, ?_⟩
           rw [e, ← List.append_assoc, ← str_app, ← str_app]; rfl
     · have hs : ¬ body v 1 ≠ [] := by
         intro h
         cases hq : ((str (body v 1)).toList == (⟨#[]⟩ : ByteArray).toList) with
         | false => rw [hq] at hs; cases hs
         | true => exact h (str_inj (toList_inj.1 hq))
       refine text_v (q1.up u3) (by omega) ?_
       intro k5 u5
       have e : body v (1 + 1) = body v 1 ++ (ratText v.b ++ [114, 50]) := by
         simp only [body]; conv => lhs; rw [addPart, if_neg hz, if_neg (fun h => hs h.1)]
       have hl := hlen (1 + 1)
       rw [e] at hl
       simp only [List.length_append, List.length_cons, List.length_nil] at hl
       refine ⟨_, rfl, ?_, ?_, ?_⟩
       · refine fits ?_
         show (str (body v 1)).size + (str (ratText v.b)).size ≤ _
         rw [str_size, str_size]; (try simp only [List.length_append, List.length_cons, List.length_nil]); omega
       · refine fits ?_
         show (str (body v 1) ++ str (ratText v.b)).size + (str [114, 50]).size ≤ _
         rw [str_app, str_size, str_size]; (try simp only [List.length_append, List.length_cons, List.length_nil]); omega
       · intro k7 u7
         refine ⟨3 - 1, by omega, 1 + 1, by omega, by omega, ?_⟩
         rw [e, ← List.append_assoc, ← str_app, ← str_app]; rfl
 refine ⟨fun hj2 => ?_, fun hj2 => ?_⟩
 · have e : j = 2 := by have := eq_of_beq hj2; omega
   subst e
   clear C hx
   refine zero_v q2 ?_
   intro k3 u3
   refine ⟨_, rfl, fun hz => ?_, fun hz => ?_⟩
   · intro k4 u4
     refine ⟨3 - 2, by omega, 2 + 1, by omega, by omega, ?_⟩
     have hz : v.c = 0 := of_decide_eq_true hz
     have e : body v (2 + 1) = body v 2 := by simp only [body]; conv => lhs; rw [addPart, if_pos hz]
     rw [e]; rfl
   · have hz : ¬ v.c = 0 := of_decide_eq_false hz
     refine ⟨fun hs => ?_, fun hs => ?_⟩
     · have hs : body v 2 ≠ [] := by
         intro h
         rw [h, nil_eq] at hs
         cases hs
       refine sign_v (q2.up u3) ?_
       intro k4 u4
       refine ⟨_, rfl, fun hp => ?_, fun hp => ?_⟩
       · have hp : 0 < (v.c).num.sign := by simpa using hp
         refine ⟨fits (by rw [str_size]; have := hlen 2; show _ + 1 ≤ _; omega), ?_⟩
         refine text_v ((q2.up u3).up u4) (by omega) ?_
         intro k5 u5
         have e : body v (2 + 1) = (body v 2 ++ [43]) ++ (ratText v.c ++ [114, 51]) := by
           simp only [body]; conv => lhs; rw [addPart, if_neg hz, if_pos ⟨hs, hp⟩]
         have hl := hlen (2 + 1)
         rw [e] at hl
         simp only [List.length_append, List.length_cons, List.length_nil] at hl
         refine ⟨_, rfl, ?_, ?_, ?_⟩
         · refine fits ?_
           show (str (body v 2) ++ str [43]).size + (str (ratText v.c)).size ≤ _
           rw [str_app, str_size, str_size]; (try simp only [List.length_append, List.length_cons, List.length_nil]); omega
         · refine fits ?_
           show ((str (body v 2) ++ str [43]) ++ str (ratText v.c)).size + (str [114, 51]).size ≤ _
           rw [str_app, str_app, str_size, str_size]; (try simp only [List.length_append, List.length_cons, List.length_nil]); omega
         · intro k7 u7
           refine ⟨3 - 2, by omega, 2 + 1, by omega, by omega, ?_⟩
           rw [e, ← List.append_assoc, ← str_app, ← str_app, ← str_app]; rfl
       · have hp : ¬ 0 < (v.c).num.sign := by simpa using hp
         refine text_v ((q2.up u3).up u4) (by omega) ?_
         intro k5 u5
         have e : body v (2 + 1) = body v 2 ++ (ratText v.c ++ [114, 51]) := by
           simp only [body]; conv => lhs; rw [addPart, if_neg hz, if_neg (fun h => hp h.2)]
         have hl := hlen (2 + 1)
         rw [e] at hl
         simp only [List.length_append, List.length_cons, List.length_nil] at hl
         refine ⟨_, rfl, ?_, ?_, ?_⟩
         · refine fits ?_
           show (str (body v 2)).size + (str (ratText v.c)).size ≤ _
           rw [str_size, str_size]; (try simp only [List.length_append, List.length_cons, List.length_nil]); omega
         · refine fits ?_
           show (str (body v 2) ++ str (ratText v.c)).size + (str [114, 51]).size ≤ _
           rw [str_app, str_size, str_size]; (try simp only [List.length_append, List.length_cons, List.length_nil]); omega
         · intro k7 u7
           refine ⟨3 - 2, by omega, 2 + 1, by omega, by omega, ?_⟩
           rw [e, ← List.append_assoc, ← str_app, ← str_app]; rfl
     · have hs : ¬ body v 2 ≠ [] := by
         intro h
         cases hq : ((str (body v 2)).toList == (⟨#[]⟩ : ByteArray).toList) with
         | false => rw [hq] at hs; cases hs
         | true => exact h (str_inj (toList_inj.1 hq))
       refine text_v (q2.up u3) (by omega) ?_
       intro k5 u5
       have e : body v (2 + 1) = body v 2 ++ (ratText v.c ++ [114, 51]) := by
         simp only [body]; conv => lhs; rw [addPart, if_neg hz, if_neg (fun h => hs h.1)]
       have hl := hlen (2 + 1)
       rw [e] at hl
       simp only [List.length_append, List.length_cons, List.length_nil] at hl
       refine ⟨_, rfl, ?_, ?_, ?_⟩
       · refine fits ?_
         show (str (body v 2)).size + (str (ratText v.c)).size ≤ _
         rw [str_size, str_size]; (try simp only [List.length_append, List.length_cons, List.length_nil]); omega
       · refine fits ?_
         show (str (body v 2) ++ str (ratText v.c)).size + (str [114, 51]).size ≤ _
         rw [str_app, str_size, str_size]; (try simp only [List.length_append, List.length_cons, List.length_nil]); omega
       · intro k7 u7
         refine ⟨3 - 2, by omega, 2 + 1, by omega, by omega, ?_⟩
         rw [e, ← List.append_assoc, ← str_app, ← str_app]; rfl
 refine ⟨fun hj3 => ?_, fun hj3 => ?_⟩
 · have e : j = 3 := by have := eq_of_beq hj3; omega
   subst e
   clear C hx
   refine zero_v q3 ?_
   intro k3 u3
   refine ⟨_, rfl, fun hz => ?_, fun hz => ?_⟩
   · intro k4 u4
     refine ⟨3 - 3, by omega, 3 + 1, by omega, by omega, ?_⟩
     have hz : v.d = 0 := of_decide_eq_true hz
     have e : body v (3 + 1) = body v 3 := by simp only [body]; conv => lhs; rw [addPart, if_pos hz]
     rw [e]; rfl
   · have hz : ¬ v.d = 0 := of_decide_eq_false hz
     refine ⟨fun hs => ?_, fun hs => ?_⟩
     · have hs : body v 3 ≠ [] := by
         intro h
         rw [h, nil_eq] at hs
         cases hs
       refine sign_v (q3.up u3) ?_
       intro k4 u4
       refine ⟨_, rfl, fun hp => ?_, fun hp => ?_⟩
       · have hp : 0 < (v.d).num.sign := by simpa using hp
         refine ⟨fits (by rw [str_size]; have := hlen 3; show _ + 1 ≤ _; omega), ?_⟩
         refine text_v ((q3.up u3).up u4) (by omega) ?_
         intro k5 u5
         have e : body v (3 + 1) = (body v 3 ++ [43]) ++ (ratText v.d ++ [114, 54]) := by
           simp only [body]; conv => lhs; rw [addPart, if_neg hz, if_pos ⟨hs, hp⟩]
         have hl := hlen (3 + 1)
         rw [e] at hl
         simp only [List.length_append, List.length_cons, List.length_nil] at hl
         refine ⟨_, rfl, ?_, ?_, ?_⟩
         · refine fits ?_
           show (str (body v 3) ++ str [43]).size + (str (ratText v.d)).size ≤ _
           rw [str_app, str_size, str_size]; (try simp only [List.length_append, List.length_cons, List.length_nil]); omega
         · refine fits ?_
           show ((str (body v 3) ++ str [43]) ++ str (ratText v.d)).size + (str [114, 54]).size ≤ _
           rw [str_app, str_app, str_size, str_size]; (try simp only [List.length_append, List.length_cons, List.length_nil]); omega
         · intro k7 u7
           refine ⟨3 - 3, by omega, 3 + 1, by omega, by omega, ?_⟩
           rw [e, ← List.append_assoc, ← str_app, ← str_app, ← str_app]; rfl
       · have hp : ¬ 0 < (v.d).num.sign := by simpa using hp
         refine text_v ((q3.up u3).up u4) (by omega) ?_
         intro k5 u5
         have e : body v (3 + 1) = body v 3 ++ (ratText v.d ++ [114, 54]) := by
           simp only [body]; conv => lhs; rw [addPart, if_neg hz, if_neg (fun h => hp h.2)]
         have hl := hlen (3 + 1)
         rw [e] at hl
         simp only [List.length_append, List.length_cons, List.length_nil] at hl
         refine ⟨_, rfl, ?_, ?_, ?_⟩
         · refine fits ?_
           show (str (body v 3)).size + (str (ratText v.d)).size ≤ _
           rw [str_size, str_size]; (try simp only [List.length_append, List.length_cons, List.length_nil]); omega
         · refine fits ?_
           show (str (body v 3) ++ str (ratText v.d)).size + (str [114, 54]).size ≤ _
           rw [str_app, str_size, str_size]; (try simp only [List.length_append, List.length_cons, List.length_nil]); omega
         · intro k7 u7
           refine ⟨3 - 3, by omega, 3 + 1, by omega, by omega, ?_⟩
           rw [e, ← List.append_assoc, ← str_app, ← str_app]; rfl
     · have hs : ¬ body v 3 ≠ [] := by
         intro h
         cases hq : ((str (body v 3)).toList == (⟨#[]⟩ : ByteArray).toList) with
         | false => rw [hq] at hs; cases hs
         | true => exact h (str_inj (toList_inj.1 hq))
       refine text_v (q3.up u3) (by omega) ?_
       intro k5 u5
       have e : body v (3 + 1) = body v 3 ++ (ratText v.d ++ [114, 54]) := by
         simp only [body]; conv => lhs; rw [addPart, if_neg hz, if_neg (fun h => hs h.1)]
       have hl := hlen (3 + 1)
       rw [e] at hl
       simp only [List.length_append, List.length_cons, List.length_nil] at hl
       refine ⟨_, rfl, ?_, ?_, ?_⟩
       · refine fits ?_
         show (str (body v 3)).size + (str (ratText v.d)).size ≤ _
         rw [str_size, str_size]; (try simp only [List.length_append, List.length_cons, List.length_nil]); omega
       · refine fits ?_
         show (str (body v 3) ++ str (ratText v.d)).size + (str [114, 54]).size ≤ _
         rw [str_app, str_size, str_size]; (try simp only [List.length_append, List.length_cons, List.length_nil]); omega
       · intro k7 u7
         refine ⟨3 - 3, by omega, 3 + 1, by omega, by omega, ?_⟩
         rw [e, ← List.append_assoc, ← str_app, ← str_app]; rfl
 refine ⟨fun hj4 => ?_, fun hj4 => ?_⟩
 · have e : j = 4 := by have := eq_of_beq hj4; omega
   subst e
   refine ⟨fun hs => ?_, fun hs => ?_⟩
   · have hs : body v 4 = [] := str_inj (toList_inj.1 hs)
     intro k3 u3
     have := C k3 u3
     unfold surdText at this
     rwa [if_pos hs] at this
   · have hs : ¬ body v 4 = [] := by
       intro h
       rw [h, nil_eq] at hs
       cases hs
     intro k3 u3
     have := C k3 u3
     unfold surdText at this
     rwa [if_neg hs] at this
 · exfalso
   simp only [beq_eq_false_iff_ne, ne_eq] at hj0 hj1 hj2 hj3 hj4
   omega
end
end Go.Proofs.YtpjakokgmgggiaaGreat.W32

/- The reference's Surds: zero, quotients, plain data. (Printed by gen/refs2.py.) -/
namespace Go.Proofs.YtpjakokgmgggiaaGreat.W32
open Go.RowKit Num
open Sy (Up Sees CallsG Seg)
section
variable {k k' : World} {cs cs' c0 c1 c2 c3 : Array Value} {R : World → Value → Prop} {x y q q' : Rat} {v v' : Q4} {K L : Nat}
theorem szero_v (hx : SQ k cs v K)  (C : ∀ k', Up k k' → R k' (.bool (decide (v = Q4.zero)))) :
   ∀ k0, Up k k0 → CallsG Tryz.prog 91 #[.agg cs] k0 R := by
 intro k0 u0
 replace C := fun k' u => C k' (u0.trans u)
 obtain ⟨c0, c1, c2, c3, rfl, x0, x1, x2, x3⟩ := hx.up u0
 refine sZero_vc x0.seg x1.seg x2.seg x3.seg ?_
 refine zero_v x0 fun k1 u1 => ⟨_, rfl, fun h0 => ?_, fun h0 => fun k11 u11 => ?_⟩
 · refine zero_v (x1.up u1) fun k3 u3 => ⟨_, rfl, fun h1 => ?_, fun h1 => fun k10 u10 => ?_⟩
   · refine zero_v (x2.up (u1.trans u3)) fun k5 u5 => ⟨_, rfl, fun h2 => ?_, fun h2 => fun k9 u9 => ?_⟩
     · refine zero_v (x3.up ((u1.trans u3).trans u5)) fun k7 u7 => ⟨_, rfl, fun k8 u8 => ?_⟩
       have e : decide (v = Q4.zero) = decide (v.d = 0) := by rw [Q4.zero_iff, h0, h1, h2]; rfl
       have := C k8 ((((u1.trans u3).trans u5).trans u7).trans u8)
       rw [e] at this
       exact this
     · have e : decide (v = Q4.zero) = false := by rw [Q4.zero_iff, h0, h1, h2]; rfl
       have := C k9 (((u1.trans u3).trans u5).trans u9)
       rw [e] at this
       exact this
   · have e : decide (v = Q4.zero) = false := by rw [Q4.zero_iff, h0, h1]; rfl
     have := C k10 ((u1.trans u3).trans u10)
     rw [e] at this
     exact this
 · have e : decide (v = Q4.zero) = false := by rw [Q4.zero_iff, h0]; rfl
   have := C k11 (u1.trans u11)
   rw [e] at this
   exact this
theorem turned1_v (hx : SQ k cs v K) (hK : K ≤ 10000000000) (C : ∀ k' ds, Up k k' → SQ k' ds v.t1 K → R k' (.agg ds)) :
   ∀ k0, Up k k0 → CallsG Tryz.prog 162 #[.agg cs, .int .i64 1] k0 R := by
 intro k0 u0
 replace C := fun k' ds u => C k' ds (u0.trans u)
 obtain ⟨c0, c1, c2, c3, rfl, x0, x1, x2, x3⟩ := hx.up u0
 refine turned1_vc x0.seg x1.seg x2.seg x3.seg ?_
 refine neg_v x1 hK fun k1 d1 u1 h1 => ⟨d1, h1.seg, rfl, ?_⟩
 refine neg_v (x3.up u1) hK fun k3 d3 u3 h3 => ⟨d3, h3.seg, rfl, fun k4 u4 => ?_⟩
 exact C k4 _ ((u1.trans u3).trans u4) ⟨_, _, _, _, rfl, (x0.up u1).up u3 |>.up u4, (h1.up u3).up u4, (x2.up u1).up u3 |>.up u4, h3.up u4⟩
theorem turned2_v (hx : SQ k cs v K) (hK : K ≤ 10000000000) (C : ∀ k' ds, Up k k' → SQ k' ds v.t2 K → R k' (.agg ds)) :
   ∀ k0, Up k k0 → CallsG Tryz.prog 162 #[.agg cs, .int .i64 2] k0 R := by
 intro k0 u0
 replace C := fun k' ds u => C k' ds (u0.trans u)
 obtain ⟨c0, c1, c2, c3, rfl, x0, x1, x2, x3⟩ := hx.up u0
 refine turned2_vc x0.seg x1.seg x2.seg x3.seg ?_
 refine neg_v x2 hK fun k1 d1 u1 h1 => ⟨d1, h1.seg, rfl, ?_⟩
 refine neg_v (x3.up u1) hK fun k3 d3 u3 h3 => ⟨d3, h3.seg, rfl, fun k4 u4 => ?_⟩
 exact C k4 _ ((u1.trans u3).trans u4) ⟨_, _, _, _, rfl, (x0.up u1).up u3 |>.up u4, (x1.up u1).up u3 |>.up u4, (h1.up u3).up u4, h3.up u4⟩
theorem squad_v {n0 n1 n2 n3 n4 n5 n6 n7 : Int} (h0 : In64 n0) (h1 : In64 n1) (h2 : In64 n2) (h3 : In64 n3) (h4 : In64 n4) (h5 : In64 n5) (h6 : In64 n6) (h7 : In64 n7) (C : ∀ k' ds, Up k k' → SQ k' ds ⟨ofQ n0 n1, ofQ n2 n3, ofQ n4 n5, ofQ n6 n7⟩ 2 → R k' (.agg ds)) :
   ∀ k0, Up k k0 → CallsG Tryz.prog 68 #[.agg #[.int .i64 n0, .int .i64 n1, .int .i64 n2, .int .i64 n3, .int .i64 n4, .int .i64 n5, .int .i64 n6, .int .i64 n7]] k0 R := by
 intro k0 u0
 refine sOfQuad_vc (of_v h0 h1 fun k1 d1 u1 q1 => ⟨d1, q1.seg, rfl, ?_⟩)
 refine of_v h2 h3 fun k3 d3 u3 q3 => ⟨d3, q3.seg, rfl, ?_⟩
 refine of_v h4 h5 fun k5 d5 u5 q5 => ⟨d5, q5.seg, rfl, ?_⟩
 refine of_v h6 h7 fun k7 d7 u7 q7 => ⟨d7, q7.seg, rfl, fun k8 u8 => ?_⟩
 exact C k8 _ (((((u0.trans u1).trans u3).trans u5).trans u7).trans u8) ⟨d1, d3, d5, d7, rfl, (((q1.up u3).up u5).up u7).up u8, ((q3.up u5).up u7).up u8, (q5.up u7).up u8, q7.up u8⟩
set_option maxHeartbeats 1000000 in
theorem sdiv_v (hx : SQ k cs v K) (hy : SQ k cs' v' L) (hK1 : 1 ≤ K) (hL1 : 1 ≤ L) (hK : 4 * K + 292 * L + 924 ≤ 10000000000)
   (C : ∀ k' ds, Up k k' → SQ k' ds (v.div v') (4 * K + 292 * L + 924) → R k' (.tuple #[.agg ds, .int .i64 (if v' = Q4.zero then 3 else 0)])) :
   ∀ k0, Up k k0 → CallsG Tryz.prog 70 #[.agg cs, .agg cs'] k0 R := by
 intro k0 u0
 replace C := fun k' ds u => C k' ds (u0.trans u)
 replace hx := hx.up u0
 replace hy := hy.up u0
 clear u0
 have hx' := hx
 have hy' := hy
 obtain ⟨c0, c1, c2, c3, rfl, x0, x1, x2, x3⟩ := hx'
 obtain ⟨e0, e1, e2, e3, rfl, y0, y1, y2, y3⟩ := hy'
 refine sDiv_vc x0.seg x1.seg x2.seg x3.seg y0.seg y1.seg y2.seg y3.seg ?_
 clear x0 x1 x2 x3 y0 y1 y2 y3
 refine szero_v hy fun k1 u1 => ⟨_, rfl, fun hz => ?_, fun hz => ?_⟩
 · have hz := of_decide_eq_true hz
   rw [hz, Q4.div_zero, if_pos rfl] at C
   refine whole_v (by decide) (by decide) fun k3 d3 u3 h3 => ⟨d3, h3.seg, rfl, ?_⟩
   refine real_v h3 (by decide) ?_
   rintro k5 _ u5 ⟨z0, z1, z2, z3, rfl, i0, i1, i2, i3⟩
   refine ⟨z0, i0.seg, z1, i1.seg, z2, i2.seg, z3, i3.seg, rfl, fun k6 u6 => ?_⟩
   exact C k6 _ (((u1.trans u3).trans u5).trans u6) (SQ.mono (K := 2) ⟨z0, z1, z2, z3, rfl, i0.up u6, i1.up u6, i2.up u6, i3.up u6⟩ (by omega))
 · have hz := of_decide_eq_false hz
   rw [if_neg hz] at C
   replace hx := hx.up u1
   replace hy := hy.up u1
   replace C := fun k' ds u => C k' ds (u1.trans u)
   refine turned1_v hy (by omega) ?_
   intro k2 ds2 u2 ha
   have ha' := ha
   obtain ⟨a0, a1, a2, a3, rfl, ha0, ha1, ha2, ha3⟩ := ha'
   refine ⟨a0, ha0.seg, a1, ha1.seg, a2, ha2.seg, a3, ha3.seg, rfl, ?_⟩
   replace hx := hx.up u2
   replace hy := hy.up u2
   replace C := fun k' ds u => C k' ds (u2.trans u)
   refine turned2_v hy (by omega) ?_
   intro k3 ds3 u3 hb
   have hb' := hb
   obtain ⟨b0, b1, b2, b3, rfl, hb0, hb1, hb2, hb3⟩ := hb'
   refine ⟨b0, hb0.seg, b1, hb1.seg, b2, hb2.seg, b3, hb3.seg, rfl, ?_⟩
   replace hx := hx.up u3
   replace hy := hy.up u3
   replace ha := ha.up u3
   replace C := fun k' ds u => C k' ds (u3.trans u)
   refine smul_v ha hb (by omega) ?_
   intro k4 ds4 u4 hm
   have hm' := hm
   obtain ⟨m0, m1, m2, m3, rfl, hm0, hm1, hm2, hm3⟩ := hm'
   refine ⟨m0, hm0.seg, m1, hm1.seg, m2, hm2.seg, m3, hm3.seg, rfl, ?_⟩
   replace hx := hx.up u4
   replace hy := hy.up u4
   replace C := fun k' ds u => C k' ds (u4.trans u)
   clear ha hb ha0 ha1 ha2 ha3 hb0 hb1 hb2 hb3
   refine turned1_v hy (by omega) ?_
   intro k5 ds5 u5 hf
   have hf' := hf
   obtain ⟨f0, f1, f2, f3, rfl, hf0, hf1, hf2, hf3⟩ := hf'
   refine ⟨f0, hf0.seg, f1, hf1.seg, f2, hf2.seg, f3, hf3.seg, rfl, ?_⟩
   replace hx := hx.up u5
   replace hy := hy.up u5
   replace hm := hm.up u5
   replace C := fun k' ds u => C k' ds (u5.trans u)
   refine turned2_v hf (by omega) ?_
   intro k6 ds6 u6 hg
   have hg' := hg
   obtain ⟨g0, g1, g2, g3, rfl, hg0, hg1, hg2, hg3⟩ := hg'
   refine ⟨g0, hg0.seg, g1, hg1.seg, g2, hg2.seg, g3, hg3.seg, rfl, ?_⟩
   replace hx := hx.up u6
   replace hy := hy.up u6
   replace hm := hm.up u6
   replace C := fun k' ds u => C k' ds (u6.trans u)
   refine smul_v hm hg (by omega) ?_
   intro k7 ds7 u7 hc
   have hc' := hc
   obtain ⟨c0, c1, c2, c3, rfl, hc0, hc1, hc2, hc3⟩ := hc'
   refine ⟨c0, hc0.seg, c1, hc1.seg, c2, hc2.seg, c3, hc3.seg, rfl, ?_⟩
   replace hx := hx.up u7
   replace hy := hy.up u7
   replace C := fun k' ds u => C k' ds (u7.trans u)
   clear hm hg hf hm0 hm1 hm2 hm3 hg0 hg1 hg2 hg3 hf0 hf1 hf2 hf3
   refine smul_v hy hc (by omega) ?_
   intro k8 ds8 u8 hp
   have hp' := hp
   obtain ⟨p0, p1, p2, p3, rfl, hp0, hp1, hp2, hp3⟩ := hp'
   refine ⟨p0, hp0.seg, p1, hp1.seg, p2, hp2.seg, p3, hp3.seg, rfl, ?_⟩
   replace hx := hx.up u8
   replace hc := hc.up u8
   replace C := fun k' ds u => C k' ds (u8.trans u)
   replace hp := hp0
   clear hp1 hp2 hp3 hc0 hc1 hc2 hc3
   refine smul_v hx hc (by omega) ?_
   intro k9 ds9 u9 hn
   have hn' := hn
   obtain ⟨n0, n1, n2, n3, rfl, hn0, hn1, hn2, hn3⟩ := hn'
   refine ⟨n0, hn0.seg, n1, hn1.seg, n2, hn2.seg, n3, hn3.seg, rfl, ?_⟩
   replace hp := hp.up u9
   replace C := fun k' ds u => C k' ds (u9.trans u)
   clear hn hc hx hy
   refine by_v hn0 hp (by omega) (by omega) (by omega) fun k10 r0 u10 hr0 => ⟨r0, hr0.seg, rfl, ?_⟩
   replace hp := hp.up u10
   replace hn1 := hn1.up u10
   replace hn2 := hn2.up u10
   replace hn3 := hn3.up u10
   replace C := fun k' ds u => C k' ds (u10.trans u)
   refine by_v hn1 hp (by omega) (by omega) (by omega) fun k11 r1 u11 hr1 => ⟨r1, hr1.seg, rfl, ?_⟩
   replace hp := hp.up u11
   replace hn2 := hn2.up u11
   replace hn3 := hn3.up u11
   replace hr0 := hr0.up u11
   replace C := fun k' ds u => C k' ds (u11.trans u)
   refine by_v hn2 hp (by omega) (by omega) (by omega) fun k12 r2 u12 hr2 => ⟨r2, hr2.seg, rfl, ?_⟩
   replace hp := hp.up u12
   replace hn3 := hn3.up u12
   replace hr0 := hr0.up u12
   replace hr1 := hr1.up u12
   replace C := fun k' ds u => C k' ds (u12.trans u)
   refine by_v hn3 hp (by omega) (by omega) (by omega) fun k13 r3 u13 hr3 => ⟨r3, hr3.seg, rfl, ?_⟩
   replace hr0 := hr0.up u13
   replace hr1 := hr1.up u13
   replace hr2 := hr2.up u13
   replace C := fun k' ds u => C k' ds (u13.trans u)
   intro k14 u14
   exact C k14 _ u14 ⟨_, _, _, _, rfl, (hr0.up u14).mono (by omega), (hr1.up u14).mono (by omega), (hr2.up u14).mono (by omega), (hr3.up u14).mono (by omega)⟩
end
end Go.Proofs.YtpjakokgmgggiaaGreat.W32

/- Waves of the reference. (Printed by gen/waves.py.) -/
namespace Go.Proofs.YtpjakokgmgggiaaGreat.W32
open Go.RowKit Num
open Sy (Up Sees CallsG Seg)
def WQ (k : World) (cs : Array Value) (w : W4) (K : Nat) : Prop := ∃ c0 c1 : Array Value, cs = cat2 c0 c1 ∧ SQ k c0 w.re K ∧ SQ k c1 w.im K
section
variable {k k' : World} {cs cs' c0 c1 : Array Value} {R : World → Value → Prop} {v v' : Q4} {x y : W4} {q : Rat} {K L : Nat}
theorem WQ.up (h : WQ k cs x K) (u : Up k k') : WQ k' cs x K := by
 obtain ⟨c0, c1, e, h0, h1⟩ := h
 exact ⟨c0, c1, e, h0.up u, h1.up u⟩
theorem WQ.mono (h : WQ k cs x K) (hL : K ≤ L) : WQ k cs x L := by
 obtain ⟨c0, c1, e, h0, h1⟩ := h
 exact ⟨c0, c1, e, h0.mono hL, h1.mono hL⟩
theorem WQ.seg (h : WQ k cs x K) : Seg 24 cs := by
 obtain ⟨c0, c1, rfl, h0, h1⟩ := h
 exact seg_cat2 h0.seg h1.seg
theorem wadd_v (hx : WQ k cs x K) (hy : WQ k cs' y L) (hK : K + L ≤ 10000000000) (C : ∀ k' ds, Up k k' → WQ k' ds (x.add y) (K + L + 1) → R k' (.agg ds)) :
   ∀ k0, Up k k0 → CallsG Tryz.prog 41 #[.agg cs, .agg cs'] k0 R := by
 intro k0 u0
 obtain ⟨a, b, rfl, a0, b0⟩ := hx.up u0
 obtain ⟨c, d, rfl, c0, d0⟩ := hy.up u0
 refine rwAdd_vc a0.seg b0.seg c0.seg d0.seg ?_
 refine sadd_v a0 c0 hK fun k1 e1 u1 h1 => ⟨e1, h1.seg, rfl, ?_⟩
 refine sadd_v (b0.up u1) (d0.up u1) hK fun k3 e3 u3 h3 => ⟨e3, h3.seg, rfl, fun k4 u4 => ?_⟩
 exact C k4 _ (((u0.trans u1).trans u3).trans u4) ⟨e1, e3, rfl, (h1.up u3).up u4, h3.up u4⟩
theorem wsub_v (hx : WQ k cs x K) (hy : WQ k cs' y L) (hK : K + L ≤ 10000000000) (C : ∀ k' ds, Up k k' → WQ k' ds (x.sub y) (K + L + 1) → R k' (.agg ds)) :
   ∀ k0, Up k k0 → CallsG Tryz.prog 43 #[.agg cs, .agg cs'] k0 R := by
 intro k0 u0
 obtain ⟨a, b, rfl, a0, b0⟩ := hx.up u0
 obtain ⟨c, d, rfl, c0, d0⟩ := hy.up u0
 refine rwSub_vc a0.seg b0.seg c0.seg d0.seg ?_
 refine ssub_v a0 c0 hK fun k1 e1 u1 h1 => ⟨e1, h1.seg, rfl, ?_⟩
 refine ssub_v (b0.up u1) (d0.up u1) hK fun k3 e3 u3 h3 => ⟨e3, h3.seg, rfl, fun k4 u4 => ?_⟩
 exact C k4 _ (((u0.trans u1).trans u3).trans u4) ⟨e1, e3, rfl, (h1.up u3).up u4, h3.up u4⟩
theorem wmul_v (hx : WQ k cs x K) (hy : WQ k cs' y L) (hK : 8 * (K + L) + 45 ≤ 10000000000) (C : ∀ k' ds, Up k k' → WQ k' ds (x.mul y) (8 * (K + L) + 45) → R k' (.agg ds)) :
   ∀ k0, Up k k0 → CallsG Tryz.prog 45 #[.agg cs, .agg cs'] k0 R := by
 intro k0 u0
 obtain ⟨a, b, rfl, a0, b0⟩ := hx.up u0
 obtain ⟨c, d, rfl, c0, d0⟩ := hy.up u0
 refine rwMul_vc a0.seg b0.seg c0.seg d0.seg ?_
 refine smul_v a0 c0 (by omega) fun k1 e1 u1 h1 => ⟨e1, h1.seg, rfl, ?_⟩
 refine smul_v (b0.up u1) (d0.up u1) (by omega) fun k2 e2 u2 h2 => ⟨e2, h2.seg, rfl, ?_⟩
 refine ssub_v (h1.up u2) h2 (by omega) fun k3 e3 u3 h3 => ⟨e3, h3.seg, rfl, ?_⟩
 have u123 := (u1.trans u2).trans u3
 refine smul_v (a0.up u123) (d0.up u123) (by omega) fun k4 e4 u4 h4 => ⟨e4, h4.seg, rfl, ?_⟩
 refine smul_v (b0.up (u123.trans u4)) (c0.up (u123.trans u4)) (by omega) fun k5 e5 u5 h5 => ⟨e5, h5.seg, rfl, ?_⟩
 refine sadd_v (h4.up u5) h5 (by omega) fun k6 e6 u6 h6 => ⟨e6, h6.seg, rfl, fun k7 u7 => ?_⟩
 exact C k7 _ (((((u0.trans u123).trans u4).trans u5).trans u6).trans u7) ⟨e3, e6, rfl, ((((h3.up u4).up u5).up u6).up u7).mono (by omega), (h6.up u7).mono (by omega)⟩
theorem wneg_v (hx : WQ k cs x K) (hK : K ≤ 10000000000) (C : ∀ k' ds, Up k k' → WQ k' ds x.neg K → R k' (.agg ds)) :
   ∀ k0, Up k k0 → CallsG Tryz.prog 47 #[.agg cs] k0 R := by
 intro k0 u0
 obtain ⟨a, b, rfl, a0, b0⟩ := hx.up u0
 refine rwNeg_vc a0.seg b0.seg ?_
 refine sneg_v a0 hK fun k1 e1 u1 h1 => ⟨e1, h1.seg, rfl, ?_⟩
 refine sneg_v (b0.up u1) hK fun k2 e2 u2 h2 => ⟨e2, h2.seg, rfl, fun k4 u4 => ?_⟩
 exact C k4 _ (((u0.trans u1).trans u2).trans u4) ⟨e1, e2, rfl, (h1.up u2).up u4, h2.up u4⟩
theorem wconj_v (hx : WQ k cs x K) (hK : K ≤ 10000000000) (C : ∀ k' ds, Up k k' → WQ k' ds x.conj K → R k' (.agg ds)) :
   ∀ k0, Up k k0 → CallsG Tryz.prog 49 #[.agg cs] k0 R := by
 intro k0 u0
 obtain ⟨a, b, rfl, a0, b0⟩ := hx.up u0
 refine rwConj_vc a0.seg b0.seg ?_
 refine sneg_v b0 hK fun k2 e2 u2 h2 => ⟨e2, h2.seg, rfl, fun k4 u4 => ?_⟩
 exact C k4 _ ((u0.trans u2).trans u4) ⟨a, e2, rfl, (a0.up u2).up u4, h2.up u4⟩
theorem wreal_v (hx : QV k cs q K) (hK : 2 ≤ K) (C : ∀ k' ds, Up k k' → WQ k' ds (W4.real q) K → R k' (.agg ds)) :
   ∀ k0, Up k k0 → CallsG Tryz.prog 58 #[.agg cs] k0 R := by
 intro k0 u0
 refine rwReal_vc hx.seg (real_v (hx.up u0) hK fun k1 e1 u1 h1 => ⟨e1, h1.seg, rfl, ?_⟩)
 refine whole_v (by decide) (by decide) fun k2 e2 u2 h2 => ⟨e2, h2.seg, rfl, ?_⟩
 refine real_v h2 (by decide) fun k3 e3 u3 h3 => ⟨e3, h3.seg, rfl, fun k4 u4 => ?_⟩
 exact C k4 _ ((((u0.trans u1).trans u2).trans u3).trans u4) ⟨e1, e3, rfl, ((h1.up u2).up u3).up u4, (h3.up u4).mono hK⟩
theorem wzero_v (hx : WQ k cs x K) (C : ∀ k', Up k k' → R k' (.bool (decide (x = W4.zero)))) :
   ∀ k0, Up k k0 → CallsG Tryz.prog 56 #[.agg cs] k0 R := by
 intro k0 u0
 obtain ⟨a, b, rfl, a0, b0⟩ := hx.up u0
 rw [W4.zero_iff] at C
 refine rwZero_vc a0.seg b0.seg (szero_v a0 fun k1 u1 => ⟨_, rfl, fun h => ?_, fun h k5 u5 => ?_⟩)
 · rw [h] at C
   exact szero_v (b0.up u1) fun k2 u2 => ⟨_, rfl, fun k3 u3 => C k3 (((u0.trans u1).trans u2).trans u3)⟩
 · rw [h] at C
   exact C k5 ((u0.trans u1).trans u5)
theorem wsame_v (hx : WQ k cs x K) (hy : WQ k cs' y L) (hK : K + L ≤ 10000000000) (C : ∀ k', Up k k' → R k' (.bool (decide (x = y)))) :
   ∀ k0, Up k k0 → CallsG Tryz.prog 54 #[.agg cs, .agg cs'] k0 R := by
 intro k0 u0
 have hx' := hx.up u0
 have hy' := hy.up u0
 obtain ⟨a, b, rfl, a0, b0⟩ := hx
 obtain ⟨c, d, rfl, c0, d0⟩ := hy
 have e : decide (x.sub y = W4.zero) = decide (x = y) := decide_eq_decide.2 W4.sub_zero_iff
 refine rwSame_vc a0.seg b0.seg c0.seg d0.seg (wsub_v hx' hy' hK fun k1 e1 u1 h1 => ?_)
 have h1' := h1
 obtain ⟨p, q, rfl, p0, q0⟩ := h1'
 refine ⟨p, p0.seg, q, q0.seg, rfl, wzero_v h1 fun k3 u3 => ⟨_, rfl, fun k4 u4 => ?_⟩⟩
 rw [e]
 exact C k4 (((u0.trans u1).trans u3).trans u4)
theorem norm_v (hx : WQ k cs x K) (hK : 16 * K + 45 ≤ 10000000000) (C : ∀ k' ds, Up k k' → SQ k' ds x.norm (16 * K + 45) → R k' (.agg ds)) :
   ∀ k0, Up k k0 → CallsG Tryz.prog 52 #[.agg cs] k0 R := by
 intro k0 u0
 obtain ⟨a, b, rfl, a0, b0⟩ := hx.up u0
 refine rNorm_vc a0.seg b0.seg ?_
 refine smul_v a0 a0 (by omega) fun k1 e1 u1 h1 => ⟨e1, h1.seg, rfl, ?_⟩
 refine smul_v (b0.up u1) (b0.up u1) (by omega) fun k2 e2 u2 h2 => ⟨e2, h2.seg, rfl, ?_⟩
 refine sadd_v (h1.up u2) h2 (by omega) fun k3 e3 u3 h3 => ⟨e3, h3.seg, rfl, fun k4 u4 => ?_⟩
 exact C k4 _ ((((u0.trans u1).trans u2).trans u3).trans u4) ((h3.up u4).mono (by omega))
theorem wdiv_eq (K L : Nat) : 4 * (8 * (K + L) + 45) + 292 * (16 * L + 45) + 924 = 32 * K + 4704 * L + 14244 := by omega
theorem wdiv_v (hx : WQ k cs x K) (hy : WQ k cs' y L) (hK1 : 1 ≤ K) (hL1 : 1 ≤ L) (hK : 32 * K + 4704 * L + 14244 ≤ 10000000000) (C : ∀ k' ds, Up k k' → WQ k' ds (x.div y) (32 * K + 4704 * L + 14244) → R k' (.tuple #[.agg ds, .int .i64 (if y = W4.zero then 3 else 0)])) :
   ∀ k0, Up k k0 → CallsG Tryz.prog 38 #[.agg cs, .agg cs'] k0 R := by
 intro k0 u0
 replace hx := hx.up u0
 replace hy := hy.up u0
 have hx' := hx
 have hy' := hy
 obtain ⟨a, b, rfl, a0, b0⟩ := hx'
 obtain ⟨c, d, rfl, c0, d0⟩ := hy'
 refine rwDiv_vc a0.seg b0.seg c0.seg d0.seg (wzero_v hy fun k1 u1 => ⟨_, rfl, fun hz => ?_, fun hz => ?_⟩)
 · have hz := of_decide_eq_true hz
   rw [if_pos hz, hz, W4.div_zero] at C
   refine whole_v (by decide) (by decide) fun k2 e2 u2 h2 => ⟨e2, h2.seg, rfl, ?_⟩
   refine wreal_v h2 (by decide) fun k3 e3 u3 h3 => ?_
   obtain ⟨p, q, rfl, p0, q0⟩ := h3
   refine ⟨p, p0.seg, q, q0.seg, rfl, fun k4 u4 => ?_⟩
   exact C k4 _ ((((u0.trans u1).trans u2).trans u3).trans u4) (WQ.mono (K := 2) ⟨p, q, rfl, p0.up u4, q0.up u4⟩ (by omega))
 · have hz := of_decide_eq_false hz
   have hn45 : 16 * L + 45 ≤ 10000000000 := by omega
   rw [if_neg hz] at C
   refine wconj_v (hy.up u1) (by omega) fun k4 e4 u4 h4 => ?_
   have h4' := h4
   obtain ⟨p, q, rfl, p0, q0⟩ := h4'
   refine ⟨p, p0.seg, q, q0.seg, rfl, ?_⟩
   refine wmul_v ((hx.up u1).up u4) h4 (by omega) fun k6 e6 u6 h6 => ?_
   obtain ⟨r, s, rfl, r0, s0⟩ := h6
   refine ⟨r, r0.seg, s, s0.seg, rfl, ?_⟩
   refine norm_v (((hy.up u1).up u4).up u6) (by omega) fun k8 e8 u8 h8 => ⟨e8, h8.seg, rfl, ?_⟩
   refine sdiv_v (r0.up u8) h8 (by omega) (by omega) (by rw [wdiv_eq]; exact hK) fun k10 e10 u10 h10 => ⟨e10, h10.seg, _, rfl, ?_⟩
   have v10 := ((u1.trans u4).trans (u6.trans u8)).trans u10
   refine norm_v (hy.up v10) hn45 fun k11 e11 u11 h11 => ⟨e11, h11.seg, rfl, ?_⟩
   refine sdiv_v (((s0.up u8).up u10).up u11) h11 (by omega) (by omega) (by rw [wdiv_eq]; exact hK) fun k12 e12 u12 h12 => ⟨e12, h12.seg, _, rfl, fun k13 u13 => ?_⟩
   rw [wdiv_eq] at h10 h12
   exact C k13 _ ((((u0.trans v10).trans u11).trans u12).trans u13) ⟨e10, e12, rfl, ((h10.up u11).up u12).up u13, h12.up u13⟩
theorem wofwave_v {n0 n1 n2 n3 n4 n5 n6 n7 n8 n9 n10 n11 n12 n13 n14 n15 : Int} (h0 : In64 n0) (h1 : In64 n1) (h2 : In64 n2) (h3 : In64 n3) (h4 : In64 n4) (h5 : In64 n5) (h6 : In64 n6) (h7 : In64 n7) (h8 : In64 n8) (h9 : In64 n9) (h10 : In64 n10) (h11 : In64 n11) (h12 : In64 n12) (h13 : In64 n13) (h14 : In64 n14) (h15 : In64 n15) (C : ∀ k' ds, Up k k' → WQ k' ds ⟨⟨ofQ n0 n1, ofQ n2 n3, ofQ n4 n5, ofQ n6 n7⟩, ⟨ofQ n8 n9, ofQ n10 n11, ofQ n12 n13, ofQ n14 n15⟩⟩ 2 → R k' (.agg ds)) :
   ∀ k0, Up k k0 → CallsG Tryz.prog 36 #[.agg #[.int .i64 n0, .int .i64 n1, .int .i64 n2, .int .i64 n3, .int .i64 n4, .int .i64 n5, .int .i64 n6, .int .i64 n7, .int .i64 n8, .int .i64 n9, .int .i64 n10, .int .i64 n11, .int .i64 n12, .int .i64 n13, .int .i64 n14, .int .i64 n15]] k0 R := by
 intro k0 u0
 refine wOfWave_vc (squad_v h0 h1 h2 h3 h4 h5 h6 h7 fun k1 d1 u1 q1 => ⟨d1, q1.seg, rfl, ?_⟩)
 refine squad_v h8 h9 h10 h11 h12 h13 h14 h15 fun k3 d3 u3 q3 => ⟨d3, q3.seg, rfl, fun k4 u4 => ?_⟩
 exact C k4 _ (((u0.trans u1).trans u3).trans u4) ⟨d1, d3, rfl, (q1.up u3).up u4, q3.up u4⟩
end
end Go.Proofs.YtpjakokgmgggiaaGreat.W32

/- What is to be shown of the calls of some functions. (Printed by gen/vc.py.) -/
namespace Go.Proofs.YtpjakokgmgggiaaGreat
open Go.RowKit
open Sy (Up Sees CallsG Seg execFn_use)
set_option maxRecDepth 100000
variable {k : World} {R : World → Value → Prop}
theorem IsSurd_vc {cs0 cs1 : Array Value} (hcs0 : Seg 9 cs0) (hcs1 : Seg 12 cs1)
    (h : ∀ k0, Up k k0 → CallsG Tryz.prog 115 #[Value.agg cs0] k0 fun k1 r0 => ∃ s2, some (Value.string s2) = some r0 ∧
 ∀ k2, Up k1 k2 → CallsG Tryz.prog 151 #[Value.agg cs1] k2 fun k3 r2 => ∃ s3, some (Value.string s3) = some r2 ∧
 ∀ k4, Up k3 k4 → R k4 (Value.bool (ByteArray.toList s2 == ByteArray.toList s3))) :
    CallsG Tryz.prog 50 #[Value.agg cs0, Value.agg cs1] k R :=
  execFn_use (cfg := { opq := [57, 62] }) (args := [.agg [.seg 0 9], .agg [.seg 1 12]]) (vals := [Value.agg cs0, Value.agg cs1]) (kinds := [.seg 9, .seg 12]) (by kernel_rfl) ⟨⟨cs0, rfl, hcs0⟩, ⟨⟨cs1, rfl, hcs1⟩, trivial⟩⟩ (by kernel_rfl) (by kernel_rfl) h
theorem IsWave_vc {cs0 cs1 cs2 : Array Value} (hcs0 : Seg 18 cs0) (hcs1 : Seg 12 cs1) (hcs2 : Seg 12 cs2)
    (h : ∀ k0, Up k k0 → CallsG Tryz.prog 149 #[Value.agg cs0] k0 fun k1 r0 => ∃ cs3, Seg 9 cs3 ∧ some (Value.agg cs3) = some r0 ∧
 ∀ k2, Up k1 k2 → CallsG Tryz.prog 50 #[Value.agg cs3, Value.agg cs1] k2 fun k3 r2 => ∃ b4, some (Value.bool b4) = some r2 ∧
 (b4 = true →
 (∀ k4, Up k3 k4 → CallsG Tryz.prog 150 #[Value.agg cs0] k4 fun k5 r4 => ∃ cs5, Seg 9 cs5 ∧ some (Value.agg cs5) = some r4 ∧
 ∀ k6, Up k5 k6 → CallsG Tryz.prog 50 #[Value.agg cs5, Value.agg cs2] k6 fun k7 r6 => ∃ b6, some (Value.bool b6) = some r6 ∧
 ∀ k8, Up k7 k8 → R k8 (Value.bool b6))) ∧
 (b4 = false →
 (∀ k9, Up k3 k9 → R k9 (Value.bool false)))) :
    CallsG Tryz.prog 39 #[Value.agg cs0, Value.agg (cs1.toList ++ (cs2.toList ++ ([]))).toArray] k R :=
  execFn_use (cfg := { opq := [59, 57, 62] }) (args := [.agg [.seg 0 18], .agg [.seg 1 12, .seg 2 12]]) (vals := [Value.agg cs0, Value.agg cs1, Value.agg cs2]) (kinds := [.seg 18, .seg 12, .seg 12]) (by kernel_rfl) ⟨⟨cs0, rfl, hcs0⟩, ⟨⟨cs1, rfl, hcs1⟩, ⟨⟨cs2, rfl, hcs2⟩, trivial⟩⟩⟩ (by kernel_rfl) (by kernel_rfl) h
theorem OfQuad_vc {n0 n1 n2 n3 n4 n5 n6 n7 : Int}
    (h : ∀ k0, Up k k0 → CallsG Tryz.prog 15 #[Value.agg #[Value.int .i64 n0, Value.int .i64 n1]] k0 fun k1 r0 => ∃ cs8, Seg 3 cs8 ∧ some (Value.agg cs8) = some r0 ∧
 ∀ k2, Up k1 k2 → CallsG Tryz.prog 15 #[Value.agg #[Value.int .i64 n2, Value.int .i64 n3]] k2 fun k3 r2 => ∃ cs9, Seg 3 cs9 ∧ some (Value.agg cs9) = some r2 ∧
 ∀ k4, Up k3 k4 → CallsG Tryz.prog 15 #[Value.agg #[Value.int .i64 n4, Value.int .i64 n5]] k4 fun k5 r4 => ∃ cs10, Seg 3 cs10 ∧ some (Value.agg cs10) = some r4 ∧
 ∀ k6, Up k5 k6 → CallsG Tryz.prog 15 #[Value.agg #[Value.int .i64 n6, Value.int .i64 n7]] k6 fun k7 r6 => ∃ cs11, Seg 3 cs11 ∧ some (Value.agg cs11) = some r6 ∧
 ∀ k8, Up k7 k8 → CallsG Tryz.prog 107 #[Value.agg (cs8.toList ++ (cs9.toList ++ (cs10.toList ++ (cs11.toList ++ ([]))))).toArray] k8 fun k9 r8 => ∃ cs12, Seg 9 cs12 ∧ some (Value.agg cs12) = some r8 ∧
 ∀ k10, Up k9 k10 → R k10 (Value.agg cs12)) :
    CallsG Tryz.prog 67 #[Value.agg #[Value.int .i64 n0, Value.int .i64 n1, Value.int .i64 n2, Value.int .i64 n3, Value.int .i64 n4, Value.int .i64 n5, Value.int .i64 n6, Value.int .i64 n7]] k R :=
  execFn_use (cfg := { opq := [30, 57] }) (args := [.agg [.var 0, .var 1, .var 2, .var 3, .var 4, .var 5, .var 6, .var 7]]) (vals := [Value.int .i64 n0, Value.int .i64 n1, Value.int .i64 n2, Value.int .i64 n3, Value.int .i64 n4, Value.int .i64 n5, Value.int .i64 n6, Value.int .i64 n7]) (kinds := [.int .i64, .int .i64, .int .i64, .int .i64, .int .i64, .int .i64, .int .i64, .int .i64]) (by kernel_rfl) ⟨⟨_, rfl⟩, ⟨⟨_, rfl⟩, ⟨⟨_, rfl⟩, ⟨⟨_, rfl⟩, ⟨⟨_, rfl⟩, ⟨⟨_, rfl⟩, ⟨⟨_, rfl⟩, ⟨⟨_, rfl⟩, trivial⟩⟩⟩⟩⟩⟩⟩⟩ (by kernel_rfl) (by kernel_rfl) h
theorem OfWave_vc {n0 n1 n2 n3 n4 n5 n6 n7 n8 n9 n10 n11 n12 n13 n14 n15 : Int}
    (h : ∀ k0, Up k k0 → CallsG Tryz.prog 67 #[Value.agg #[Value.int .i64 n0, Value.int .i64 n1, Value.int .i64 n2, Value.int .i64 n3, Value.int .i64 n4, Value.int .i64 n5, Value.int .i64 n6, Value.int .i64 n7]] k0 fun k1 r0 => ∃ cs16, Seg 9 cs16 ∧ some (Value.agg cs16) = some r0 ∧
 ∀ k2, Up k1 k2 → CallsG Tryz.prog 67 #[Value.agg #[Value.int .i64 n8, Value.int .i64 n9, Value.int .i64 n10, Value.int .i64 n11, Value.int .i64 n12, Value.int .i64 n13, Value.int .i64 n14, Value.int .i64 n15]] k2 fun k3 r2 => ∃ cs17, Seg 9 cs17 ∧ some (Value.agg cs17) = some r2 ∧
 ∀ k4, Up k3 k4 → CallsG Tryz.prog 148 #[Value.agg cs16, Value.agg cs17] k4 fun k5 r4 => ∃ cs18, Seg 9 cs18 ∧ ∃ cs19, Seg 9 cs19 ∧ some (Value.agg (cs18.toList ++ (cs19.toList ++ ([]))).toArray) = some r4 ∧
 ∀ k6, Up k5 k6 → R k6 (Value.agg (cs18.toList ++ (cs19.toList ++ ([]))).toArray)) :
    CallsG Tryz.prog 35 #[Value.agg #[Value.int .i64 n0, Value.int .i64 n1, Value.int .i64 n2, Value.int .i64 n3, Value.int .i64 n4, Value.int .i64 n5, Value.int .i64 n6, Value.int .i64 n7, Value.int .i64 n8, Value.int .i64 n9, Value.int .i64 n10, Value.int .i64 n11, Value.int .i64 n12, Value.int .i64 n13, Value.int .i64 n14, Value.int .i64 n15]] k R :=
  execFn_use (cfg := { opq := [57] }) (args := [.agg [.var 0, .var 1, .var 2, .var 3, .var 4, .var 5, .var 6, .var 7, .var 8, .var 9, .var 10, .var 11, .var 12, .var 13, .var 14, .var 15]]) (vals := [Value.int .i64 n0, Value.int .i64 n1, Value.int .i64 n2, Value.int .i64 n3, Value.int .i64 n4, Value.int .i64 n5, Value.int .i64 n6, Value.int .i64 n7, Value.int .i64 n8, Value.int .i64 n9, Value.int .i64 n10, Value.int .i64 n11, Value.int .i64 n12, Value.int .i64 n13, Value.int .i64 n14, Value.int .i64 n15]) (kinds := [.int .i64, .int .i64, .int .i64, .int .i64, .int .i64, .int .i64, .int .i64, .int .i64, .int .i64, .int .i64, .int .i64, .int .i64, .int .i64, .int .i64, .int .i64, .int .i64]) (by kernel_rfl) ⟨⟨_, rfl⟩, ⟨⟨_, rfl⟩, ⟨⟨_, rfl⟩, ⟨⟨_, rfl⟩, ⟨⟨_, rfl⟩, ⟨⟨_, rfl⟩, ⟨⟨_, rfl⟩, ⟨⟨_, rfl⟩, ⟨⟨_, rfl⟩, ⟨⟨_, rfl⟩, ⟨⟨_, rfl⟩, ⟨⟨_, rfl⟩, ⟨⟨_, rfl⟩, ⟨⟨_, rfl⟩, ⟨⟨_, rfl⟩, ⟨⟨_, rfl⟩, trivial⟩⟩⟩⟩⟩⟩⟩⟩⟩⟩⟩⟩⟩⟩⟩⟩ (by kernel_rfl) (by kernel_rfl) h
theorem small_vc {n0 n1 n2 n3 n4 n5 n6 n7 : Int}
    (h : ((decide (((if (decide ((n0 : Int) < n1)) = true then n1 else n0) : Int) > 1099511627776)) = true →
 (∀ k0, Up k k0 → R k0 (Value.bool false))) ∧
 ((decide (((if (decide ((n0 : Int) < n1)) = true then n1 else n0) : Int) > 1099511627776)) = false →
 (((decide (((if (decide ((n1 : Int) < n0)) = true then n1 else n0) : Int) < (-1099511627776))) = true →
 (∀ k1, Up k k1 → R k1 (Value.bool false))) ∧
 ((decide (((if (decide ((n1 : Int) < n0)) = true then n1 else n0) : Int) < (-1099511627776))) = false →
 (((decide (((if (decide ((n2 : Int) < n3)) = true then n3 else n2) : Int) > 1099511627776)) = true →
 (∀ k2, Up k k2 → R k2 (Value.bool false))) ∧
 ((decide (((if (decide ((n2 : Int) < n3)) = true then n3 else n2) : Int) > 1099511627776)) = false →
 (((decide (((if (decide ((n3 : Int) < n2)) = true then n3 else n2) : Int) < (-1099511627776))) = true →
 (∀ k3, Up k k3 → R k3 (Value.bool false))) ∧
 ((decide (((if (decide ((n3 : Int) < n2)) = true then n3 else n2) : Int) < (-1099511627776))) = false →
 (((decide (((if (decide ((n4 : Int) < n5)) = true then n5 else n4) : Int) > 1099511627776)) = true →
 (∀ k4, Up k k4 → R k4 (Value.bool false))) ∧
 ((decide (((if (decide ((n4 : Int) < n5)) = true then n5 else n4) : Int) > 1099511627776)) = false →
 (((decide (((if (decide ((n5 : Int) < n4)) = true then n5 else n4) : Int) < (-1099511627776))) = true →
 (∀ k5, Up k k5 → R k5 (Value.bool false))) ∧
 ((decide (((if (decide ((n5 : Int) < n4)) = true then n5 else n4) : Int) < (-1099511627776))) = false →
 (((decide (((if (decide ((n6 : Int) < n7)) = true then n7 else n6) : Int) > 1099511627776)) = true →
 (∀ k6, Up k k6 → R k6 (Value.bool false))) ∧
 ((decide (((if (decide ((n6 : Int) < n7)) = true then n7 else n6) : Int) > 1099511627776)) = false →
 (((decide (((if (decide ((n7 : Int) < n6)) = true then n7 else n6) : Int) < (-1099511627776))) = true →
 (∀ k7, Up k k7 → R k7 (Value.bool false))) ∧
 ((decide (((if (decide ((n7 : Int) < n6)) = true then n7 else n6) : Int) < (-1099511627776))) = false →
 (∀ k8, Up k k8 → R k8 (Value.bool true)))))))))))))))))) :
    CallsG Tryz.prog 66 #[Value.agg #[Value.int .i64 n0, Value.int .i64 n1, Value.int .i64 n2, Value.int .i64 n3, Value.int .i64 n4, Value.int .i64 n5, Value.int .i64 n6, Value.int .i64 n7]] k R :=
  execFn_use (cfg := { opq := [] }) (args := [.agg [.var 0, .var 1, .var 2, .var 3, .var 4, .var 5, .var 6, .var 7]]) (vals := [Value.int .i64 n0, Value.int .i64 n1, Value.int .i64 n2, Value.int .i64 n3, Value.int .i64 n4, Value.int .i64 n5, Value.int .i64 n6, Value.int .i64 n7]) (kinds := [.int .i64, .int .i64, .int .i64, .int .i64, .int .i64, .int .i64, .int .i64, .int .i64]) (by kernel_rfl) ⟨⟨_, rfl⟩, ⟨⟨_, rfl⟩, ⟨⟨_, rfl⟩, ⟨⟨_, rfl⟩, ⟨⟨_, rfl⟩, ⟨⟨_, rfl⟩, ⟨⟨_, rfl⟩, ⟨⟨_, rfl⟩, trivial⟩⟩⟩⟩⟩⟩⟩⟩ (by kernel_rfl) (by kernel_rfl) h
theorem smallWave_vc {n0 n1 n2 n3 n4 n5 n6 n7 n8 n9 n10 n11 n12 n13 n14 n15 : Int}
    (h : ∀ k0, Up k k0 → CallsG Tryz.prog 66 #[Value.agg #[Value.int .i64 n0, Value.int .i64 n1, Value.int .i64 n2, Value.int .i64 n3, Value.int .i64 n4, Value.int .i64 n5, Value.int .i64 n6, Value.int .i64 n7]] k0 fun k1 r0 => ∃ b16, some (Value.bool b16) = some r0 ∧
 (b16 = true →
 (∀ k2, Up k1 k2 → CallsG Tryz.prog 66 #[Value.agg #[Value.int .i64 n8, Value.int .i64 n9, Value.int .i64 n10, Value.int .i64 n11, Value.int .i64 n12, Value.int .i64 n13, Value.int .i64 n14, Value.int .i64 n15]] k2 fun k3 r2 => ∃ b17, some (Value.bool b17) = some r2 ∧
 ∀ k4, Up k3 k4 → R k4 (Value.bool b17))) ∧
 (b16 = false →
 (∀ k5, Up k1 k5 → R k5 (Value.bool false)))) :
    CallsG Tryz.prog 34 #[Value.agg #[Value.int .i64 n0, Value.int .i64 n1, Value.int .i64 n2, Value.int .i64 n3, Value.int .i64 n4, Value.int .i64 n5, Value.int .i64 n6, Value.int .i64 n7, Value.int .i64 n8, Value.int .i64 n9, Value.int .i64 n10, Value.int .i64 n11, Value.int .i64 n12, Value.int .i64 n13, Value.int .i64 n14, Value.int .i64 n15]] k R :=
  execFn_use (cfg := { opq := [] }) (args := [.agg [.var 0, .var 1, .var 2, .var 3, .var 4, .var 5, .var 6, .var 7, .var 8, .var 9, .var 10, .var 11, .var 12, .var 13, .var 14, .var 15]]) (vals := [Value.int .i64 n0, Value.int .i64 n1, Value.int .i64 n2, Value.int .i64 n3, Value.int .i64 n4, Value.int .i64 n5, Value.int .i64 n6, Value.int .i64 n7, Value.int .i64 n8, Value.int .i64 n9, Value.int .i64 n10, Value.int .i64 n11, Value.int .i64 n12, Value.int .i64 n13, Value.int .i64 n14, Value.int .i64 n15]) (kinds := [.int .i64, .int .i64, .int .i64, .int .i64, .int .i64, .int .i64, .int .i64, .int .i64, .int .i64, .int .i64, .int .i64, .int .i64, .int .i64, .int .i64, .int .i64, .int .i64]) (by kernel_rfl) ⟨⟨_, rfl⟩, ⟨⟨_, rfl⟩, ⟨⟨_, rfl⟩, ⟨⟨_, rfl⟩, ⟨⟨_, rfl⟩, ⟨⟨_, rfl⟩, ⟨⟨_, rfl⟩, ⟨⟨_, rfl⟩, ⟨⟨_, rfl⟩, ⟨⟨_, rfl⟩, ⟨⟨_, rfl⟩, ⟨⟨_, rfl⟩, ⟨⟨_, rfl⟩, ⟨⟨_, rfl⟩, ⟨⟨_, rfl⟩, ⟨⟨_, rfl⟩, trivial⟩⟩⟩⟩⟩⟩⟩⟩⟩⟩⟩⟩⟩⟩⟩⟩ (by kernel_rfl) (by kernel_rfl) h
theorem waves_vc {n0 n1 n2 n3 n4 n5 n6 n7 n8 n9 n10 n11 n12 n13 n14 n15 n16 n17 n18 n19 n20 n21 n22 n23 n24 n25 n26 n27 n28 n29 n30 n31 : Int}
    (h : ∀ k0, Up k k0 → CallsG Tryz.prog 14 #[] k0 fun k1 r0 => ∃ b32, some (Value.bool b32) = some r0 ∧
 ((!b32) = true →
 (∀ k2, Up k1 k2 → CallsG Tryz.prog 14 #[] k2 fun k3 r2 => ∃ b33, some (Value.bool b33) = some r2 ∧
 ∀ k4, Up k3 k4 → R k4 (Value.bool b33))) ∧
 ((!b32) = false →
 (∀ k5, Up k1 k5 → CallsG Tryz.prog 34 #[Value.agg #[Value.int .i64 n0, Value.int .i64 n1, Value.int .i64 n2, Value.int .i64 n3, Value.int .i64 n4, Value.int .i64 n5, Value.int .i64 n6, Value.int .i64 n7, Value.int .i64 n8, Value.int .i64 n9, Value.int .i64 n10, Value.int .i64 n11, Value.int .i64 n12, Value.int .i64 n13, Value.int .i64 n14, Value.int .i64 n15]] k5 fun k6 r5 => ∃ b33, some (Value.bool b33) = some r5 ∧
 ((!b33) = true →
 (∀ k7, Up k6 k7 → CallsG Tryz.prog 14 #[] k7 fun k8 r7 => ∃ b34, some (Value.bool b34) = some r7 ∧
 ∀ k9, Up k8 k9 → R k9 (Value.bool b34))) ∧
 ((!b33) = false →
 (∀ k10, Up k6 k10 → CallsG Tryz.prog 34 #[Value.agg #[Value.int .i64 n16, Value.int .i64 n17, Value.int .i64 n18, Value.int .i64 n19, Value.int .i64 n20, Value.int .i64 n21, Value.int .i64 n22, Value.int .i64 n23, Value.int .i64 n24, Value.int .i64 n25, Value.int .i64 n26, Value.int .i64 n27, Value.int .i64 n28, Value.int .i64 n29, Value.int .i64 n30, Value.int .i64 n31]] k10 fun k11 r10 => ∃ b34, some (Value.bool b34) = some r10 ∧
 ((!b34) = true →
 (∀ k12, Up k11 k12 → CallsG Tryz.prog 14 #[] k12 fun k13 r12 => ∃ b35, some (Value.bool b35) = some r12 ∧
 ∀ k14, Up k13 k14 → R k14 (Value.bool b35))) ∧
 ((!b34) = false →
 (∀ k15, Up k11 k15 → CallsG Tryz.prog 35 #[Value.agg #[Value.int .i64 n0, Value.int .i64 n1, Value.int .i64 n2, Value.int .i64 n3, Value.int .i64 n4, Value.int .i64 n5, Value.int .i64 n6, Value.int .i64 n7, Value.int .i64 n8, Value.int .i64 n9, Value.int .i64 n10, Value.int .i64 n11, Value.int .i64 n12, Value.int .i64 n13, Value.int .i64 n14, Value.int .i64 n15]] k15 fun k16 r15 => ∃ cs35, Seg 18 cs35 ∧ some (Value.agg cs35) = some r15 ∧
 ∀ k17, Up k16 k17 → CallsG Tryz.prog 35 #[Value.agg #[Value.int .i64 n16, Value.int .i64 n17, Value.int .i64 n18, Value.int .i64 n19, Value.int .i64 n20, Value.int .i64 n21, Value.int .i64 n22, Value.int .i64 n23, Value.int .i64 n24, Value.int .i64 n25, Value.int .i64 n26, Value.int .i64 n27, Value.int .i64 n28, Value.int .i64 n29, Value.int .i64 n30, Value.int .i64 n31]] k17 fun k18 r17 => ∃ cs36, Seg 18 cs36 ∧ some (Value.agg cs36) = some r17 ∧
 ∀ k19, Up k18 k19 → CallsG Tryz.prog 36 #[Value.agg #[Value.int .i64 n0, Value.int .i64 n1, Value.int .i64 n2, Value.int .i64 n3, Value.int .i64 n4, Value.int .i64 n5, Value.int .i64 n6, Value.int .i64 n7, Value.int .i64 n8, Value.int .i64 n9, Value.int .i64 n10, Value.int .i64 n11, Value.int .i64 n12, Value.int .i64 n13, Value.int .i64 n14, Value.int .i64 n15]] k19 fun k20 r19 => ∃ cs37, Seg 24 cs37 ∧ some (Value.agg cs37) = some r19 ∧
 ∀ k21, Up k20 k21 → CallsG Tryz.prog 36 #[Value.agg #[Value.int .i64 n16, Value.int .i64 n17, Value.int .i64 n18, Value.int .i64 n19, Value.int .i64 n20, Value.int .i64 n21, Value.int .i64 n22, Value.int .i64 n23, Value.int .i64 n24, Value.int .i64 n25, Value.int .i64 n26, Value.int .i64 n27, Value.int .i64 n28, Value.int .i64 n29, Value.int .i64 n30, Value.int .i64 n31]] k21 fun k22 r21 => ∃ cs38, Seg 24 cs38 ∧ some (Value.agg cs38) = some r21 ∧
 ∀ k23, Up k22 k23 → CallsG Tryz.prog 37 #[Value.agg cs35, Value.agg cs36] k23 fun k24 r23 => ∃ cs39, Seg 18 cs39 ∧ ∃ n40, some (Value.tuple #[Value.agg cs39, Value.int .i64 n40]) = some r23 ∧
 ∀ k25, Up k24 k25 → CallsG Tryz.prog 38 #[Value.agg cs37, Value.agg cs38] k25 fun k26 r25 => ∃ cs41, Seg 24 cs41 ∧ ∃ n42, some (Value.tuple #[Value.agg cs41, Value.int .i64 n42]) = some r25 ∧
 (((n40 : Int) != n42) = true →
 (∀ k27, Up k26 k27 → R k27 (Value.bool false))) ∧
 (((n40 : Int) != n42) = false →
 (∀ k28, Up k26 k28 → CallsG Tryz.prog 39 #[Value.agg cs39, Value.agg cs41] k28 fun k29 r28 => ∃ b43, some (Value.bool b43) = some r28 ∧
 ((!b43) = true →
 (∀ k30, Up k29 k30 → R k30 (Value.bool false))) ∧
 ((!b43) = false →
 (∀ k31, Up k29 k31 → CallsG Tryz.prog 40 #[Value.agg cs35, Value.agg cs36] k31 fun k32 r31 => ∃ cs44, Seg 18 cs44 ∧ some (Value.agg cs44) = some r31 ∧
 ∀ k33, Up k32 k33 → CallsG Tryz.prog 41 #[Value.agg cs37, Value.agg cs38] k33 fun k34 r33 => ∃ cs45, Seg 24 cs45 ∧ some (Value.agg cs45) = some r33 ∧
 ∀ k35, Up k34 k35 → CallsG Tryz.prog 39 #[Value.agg cs44, Value.agg cs45] k35 fun k36 r35 => ∃ b46, some (Value.bool b46) = some r35 ∧
 ((!b46) = true →
 (∀ k37, Up k36 k37 → R k37 (Value.bool false))) ∧
 ((!b46) = false →
 (∀ k38, Up k36 k38 → CallsG Tryz.prog 42 #[Value.agg cs35, Value.agg cs36] k38 fun k39 r38 => ∃ cs47, Seg 18 cs47 ∧ some (Value.agg cs47) = some r38 ∧
 ∀ k40, Up k39 k40 → CallsG Tryz.prog 43 #[Value.agg cs37, Value.agg cs38] k40 fun k41 r40 => ∃ cs48, Seg 24 cs48 ∧ some (Value.agg cs48) = some r40 ∧
 ∀ k42, Up k41 k42 → CallsG Tryz.prog 39 #[Value.agg cs47, Value.agg cs48] k42 fun k43 r42 => ∃ b49, some (Value.bool b49) = some r42 ∧
 ((!b49) = true →
 (∀ k44, Up k43 k44 → R k44 (Value.bool false))) ∧
 ((!b49) = false →
 (∀ k45, Up k43 k45 → CallsG Tryz.prog 44 #[Value.agg cs35, Value.agg cs36] k45 fun k46 r45 => ∃ cs50, Seg 18 cs50 ∧ some (Value.agg cs50) = some r45 ∧
 ∀ k47, Up k46 k47 → CallsG Tryz.prog 45 #[Value.agg cs37, Value.agg cs38] k47 fun k48 r47 => ∃ cs51, Seg 24 cs51 ∧ some (Value.agg cs51) = some r47 ∧
 ∀ k49, Up k48 k49 → CallsG Tryz.prog 39 #[Value.agg cs50, Value.agg cs51] k49 fun k50 r49 => ∃ b52, some (Value.bool b52) = some r49 ∧
 ((!b52) = true →
 (∀ k51, Up k50 k51 → R k51 (Value.bool false))) ∧
 ((!b52) = false →
 (∀ k52, Up k50 k52 → CallsG Tryz.prog 46 #[Value.agg cs35] k52 fun k53 r52 => ∃ cs53, Seg 18 cs53 ∧ some (Value.agg cs53) = some r52 ∧
 ∀ k54, Up k53 k54 → CallsG Tryz.prog 47 #[Value.agg cs37] k54 fun k55 r54 => ∃ cs54, Seg 24 cs54 ∧ some (Value.agg cs54) = some r54 ∧
 ∀ k56, Up k55 k56 → CallsG Tryz.prog 39 #[Value.agg cs53, Value.agg cs54] k56 fun k57 r56 => ∃ b55, some (Value.bool b55) = some r56 ∧
 (b55 = true →
 (∀ k58, Up k57 k58 → CallsG Tryz.prog 48 #[Value.agg cs35] k58 fun k59 r58 => ∃ cs56, Seg 18 cs56 ∧ some (Value.agg cs56) = some r58 ∧
 ∀ k60, Up k59 k60 → CallsG Tryz.prog 49 #[Value.agg cs37] k60 fun k61 r60 => ∃ cs57, Seg 24 cs57 ∧ some (Value.agg cs57) = some r60 ∧
 ∀ k62, Up k61 k62 → CallsG Tryz.prog 39 #[Value.agg cs56, Value.agg cs57] k62 fun k63 r62 => ∃ b58, some (Value.bool b58) = some r62 ∧
 (b58 = true →
 (∀ k64, Up k63 k64 → CallsG Tryz.prog 51 #[Value.agg cs35] k64 fun k65 r64 => ∃ cs59, Seg 9 cs59 ∧ some (Value.agg cs59) = some r64 ∧
 ∀ k66, Up k65 k66 → CallsG Tryz.prog 52 #[Value.agg cs37] k66 fun k67 r66 => ∃ cs60, Seg 12 cs60 ∧ some (Value.agg cs60) = some r66 ∧
 ∀ k68, Up k67 k68 → CallsG Tryz.prog 50 #[Value.agg cs59, Value.agg cs60] k68 fun k69 r68 => ∃ b61, some (Value.bool b61) = some r68 ∧
 (b61 = true →
 (∀ k70, Up k69 k70 → CallsG Tryz.prog 53 #[Value.agg cs35, Value.agg cs36] k70 fun k71 r70 => ∃ b62, some (Value.bool b62) = some r70 ∧
 ∀ k72, Up k71 k72 → CallsG Tryz.prog 54 #[Value.agg cs37, Value.agg cs38] k72 fun k73 r72 => ∃ b63, some (Value.bool b63) = some r72 ∧
 ((b62 == b63) = true →
 (∀ k74, Up k73 k74 → CallsG Tryz.prog 55 #[Value.agg cs35] k74 fun k75 r74 => ∃ b64, some (Value.bool b64) = some r74 ∧
 ∀ k76, Up k75 k76 → CallsG Tryz.prog 56 #[Value.agg cs37] k76 fun k77 r76 => ∃ b65, some (Value.bool b65) = some r76 ∧
 ((b64 == b65) = true →
 (∀ k78, Up k77 k78 → CallsG Tryz.prog 15 #[Value.agg #[Value.int .i64 n16, Value.int .i64 n17]] k78 fun k79 r78 => ∃ cs66, Seg 3 cs66 ∧ some (Value.agg cs66) = some r78 ∧
 ∀ k80, Up k79 k80 → CallsG Tryz.prog 57 #[Value.agg cs35, Value.agg cs66] k80 fun k81 r80 => ∃ cs67, Seg 18 cs67 ∧ some (Value.agg cs67) = some r80 ∧
 ∀ k82, Up k81 k82 → CallsG Tryz.prog 16 #[Value.agg #[Value.int .i64 n16, Value.int .i64 n17]] k82 fun k83 r82 => ∃ cs68, Seg 3 cs68 ∧ some (Value.agg cs68) = some r82 ∧
 ∀ k84, Up k83 k84 → CallsG Tryz.prog 58 #[Value.agg cs68] k84 fun k85 r84 => ∃ cs69, Seg 24 cs69 ∧ some (Value.agg cs69) = some r84 ∧
 ∀ k86, Up k85 k86 → CallsG Tryz.prog 39 #[Value.agg cs67, Value.agg cs69] k86 fun k87 r86 => ∃ b70, some (Value.bool b70) = some r86 ∧
 ∀ k88, Up k87 k88 → R k88 (Value.bool b70))) ∧
 ((b64 == b65) = false →
 (∀ k89, Up k77 k89 → R k89 (Value.bool false))))) ∧
 ((b62 == b63) = false →
 (∀ k90, Up k73 k90 → R k90 (Value.bool false))))) ∧
 (b61 = false →
 (∀ k91, Up k69 k91 → R k91 (Value.bool false))))) ∧
 (b58 = false →
 (∀ k92, Up k63 k92 → R k92 (Value.bool false))))) ∧
 (b55 = false →
 (∀ k93, Up k57 k93 → R k93 (Value.bool false)))))))))))))))))))) :
    CallsG Tryz.prog 4 #[Value.agg #[Value.int .i64 n0, Value.int .i64 n1, Value.int .i64 n2, Value.int .i64 n3, Value.int .i64 n4, Value.int .i64 n5, Value.int .i64 n6, Value.int .i64 n7, Value.int .i64 n8, Value.int .i64 n9, Value.int .i64 n10, Value.int .i64 n11, Value.int .i64 n12, Value.int .i64 n13, Value.int .i64 n14, Value.int .i64 n15], Value.agg #[Value.int .i64 n16, Value.int .i64 n17, Value.int .i64 n18, Value.int .i64 n19, Value.int .i64 n20, Value.int .i64 n21, Value.int .i64 n22, Value.int .i64 n23, Value.int .i64 n24, Value.int .i64 n25, Value.int .i64 n26, Value.int .i64 n27, Value.int .i64 n28, Value.int .i64 n29, Value.int .i64 n30, Value.int .i64 n31]] k R :=
  execFn_use (cfg := { opq := [30, 59, 57, 62, 34, 64] }) (args := [.agg [.var 0, .var 1, .var 2, .var 3, .var 4, .var 5, .var 6, .var 7, .var 8, .var 9, .var 10, .var 11, .var 12, .var 13, .var 14, .var 15], .agg [.var 16, .var 17, .var 18, .var 19, .var 20, .var 21, .var 22, .var 23, .var 24, .var 25, .var 26, .var 27, .var 28, .var 29, .var 30, .var 31]]) (vals := [Value.int .i64 n0, Value.int .i64 n1, Value.int .i64 n2, Value.int .i64 n3, Value.int .i64 n4, Value.int .i64 n5, Value.int .i64 n6, Value.int .i64 n7, Value.int .i64 n8, Value.int .i64 n9, Value.int .i64 n10, Value.int .i64 n11, Value.int .i64 n12, Value.int .i64 n13, Value.int .i64 n14, Value.int .i64 n15, Value.int .i64 n16, Value.int .i64 n17, Value.int .i64 n18, Value.int .i64 n19, Value.int .i64 n20, Value.int .i64 n21, Value.int .i64 n22, Value.int .i64 n23, Value.int .i64 n24, Value.int .i64 n25, Value.int .i64 n26, Value.int .i64 n27, Value.int .i64 n28, Value.int .i64 n29, Value.int .i64 n30, Value.int .i64 n31]) (kinds := [.int .i64, .int .i64, .int .i64, .int .i64, .int .i64, .int .i64, .int .i64, .int .i64, .int .i64, .int .i64, .int .i64, .int .i64, .int .i64, .int .i64, .int .i64, .int .i64, .int .i64, .int .i64, .int .i64, .int .i64, .int .i64, .int .i64, .int .i64, .int .i64, .int .i64, .int .i64, .int .i64, .int .i64, .int .i64, .int .i64, .int .i64, .int .i64]) (by kernel_rfl) ⟨⟨_, rfl⟩, ⟨⟨_, rfl⟩, ⟨⟨_, rfl⟩, ⟨⟨_, rfl⟩, ⟨⟨_, rfl⟩, ⟨⟨_, rfl⟩, ⟨⟨_, rfl⟩, ⟨⟨_, rfl⟩, ⟨⟨_, rfl⟩, ⟨⟨_, rfl⟩, ⟨⟨_, rfl⟩, ⟨⟨_, rfl⟩, ⟨⟨_, rfl⟩, ⟨⟨_, rfl⟩, ⟨⟨_, rfl⟩, ⟨⟨_, rfl⟩, ⟨⟨_, rfl⟩, ⟨⟨_, rfl⟩, ⟨⟨_, rfl⟩, ⟨⟨_, rfl⟩, ⟨⟨_, rfl⟩, ⟨⟨_, rfl⟩, ⟨⟨_, rfl⟩, ⟨⟨_, rfl⟩, ⟨⟨_, rfl⟩, ⟨⟨_, rfl⟩, ⟨⟨_, rfl⟩, ⟨⟨_, rfl⟩, ⟨⟨_, rfl⟩, ⟨⟨_, rfl⟩, ⟨⟨_, rfl⟩, ⟨⟨_, rfl⟩, trivial⟩⟩⟩⟩⟩⟩⟩⟩⟩⟩⟩⟩⟩⟩⟩⟩⟩⟩⟩⟩⟩⟩⟩⟩⟩⟩⟩⟩⟩⟩⟩⟩ (by kernel_rfl) (by kernel_rfl) h
end Go.Proofs.YtpjakokgmgggiaaGreat

/- What ExactWaves computes. (Printed by gen/lawz.py.) -/
namespace Go.Proofs.YtpjakokgmgggiaaGreat
open Go.RowKit Num Plain W32
open Sy (Up Sees CallsG Seg)
section
variable {k k' : World} {R : World → Value → Prop} {x q : Rat} {K L : Nat} {cs cs' : Array Value} {v : Q4} {w : W4}
theorem OfQuad_s {n0 n1 n2 n3 n4 n5 n6 n7 : Int} (h0 : In64 n0) (h1 : In64 n1) (h2 : In64 n2) (h3 : In64 n3) (h4 : In64 n4) (h5 : In64 n5) (h6 : In64 n6) (h7 : In64 n7) (C : ∀ k' ds, Up k k' → SurdV k' ds ⟨ofQ n0 n1, ofQ n2 n3, ofQ n4 n5, ofQ n6 n7⟩ 6 → R k' (.agg ds)) :
   ∀ k0, Up k k0 → CallsG Tryz.prog 67 #[.agg #[.int .i64 n0, .int .i64 n1, .int .i64 n2, .int .i64 n3, .int .i64 n4, .int .i64 n5, .int .i64 n6, .int .i64 n7]] k0 R := by
 intro k0 u0
 replace C := fun k' ds u => C k' ds (u0.trans u)
 refine OfQuad_vc ?_
 refine Of_s h0 h1 ?_
 intro k1 c1 u1 q1
 refine ⟨c1, q1.seg, rfl, ?_⟩
 refine Of_s h2 h3 ?_
 intro k2 c2 u2 q2
 refine ⟨c2, q2.seg, rfl, ?_⟩
 refine Of_s h4 h5 ?_
 intro k3 c3 u3 q3
 refine ⟨c3, q3.seg, rfl, ?_⟩
 refine Of_s h6 h7 ?_
 intro k4 c4 u4 q4
 refine ⟨c4, q4.seg, rfl, ?_⟩
 refine Make_s (((q1.up u2).up u3).up u4) ((q2.up u3).up u4) (q3.up u4) q4 (by omega) (by omega) ?_
 intro k5 c5 u5 h5
 refine ⟨c5, h5.seg, rfl, ?_⟩
 intro k6 u6
 exact C k6 c5 (((((u1.trans u2).trans u3).trans u4).trans u5).trans u6) (h5.up u6)
theorem small_s {n0 n1 n2 n3 n4 n5 n6 n7 : Int} (C : ∀ k' b, Up k k' → R k' (.bool b)) :
   ∀ k0, Up k k0 → CallsG Tryz.prog 66 #[.agg #[.int .i64 n0, .int .i64 n1, .int .i64 n2, .int .i64 n3, .int .i64 n4, .int .i64 n5, .int .i64 n6, .int .i64 n7]] k0 R := by
 intro k0 u0
 replace C := fun k' b u => C k' b (u0.trans u)
 refine small_vc ?_
 refine ⟨fun _ k1 u1 => C k1 _ u1, fun _ => ?_⟩
 refine ⟨fun _ k1 u1 => C k1 _ u1, fun _ => ?_⟩
 refine ⟨fun _ k1 u1 => C k1 _ u1, fun _ => ?_⟩
 refine ⟨fun _ k1 u1 => C k1 _ u1, fun _ => ?_⟩
 refine ⟨fun _ k1 u1 => C k1 _ u1, fun _ => ?_⟩
 refine ⟨fun _ k1 u1 => C k1 _ u1, fun _ => ?_⟩
 refine ⟨fun _ k1 u1 => C k1 _ u1, fun _ => ?_⟩
 refine ⟨fun _ k1 u1 => C k1 _ u1, fun _ => ?_⟩
 exact fun k1 u1 => C k1 _ u1
theorem smallWave_s {n0 n1 n2 n3 n4 n5 n6 n7 n8 n9 n10 n11 n12 n13 n14 n15 : Int} (C : ∀ k' b, Up k k' → R k' (.bool b)) :
   ∀ k0, Up k k0 → CallsG Tryz.prog 34 #[.agg #[.int .i64 n0, .int .i64 n1, .int .i64 n2, .int .i64 n3, .int .i64 n4, .int .i64 n5, .int .i64 n6, .int .i64 n7, .int .i64 n8, .int .i64 n9, .int .i64 n10, .int .i64 n11, .int .i64 n12, .int .i64 n13, .int .i64 n14, .int .i64 n15]] k0 R := by
 intro k0 u0
 refine smallWave_vc (small_s fun k1 b1 u1 => ⟨_, rfl, fun _ => ?_, fun _ k2 u2 => C k2 _ ((u0.trans u1).trans u2)⟩)
 exact small_s fun k3 b3 u3 => ⟨_, rfl, fun k4 u4 => C k4 _ (((u0.trans u1).trans u3).trans u4)⟩
theorem isSurd_s (hx : SurdV k cs v K) (hK1 : 1 ≤ K) (hK : K ≤ 268435456) (h : SQ k cs' v L) (hL : L ≤ 10000000000) (C : ∀ k', Up k k' → R k' (.bool true)) :
   ∀ k0, Up k k0 → CallsG Tryz.prog 50 #[.agg cs, .agg cs'] k0 R := by
 intro k0 u0
 refine IsSurd_vc hx.seg h.seg (SText_s (hx.up u0) hK1 hK fun k1 u1 => ⟨_, rfl, stext_v ((h.up u0).up u1) hL fun k3 u3 => ⟨_, rfl, fun k4 u4 => ?_⟩⟩)
 have := C k4 (((u0.trans u1).trans u3).trans u4)
 rw [show (ByteArray.toList (str (surdText v)) == ByteArray.toList (str (surdText v))) = true from beq_self_eq_true _]
 exact this
theorem isWave_s (hx : WaveV k cs w K) (hK1 : 1 ≤ K) (hK : K ≤ 268435456) (h : WQ k cs' w L) (hL : L ≤ 10000000000) (C : ∀ k', Up k k' → R k' (.bool true)) :
   ∀ k0, Up k k0 → CallsG Tryz.prog 39 #[.agg cs, .agg cs'] k0 R := by
 intro k0 u0
 obtain ⟨a, b, rfl, a0, b0⟩ := h
 refine IsWave_vc hx.seg a0.seg b0.seg (WRe_s (hx.up u0) fun k1 d1 u1 h1 => ⟨d1, h1.seg, rfl, ?_⟩)
 refine isSurd_s h1 hK1 hK ((a0.up u0).up u1) hL fun k2 u2 => ⟨_, rfl, fun _ => ?_, fun h => (nomatch h)⟩
 refine WIm_s (((hx.up u0).up u1).up u2) fun k3 d3 u3 h3 => ⟨d3, h3.seg, rfl, ?_⟩
 exact isSurd_s h3 hK1 hK ((((b0.up u0).up u1).up u2).up u3) hL fun k4 u4 => ⟨_, rfl, fun k5 u5 => C k5 (((((u0.trans u1).trans u2).trans u3).trans u4).trans u5)⟩
theorem OfWave_s {n0 n1 n2 n3 n4 n5 n6 n7 n8 n9 n10 n11 n12 n13 n14 n15 : Int} (h0 : In64 n0) (h1 : In64 n1) (h2 : In64 n2) (h3 : In64 n3) (h4 : In64 n4) (h5 : In64 n5) (h6 : In64 n6) (h7 : In64 n7) (h8 : In64 n8) (h9 : In64 n9) (h10 : In64 n10) (h11 : In64 n11) (h12 : In64 n12) (h13 : In64 n13) (h14 : In64 n14) (h15 : In64 n15) (C : ∀ k' ds, Up k k' → WaveV k' ds ⟨⟨ofQ n0 n1, ofQ n2 n3, ofQ n4 n5, ofQ n6 n7⟩, ⟨ofQ n8 n9, ofQ n10 n11, ofQ n12 n13, ofQ n14 n15⟩⟩ 6 → R k' (.agg ds)) :
   ∀ k0, Up k k0 → CallsG Tryz.prog 35 #[.agg #[.int .i64 n0, .int .i64 n1, .int .i64 n2, .int .i64 n3, .int .i64 n4, .int .i64 n5, .int .i64 n6, .int .i64 n7, .int .i64 n8, .int .i64 n9, .int .i64 n10, .int .i64 n11, .int .i64 n12, .int .i64 n13, .int .i64 n14, .int .i64 n15]] k0 R := by
 intro k0 u0
 refine OfWave_vc (OfQuad_s h0 h1 h2 h3 h4 h5 h6 h7 fun k1 d1 u1 q1 => ⟨d1, q1.seg, rfl, ?_⟩)
 refine OfQuad_s h8 h9 h10 h11 h12 h13 h14 h15 fun k3 d3 u3 q3 => ⟨d3, q3.seg, rfl, ?_⟩
 refine pair_s (q1.up u3) q3 fun k5 d5 u5 q5 => ?_
 have q5' := q5
 obtain ⟨a, b, rfl, a0, b0⟩ := q5'
 exact ⟨a, a0.seg, b, b0.seg, rfl, fun k6 u6 => C k6 _ ((((u0.trans u1).trans u3).trans u5).trans u6) (q5.up u6)⟩
set_option maxRecDepth 4000 in
theorem waves_s {n0 n1 n2 n3 n4 n5 n6 n7 n8 n9 n10 n11 n12 n13 n14 n15 n16 n17 n18 n19 n20 n21 n22 n23 n24 n25 n26 n27 n28 n29 n30 n31 : Int} (h0 : In64 n0) (h1 : In64 n1) (h2 : In64 n2) (h3 : In64 n3) (h4 : In64 n4) (h5 : In64 n5) (h6 : In64 n6) (h7 : In64 n7) (h8 : In64 n8) (h9 : In64 n9) (h10 : In64 n10) (h11 : In64 n11) (h12 : In64 n12) (h13 : In64 n13) (h14 : In64 n14) (h15 : In64 n15) (h16 : In64 n16) (h17 : In64 n17) (h18 : In64 n18) (h19 : In64 n19) (h20 : In64 n20) (h21 : In64 n21) (h22 : In64 n22) (h23 : In64 n23) (h24 : In64 n24) (h25 : In64 n25) (h26 : In64 n26) (h27 : In64 n27) (h28 : In64 n28) (h29 : In64 n29) (h30 : In64 n30) (h31 : In64 n31) (C : ∀ k', Up k k' → R k' (.bool true)) :
   ∀ k0, Up k k0 → CallsG Tryz.prog 4 #[.agg #[.int .i64 n0, .int .i64 n1, .int .i64 n2, .int .i64 n3, .int .i64 n4, .int .i64 n5, .int .i64 n6, .int .i64 n7, .int .i64 n8, .int .i64 n9, .int .i64 n10, .int .i64 n11, .int .i64 n12, .int .i64 n13, .int .i64 n14, .int .i64 n15], .agg #[.int .i64 n16, .int .i64 n17, .int .i64 n18, .int .i64 n19, .int .i64 n20, .int .i64 n21, .int .i64 n22, .int .i64 n23, .int .i64 n24, .int .i64 n25, .int .i64 n26, .int .i64 n27, .int .i64 n28, .int .i64 n29, .int .i64 n30, .int .i64 n31]] k0 R := by
 intro k0 u0
 replace C := fun k' u => C k' (u0.trans u)
 refine waves_vc ?_
 have aw : ∀ {k1 : World}, Up k0 k1 → ∀ k2, Up k1 k2 → CallsG Tryz.prog 14 #[] k2 fun k3 r2 => ∃ b : Bool, some (Value.bool b) = some r2 ∧ ∀ k4, Up k3 k4 → R k4 (Value.bool b) :=
   fun u1 => awake_s fun k3 u3 => ⟨_, rfl, fun k4 u4 => C k4 ((u1.trans u3).trans u4)⟩
 refine awake_s fun k1 u1 => ⟨_, rfl, fun h => (nomatch h), fun _ => ?_⟩
 refine smallWave_s fun k2 b2 u2 => ⟨_, rfl, fun _ => aw (u1.trans u2), fun _ => ?_⟩
 refine smallWave_s fun k3 b3 u3 => ⟨_, rfl, fun _ => aw ((u1.trans u2).trans u3), fun _ => ?_⟩
 clear aw
 replace C := fun k' u => C k' (((u1.trans u2).trans u3).trans u)
 refine OfWave_s h0 h1 h2 h3 h4 h5 h6 h7 h8 h9 h10 h11 h12 h13 h14 h15 fun k4 d4 u4 hX => ⟨d4, hX.seg, rfl, ?_⟩
 replace C := fun k' u => C k' (u4.trans u)
 clear u4
 refine OfWave_s h16 h17 h18 h19 h20 h21 h22 h23 h24 h25 h26 h27 h28 h29 h30 h31 fun k5 d5 u5 hY => ⟨d5, hY.seg, rfl, ?_⟩
 replace hX := hX.up u5
 replace C := fun k' u => C k' (u5.trans u)
 clear u5
 refine wofwave_v h0 h1 h2 h3 h4 h5 h6 h7 h8 h9 h10 h11 h12 h13 h14 h15 fun k6 d6 u6 hP => ⟨d6, hP.seg, rfl, ?_⟩
 replace hX := hX.up u6
 replace hY := hY.up u6
 replace C := fun k' u => C k' (u6.trans u)
 clear u6
 refine wofwave_v h16 h17 h18 h19 h20 h21 h22 h23 h24 h25 h26 h27 h28 h29 h30 h31 fun k7 d7 u7 hQ => ⟨d7, hQ.seg, rfl, ?_⟩
 replace hX := hX.up u7
 replace hY := hY.up u7
 replace hP := hP.up u7
 replace C := fun k' u => C k' (u7.trans u)
 clear u7
 have hr0 := h16
 have hr1 := h17
 generalize (⟨⟨ofQ n0 n1, ofQ n2 n3, ofQ n4 n5, ofQ n6 n7⟩, ⟨ofQ n8 n9, ofQ n10 n11, ofQ n12 n13, ofQ n14 n15⟩⟩ : W4) = x at *
 generalize (⟨⟨ofQ n16 n17, ofQ n18 n19, ofQ n20 n21, ofQ n22 n23⟩, ⟨ofQ n24 n25, ofQ n26 n27, ofQ n28 n29, ofQ n30 n31⟩⟩ : W4) = y at *
 clear h0 h1 h2 h3 h4 h5 h6 h7 h8 h9 h10 h11 h12 h13 h14 h15 h16 h17 h18 h19 h20 h21 h22 h23 h24 h25 h26 h27 h28 h29 h30 h31
 refine WDiv_s hX hY (by decide) (by decide)  fun k8 d8 u8 hD => ⟨d8, hD.seg, _, rfl, ?_⟩
 replace hX := hX.up u8
 replace hY := hY.up u8
 replace hP := hP.up u8
 replace hQ := hQ.up u8
 replace C := fun k' u => C k' (u8.trans u)
 clear u8
 refine wdiv_v hP hQ (by decide) (by decide) (by decide)  fun k9 d9 u9 hE => ⟨d9, hE.seg, _, rfl, fun h => by simp at h, fun _ => ?_⟩
 replace hX := hX.up u9
 replace hY := hY.up u9
 replace hP := hP.up u9
 replace hQ := hQ.up u9
 replace hD := hD.up u9
 replace C := fun k' u => C k' (u9.trans u)
 clear u9
 refine isWave_s hD (by decide) (by decide) hE (by decide)  fun k10 u10 => ⟨_, rfl, fun h => (nomatch h), fun _ => ?_⟩
 clear hD hE
 replace hX := hX.up u10
 replace hY := hY.up u10
 replace hP := hP.up u10
 replace hQ := hQ.up u10
 replace C := fun k' u => C k' (u10.trans u)
 clear u10
 refine WAdd_s hX hY (by decide) (by decide)  fun k11 d11 u11 hD => ⟨d11, hD.seg, rfl, ?_⟩
 replace hX := hX.up u11
 replace hY := hY.up u11
 replace hP := hP.up u11
 replace hQ := hQ.up u11
 replace C := fun k' u => C k' (u11.trans u)
 clear u11
 refine wadd_v hP hQ (by decide)  fun k12 d12 u12 hE => ⟨d12, hE.seg, rfl, ?_⟩
 replace hX := hX.up u12
 replace hY := hY.up u12
 replace hP := hP.up u12
 replace hQ := hQ.up u12
 replace hD := hD.up u12
 replace C := fun k' u => C k' (u12.trans u)
 clear u12
 refine isWave_s hD (by decide) (by decide) hE (by decide)  fun k13 u13 => ⟨_, rfl, fun h => (nomatch h), fun _ => ?_⟩
 clear hD hE
 replace hX := hX.up u13
 replace hY := hY.up u13
 replace hP := hP.up u13
 replace hQ := hQ.up u13
 replace C := fun k' u => C k' (u13.trans u)
 clear u13
 refine WSub_s hX hY (by decide) (by decide)  fun k14 d14 u14 hD => ⟨d14, hD.seg, rfl, ?_⟩
 replace hX := hX.up u14
 replace hY := hY.up u14
 replace hP := hP.up u14
 replace hQ := hQ.up u14
 replace C := fun k' u => C k' (u14.trans u)
 clear u14
 refine wsub_v hP hQ (by decide)  fun k15 d15 u15 hE => ⟨d15, hE.seg, rfl, ?_⟩
 replace hX := hX.up u15
 replace hY := hY.up u15
 replace hP := hP.up u15
 replace hQ := hQ.up u15
 replace hD := hD.up u15
 replace C := fun k' u => C k' (u15.trans u)
 clear u15
 refine isWave_s hD (by decide) (by decide) hE (by decide)  fun k16 u16 => ⟨_, rfl, fun h => (nomatch h), fun _ => ?_⟩
 clear hD hE
 replace hX := hX.up u16
 replace hY := hY.up u16
 replace hP := hP.up u16
 replace hQ := hQ.up u16
 replace C := fun k' u => C k' (u16.trans u)
 clear u16
 refine WMul_s hX hY (by decide) (by decide)  fun k17 d17 u17 hD => ⟨d17, hD.seg, rfl, ?_⟩
 replace hX := hX.up u17
 replace hY := hY.up u17
 replace hP := hP.up u17
 replace hQ := hQ.up u17
 replace C := fun k' u => C k' (u17.trans u)
 clear u17
 refine wmul_v hP hQ (by decide)  fun k18 d18 u18 hE => ⟨d18, hE.seg, rfl, ?_⟩
 replace hX := hX.up u18
 replace hY := hY.up u18
 replace hP := hP.up u18
 replace hQ := hQ.up u18
 replace hD := hD.up u18
 replace C := fun k' u => C k' (u18.trans u)
 clear u18
 refine isWave_s hD (by decide) (by decide) hE (by decide)  fun k19 u19 => ⟨_, rfl, fun h => (nomatch h), fun _ => ?_⟩
 clear hD hE
 replace hX := hX.up u19
 replace hY := hY.up u19
 replace hP := hP.up u19
 replace hQ := hQ.up u19
 replace C := fun k' u => C k' (u19.trans u)
 clear u19
 refine WNeg_s hX (by decide)  fun k20 d20 u20 hD => ⟨d20, hD.seg, rfl, ?_⟩
 replace hX := hX.up u20
 replace hY := hY.up u20
 replace hP := hP.up u20
 replace hQ := hQ.up u20
 replace C := fun k' u => C k' (u20.trans u)
 clear u20
 refine wneg_v hP (by decide)  fun k21 d21 u21 hE => ⟨d21, hE.seg, rfl, ?_⟩
 replace hX := hX.up u21
 replace hY := hY.up u21
 replace hP := hP.up u21
 replace hQ := hQ.up u21
 replace hD := hD.up u21
 replace C := fun k' u => C k' (u21.trans u)
 clear u21
 refine isWave_s hD (by decide) (by decide) hE (by decide)  fun k22 u22 => ⟨_, rfl, fun _ => ?_, fun h => (nomatch h)⟩
 clear hD hE
 replace hX := hX.up u22
 replace hY := hY.up u22
 replace hP := hP.up u22
 replace hQ := hQ.up u22
 replace C := fun k' u => C k' (u22.trans u)
 clear u22
 refine WConj_s hX (by decide)  fun k23 d23 u23 hD => ⟨d23, hD.seg, rfl, ?_⟩
 replace hX := hX.up u23
 replace hY := hY.up u23
 replace hP := hP.up u23
 replace hQ := hQ.up u23
 replace C := fun k' u => C k' (u23.trans u)
 clear u23
 refine wconj_v hP (by decide)  fun k24 d24 u24 hE => ⟨d24, hE.seg, rfl, ?_⟩
 replace hX := hX.up u24
 replace hY := hY.up u24
 replace hP := hP.up u24
 replace hQ := hQ.up u24
 replace hD := hD.up u24
 replace C := fun k' u => C k' (u24.trans u)
 clear u24
 refine isWave_s hD (by decide) (by decide) hE (by decide)  fun k25 u25 => ⟨_, rfl, fun _ => ?_, fun h => (nomatch h)⟩
 clear hD hE
 replace hX := hX.up u25
 replace hY := hY.up u25
 replace hP := hP.up u25
 replace hQ := hQ.up u25
 replace C := fun k' u => C k' (u25.trans u)
 clear u25
 refine WNorm_s hX (by decide) (by decide)  fun k26 d26 u26 hD => ⟨d26, hD.seg, rfl, ?_⟩
 replace hX := hX.up u26
 replace hY := hY.up u26
 replace hP := hP.up u26
 replace hQ := hQ.up u26
 replace C := fun k' u => C k' (u26.trans u)
 clear u26
 refine norm_v hP (by decide)  fun k27 d27 u27 hE => ⟨d27, hE.seg, rfl, ?_⟩
 replace hX := hX.up u27
 replace hY := hY.up u27
 replace hP := hP.up u27
 replace hQ := hQ.up u27
 replace hD := hD.up u27
 replace C := fun k' u => C k' (u27.trans u)
 clear u27
 refine isSurd_s hD (by decide) (by decide) hE (by decide)  fun k28 u28 => ⟨_, rfl, fun _ => ?_, fun h => (nomatch h)⟩
 clear hD hE
 replace hX := hX.up u28
 replace hY := hY.up u28
 replace hP := hP.up u28
 replace hQ := hQ.up u28
 replace C := fun k' u => C k' (u28.trans u)
 clear u28
 refine WSame_s hX hY (by decide) (by decide)  fun k29 u29 => ⟨_, rfl, ?_⟩
 replace hX := hX.up u29
 replace hP := hP.up u29
 replace hQ := hQ.up u29
 replace C := fun k' u => C k' (u29.trans u)
 clear u29
 refine wsame_v hP hQ (by decide)  fun k30 u30 => ⟨_, rfl, fun _ => ?_, fun h => by simp at h⟩
 clear hY hQ
 replace hX := hX.up u30
 replace hP := hP.up u30
 replace C := fun k' u => C k' (u30.trans u)
 clear u30
 refine WZero_s hX (by decide)  fun k31 u31 => ⟨_, rfl, ?_⟩
 replace hX := hX.up u31
 replace hP := hP.up u31
 replace C := fun k' u => C k' (u31.trans u)
 clear u31
 refine wzero_v hP fun k32 u32 => ⟨_, rfl, fun _ => ?_, fun h => by simp at h⟩
 clear hP
 replace hX := hX.up u32
 replace C := fun k' u => C k' (u32.trans u)
 clear u32
 refine Of_s hr0 hr1 fun k33 d33 u33 hD => ⟨d33, hD.seg, rfl, ?_⟩
 replace hX := hX.up u33
 replace C := fun k' u => C k' (u33.trans u)
 clear u33
 refine WOf_s hX hD fun k34 d34 u34 hE => ⟨d34, hE.seg, rfl, ?_⟩
 clear hX hD
 replace C := fun k' u => C k' (u34.trans u)
 clear u34
 refine of_v hr0 hr1 fun k35 d35 u35 hF => ⟨d35, hF.seg, rfl, ?_⟩
 replace hE := hE.up u35
 replace C := fun k' u => C k' (u35.trans u)
 clear u35
 refine wreal_v hF (by decide)  fun k36 d36 u36 hG => ⟨d36, hG.seg, rfl, ?_⟩
 clear hF
 replace hE := hE.up u36
 replace C := fun k' u => C k' (u36.trans u)
 clear u36
 refine isWave_s hE (by decide) (by decide) hG (by decide)  fun k37 u37 => ⟨_, rfl, fun k' u => ?_⟩
 exact C k' (u37.trans u)
end
end Go.Proofs.YtpjakokgmgggiaaGreat

