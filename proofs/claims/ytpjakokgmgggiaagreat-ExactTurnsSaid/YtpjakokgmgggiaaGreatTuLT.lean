/- Several texts in one. (Printed by prep.py.) -/
import Derived.Test.YtpjakokgmgggiaaGreatProg
import Derived.Test.YtpjakokgmgggiaaGreatTuSy14
import Derived.Test.YtpjakokgmgggiaaGreatTuQ5
import Derived.Test.YtpjakokgmgggiaaGreatTuS4
import Derived.Test.YtpjakokgmgggiaaGreatTuS5
import Derived.Test.YtpjakokgmgggiaaGreatTuS6
import Derived.Test.YtpjakokgmgggiaaGreatTuG2
/- What is to be shown of the calls of some functions. (Printed by gen/vc.py.) -/
namespace Go.Proofs.YtpjakokgmgggiaaGreat
open Go.RowKit
open Sy (Up Sees CallsG Seg execFn_use)
set_option maxRecDepth 100000
variable {k : World} {R : World → Value → Prop}
theorem sNeg_vc {cs0 cs1 cs2 cs3 : Array Value} (hcs0 : Seg 3 cs0) (hcs1 : Seg 3 cs1) (hcs2 : Seg 3 cs2) (hcs3 : Seg 3 cs3)
    (h : ∀ k0, Up k k0 → CallsG Tryz.prog 27 #[Value.agg cs0] k0 fun k1 r0 => ∃ cs4, Seg 3 cs4 ∧ some (Value.agg cs4) = some r0 ∧
 ∀ k2, Up k1 k2 → CallsG Tryz.prog 27 #[Value.agg cs1] k2 fun k3 r2 => ∃ cs5, Seg 3 cs5 ∧ some (Value.agg cs5) = some r2 ∧
 ∀ k4, Up k3 k4 → CallsG Tryz.prog 27 #[Value.agg cs2] k4 fun k5 r4 => ∃ cs6, Seg 3 cs6 ∧ some (Value.agg cs6) = some r4 ∧
 ∀ k6, Up k5 k6 → CallsG Tryz.prog 27 #[Value.agg cs3] k6 fun k7 r6 => ∃ cs7, Seg 3 cs7 ∧ some (Value.agg cs7) = some r6 ∧
 ∀ k8, Up k7 k8 → R k8 (Value.agg (cs4.toList ++ (cs5.toList ++ (cs6.toList ++ (cs7.toList ++ ([]))))).toArray)) :
    CallsG Tryz.prog 84 #[Value.agg (cs0.toList ++ (cs1.toList ++ (cs2.toList ++ (cs3.toList ++ ([]))))).toArray] k R :=
  execFn_use (cfg := { opq := [34] }) (args := [.agg [.seg 0 3, .seg 1 3, .seg 2 3, .seg 3 3]]) (vals := [Value.agg cs0, Value.agg cs1, Value.agg cs2, Value.agg cs3]) (kinds := [.seg 3, .seg 3, .seg 3, .seg 3]) (by kernel_rfl) ⟨⟨cs0, rfl, hcs0⟩, ⟨⟨cs1, rfl, hcs1⟩, ⟨⟨cs2, rfl, hcs2⟩, ⟨⟨cs3, rfl, hcs3⟩, trivial⟩⟩⟩⟩ (by kernel_rfl) (by kernel_rfl) h
end Go.Proofs.YtpjakokgmgggiaaGreat

/- The reference's Surds: sums, products, quotients. (Printed by gen/refs.py.) -/
namespace Go.Proofs.YtpjakokgmgggiaaGreat.W32
open Go.RowKit Num
open Sy (Up Sees CallsG Seg)
def cat4 (c0 c1 c2 c3 : Array Value) : Array Value := (c0.toList ++ (c1.toList ++ (c2.toList ++ (c3.toList ++ ([]))))).toArray
def SQ (k : World) (cs : Array Value) (v : Q4) (K : Nat) : Prop := ∃ c0 c1 c2 c3 : Array Value, cs = cat4 c0 c1 c2 c3 ∧ QV k c0 v.a K ∧ QV k c1 v.b K ∧ QV k c2 v.c K ∧ QV k c3 v.d K
section
variable {k k' : World} {cs cs' c0 c1 c2 c3 : Array Value} {R : World → Value → Prop} {x y q q' : Rat} {v v' : Q4} {K L : Nat}
theorem QV.cast (h : QV k cs q K) (e : q = q') : QV k cs q' K := e ▸ h
theorem SQ.up (h : SQ k cs v K) (u : Up k k') : SQ k' cs v K := by
 obtain ⟨c0, c1, c2, c3, e, h0, h1, h2, h3⟩ := h
 exact ⟨c0, c1, c2, c3, e, h0.up u, h1.up u, h2.up u, h3.up u⟩
theorem seg_cat4 (h0 : Seg 3 c0) (h1 : Seg 3 c1) (h2 : Seg 3 c2) (h3 : Seg 3 c3) : Seg 12 (cat4 c0 c1 c2 c3) := by
 obtain ⟨a0, b0⟩ := h0
 obtain ⟨a1, b1⟩ := h1
 obtain ⟨a2, b2⟩ := h2
 obtain ⟨a3, b3⟩ := h3
 refine ⟨by simp [cat4, a0, a1, a2, a3], fun u hu => ?_⟩
 simp only [cat4, List.append_nil, List.mem_append] at hu
 rcases hu with hu | hu | hu | hu
 · exact b0 u hu
 · exact b1 u hu
 · exact b2 u hu
 · exact b3 u hu
theorem SQ.seg (h : SQ k cs v K) : Seg 12 cs := by
 obtain ⟨c0, c1, c2, c3, rfl, h0, h1, h2, h3⟩ := h
 exact seg_cat4 h0.seg h1.seg h2.seg h3.seg
theorem sneg_v (hx : SQ k cs v K) (hK : K ≤ 10000000000) (C : ∀ k' ds, Up k k' → SQ k' ds v.neg K → R k' (.agg ds)) :
   ∀ k0, Up k k0 → CallsG Tryz.prog 84 #[.agg cs] k0 R := by
 obtain ⟨c0, c1, c2, c3, rfl, x0, x1, x2, x3⟩ := hx
 intro k0 u0
 replace x0 := x0.up u0
 replace x1 := x1.up u0
 replace x2 := x2.up u0
 replace x3 := x3.up u0
 replace C := fun k' ds u => C k' ds (u0.trans u)
 refine sNeg_vc x0.seg x1.seg x2.seg x3.seg ?_
 refine neg_v x0 hK ?_
 intro k1 d0 u1 z0
 refine ⟨d0, z0.seg, rfl, ?_⟩
 replace x1 := x1.up u1
 replace x2 := x2.up u1
 replace x3 := x3.up u1
 replace C := fun k' ds u => C k' ds (u1.trans u)
 refine neg_v x1 hK ?_
 intro k2 d1 u2 z1
 refine ⟨d1, z1.seg, rfl, ?_⟩
 replace x2 := x2.up u2
 replace x3 := x3.up u2
 replace z0 := z0.up u2
 replace C := fun k' ds u => C k' ds (u2.trans u)
 refine neg_v x2 hK ?_
 intro k3 d2 u3 z2
 refine ⟨d2, z2.seg, rfl, ?_⟩
 replace x3 := x3.up u3
 replace z0 := z0.up u3
 replace z1 := z1.up u3
 replace C := fun k' ds u => C k' ds (u3.trans u)
 refine neg_v x3 hK ?_
 intro k4 d3 u4 z3
 refine ⟨d3, z3.seg, rfl, ?_⟩
 replace z0 := z0.up u4
 replace z1 := z1.up u4
 replace z2 := z2.up u4
 replace C := fun k' ds u => C k' ds (u4.trans u)
 intro k5 u5
 replace z0 := z0.up u5
 replace z1 := z1.up u5
 replace z2 := z2.up u5
 replace z3 := z3.up u5
 exact C _ _ u5 ⟨d0, d1, d2, d3, rfl, z0, z1, z2, z3⟩
end
end Go.Proofs.YtpjakokgmgggiaaGreat.W32

/- Complex numbers of Surds, the turns by 24ths, and their sums. No program. -/
namespace Go.Proofs.YtpjakokgmgggiaaGreat
open Num Plain
structure W4 where
 (re im : Q4)
theorem W4.ext' {x y : W4} (h1 : x.re = y.re) (h2 : x.im = y.im) : x = y := by cases x; cases y; simp_all
instance : DecidableEq Q4 := fun x y => decidable_of_iff (x.a = y.a ∧ x.b = y.b ∧ x.c = y.c ∧ x.d = y.d)
 ⟨fun ⟨h1, h2, h3, h4⟩ => Q4.ext' h1 h2 h3 h4, fun h => by rw [h]; exact ⟨rfl, rfl, rfl, rfl⟩⟩
instance : DecidableEq W4 := fun x y => decidable_of_iff (x.re = y.re ∧ x.im = y.im)
 ⟨fun ⟨h1, h2⟩ => W4.ext' h1 h2, fun h => by rw [h]; exact ⟨rfl, rfl⟩⟩
def W4.add (x y : W4) : W4 := ⟨x.re.add y.re, x.im.add y.im⟩
def W4.sub (x y : W4) : W4 := ⟨x.re.sub y.re, x.im.sub y.im⟩
def W4.mul (x y : W4) : W4 := ⟨(x.re.mul y.re).sub (x.im.mul y.im), (x.re.mul y.im).add (x.im.mul y.re)⟩
def W4.neg (x : W4) : W4 := ⟨x.re.neg, x.im.neg⟩
def W4.conj (x : W4) : W4 := ⟨x.re, x.im.neg⟩
def W4.norm (x : W4) : Q4 := (x.re.mul x.re).add (x.im.mul x.im)
def W4.zero : W4 := ⟨Q4.zero, Q4.zero⟩
def W4.real (q : Rat) : W4 := ⟨Q4.real q, Q4.zero⟩
theorem Q4.sub_zero_iff {x y : Q4} : x.sub y = Q4.zero ↔ x = y := by
 constructor
 · intro h
   have ha := congrArg Q4.a h
   have hb := congrArg Q4.b h
   have hc := congrArg Q4.c h
   have hd := congrArg Q4.d h
   simp only [Q4.sub, Q4.add, Q4.neg, Q4.zero] at ha hb hc hd
   exact Q4.ext' (by grind) (by grind) (by grind) (by grind)
 · intro h
   subst h
   simp only [Q4.sub, Q4.add, Q4.neg, Q4.zero]
   exact Q4.ext' (by grind) (by grind) (by grind) (by grind)
def cosB : Nat → Q4
 | 0 => ⟨1, 0, 0, 0⟩
 | 1 => ⟨0, 1 / 4, 0, 1 / 4⟩
 | 2 => ⟨0, 0, 1 / 2, 0⟩
 | 3 => ⟨0, 1 / 2, 0, 0⟩
 | 4 => ⟨1 / 2, 0, 0, 0⟩
 | 5 => ⟨0, -1 / 4, 0, 1 / 4⟩
 | _ => ⟨0, 0, 0, 0⟩
def cosM (m : Nat) : Q4 := if 6 < m then (cosB (12 - m)).neg else cosB m
def cosQ (n : Nat) : Q4 := if 12 < n then cosM (24 - n) else cosM n
def turnW (n : Nat) : W4 := ⟨cosQ n, cosQ ((n + 18) % 24)⟩
def plc (k : Int) : Nat := (k % 24).toNat
theorem plc_lt (k : Int) : plc k < 24 := by unfold plc; omega
def sumP (k : Nat) : Nat → W4
 | 0 => W4.zero
 | j + 1 => (sumP k j).add (turnW (j * k % 24))
def q4s (q : Rat) : Bool := (4 * q).den == 1 && decide ((4 * q).num.natAbs ≤ 1000)
def Q4.small (v : Q4) : Bool := q4s v.a && q4s v.b && q4s v.c && q4s v.d
def W4.small (v : W4) : Bool := v.re.small && v.im.small
theorem turn_mul : ∀ a, a < 24 → ∀ b, b < 24 → (turnW a).mul (turnW b) = turnW ((a + b) % 24) := by decide +kernel
theorem turn_conj : ∀ a, a < 24 → (turnW a).conj = turnW ((24 - a) % 24) := by decide +kernel
theorem turn_norm : ∀ a, a < 24 → (turnW a).norm = Q4.real 1 := by decide +kernel
theorem turn_small : ∀ a, a < 24 → (turnW a).small = true := by decide +kernel
theorem sum_small : ∀ a, a < 24 → ∀ j, j < 25 → (sumP a j).small = true := by decide +kernel
theorem sum_all : ∀ a, a < 24 → sumP a 24 = W4.real (if a = 0 then 24 else 0) := by decide +kernel
end Go.Proofs.YtpjakokgmgggiaaGreat

/- Quotients of Surds and of complex numbers. No program. -/
namespace Go.Proofs.YtpjakokgmgggiaaGreat
open Num Plain
def Q4.t1 (y : Q4) : Q4 := ⟨y.a, -y.b, y.c, -y.d⟩
def Q4.t2 (y : Q4) : Q4 := ⟨y.a, y.b, -y.c, -y.d⟩
def Q4.cnj (y : Q4) : Q4 := (y.t1.mul y.t2).mul y.t1.t2
def Q4.div (x y : Q4) : Q4 := ⟨(x.mul y.cnj).a / (y.mul y.cnj).a, (x.mul y.cnj).b / (y.mul y.cnj).a, (x.mul y.cnj).c / (y.mul y.cnj).a, (x.mul y.cnj).d / (y.mul y.cnj).a⟩
theorem Q4.zero_iff (v : Q4) : decide (v = Q4.zero) = (decide (v.a = 0) && decide (v.b = 0) && decide (v.c = 0) && decide (v.d = 0)) := by
 rw [Bool.eq_iff_iff]
 simp only [Bool.and_eq_true, decide_eq_true_iff]
 constructor
 · intro h; subst h; exact ⟨⟨⟨rfl, rfl⟩, rfl⟩, rfl⟩
 · intro ⟨⟨⟨h1, h2⟩, h3⟩, h4⟩; exact Q4.ext' h1 h2 h3 h4
def W4.div (x y : W4) : W4 := ⟨(x.mul y.conj).re.div y.norm, (x.mul y.conj).im.div y.norm⟩
theorem W4.same_iff (v w : W4) : decide (v = w) = (decide (v.re = w.re) && decide (v.im = w.im)) := by
 rw [Bool.eq_iff_iff]
 simp only [Bool.and_eq_true, decide_eq_true_iff]
 constructor
 · intro h; subst h; exact ⟨rfl, rfl⟩
 · intro ⟨h1, h2⟩; exact W4.ext' h1 h2
end Go.Proofs.YtpjakokgmgggiaaGreat

/- The reference's Surds: zero, quotients, plain data. (Printed by gen/refs2.py.) -/
namespace Go.Proofs.YtpjakokgmgggiaaGreat.W32
open Go.RowKit Num
open Sy (Up Sees CallsG Seg)
section
variable {k k' : World} {cs cs' c0 c1 c2 c3 : Array Value} {R : World → Value → Prop} {x y q q' : Rat} {v v' : Q4} {K L : Nat}
end
end Go.Proofs.YtpjakokgmgggiaaGreat.W32

/- What is to be shown of the calls of some functions. (Printed by gen/vc.py.) -/
namespace Go.Proofs.YtpjakokgmgggiaaGreat
open Go.RowKit
open Sy (Up Sees CallsG Seg execFn_use)
set_option maxRecDepth 100000
variable {k : World} {R : World → Value → Prop}
theorem wAdd_vc {cs0 cs1 cs2 cs3 : Array Value} (hcs0 : Seg 9 cs0) (hcs1 : Seg 9 cs1) (hcs2 : Seg 9 cs2) (hcs3 : Seg 9 cs3)
    (h : ∀ k0, Up k k0 → CallsG Tryz.prog 71 #[Value.agg cs0, Value.agg cs2] k0 fun k1 r0 => ∃ cs4, Seg 9 cs4 ∧ some (Value.agg cs4) = some r0 ∧
 ∀ k2, Up k1 k2 → CallsG Tryz.prog 71 #[Value.agg cs1, Value.agg cs3] k2 fun k3 r2 => ∃ cs5, Seg 9 cs5 ∧ some (Value.agg cs5) = some r2 ∧
 ∀ k4, Up k3 k4 → R k4 (Value.agg (cs4.toList ++ (cs5.toList ++ ([]))).toArray)) :
    CallsG Tryz.prog 40 #[Value.agg (cs0.toList ++ (cs1.toList ++ ([]))).toArray, Value.agg (cs2.toList ++ (cs3.toList ++ ([]))).toArray] k R :=
  execFn_use (cfg := { opq := [57] }) (args := [.agg [.seg 0 9, .seg 1 9], .agg [.seg 2 9, .seg 3 9]]) (vals := [Value.agg cs0, Value.agg cs1, Value.agg cs2, Value.agg cs3]) (kinds := [.seg 9, .seg 9, .seg 9, .seg 9]) (by kernel_rfl) ⟨⟨cs0, rfl, hcs0⟩, ⟨⟨cs1, rfl, hcs1⟩, ⟨⟨cs2, rfl, hcs2⟩, ⟨⟨cs3, rfl, hcs3⟩, trivial⟩⟩⟩⟩ (by kernel_rfl) (by kernel_rfl) h
theorem wMul_vc {cs0 cs1 cs2 cs3 : Array Value} (hcs0 : Seg 9 cs0) (hcs1 : Seg 9 cs1) (hcs2 : Seg 9 cs2) (hcs3 : Seg 9 cs3)
    (h : ∀ k0, Up k k0 → CallsG Tryz.prog 75 #[Value.agg cs0, Value.agg cs2] k0 fun k1 r0 => ∃ cs4, Seg 9 cs4 ∧ some (Value.agg cs4) = some r0 ∧
 ∀ k2, Up k1 k2 → CallsG Tryz.prog 75 #[Value.agg cs1, Value.agg cs3] k2 fun k3 r2 => ∃ cs5, Seg 9 cs5 ∧ some (Value.agg cs5) = some r2 ∧
 ∀ k4, Up k3 k4 → CallsG Tryz.prog 73 #[Value.agg cs4, Value.agg cs5] k4 fun k5 r4 => ∃ cs6, Seg 9 cs6 ∧ some (Value.agg cs6) = some r4 ∧
 ∀ k6, Up k5 k6 → CallsG Tryz.prog 75 #[Value.agg cs0, Value.agg cs3] k6 fun k7 r6 => ∃ cs7, Seg 9 cs7 ∧ some (Value.agg cs7) = some r6 ∧
 ∀ k8, Up k7 k8 → CallsG Tryz.prog 75 #[Value.agg cs1, Value.agg cs2] k8 fun k9 r8 => ∃ cs8, Seg 9 cs8 ∧ some (Value.agg cs8) = some r8 ∧
 ∀ k10, Up k9 k10 → CallsG Tryz.prog 71 #[Value.agg cs7, Value.agg cs8] k10 fun k11 r10 => ∃ cs9, Seg 9 cs9 ∧ some (Value.agg cs9) = some r10 ∧
 ∀ k12, Up k11 k12 → R k12 (Value.agg (cs6.toList ++ (cs9.toList ++ ([]))).toArray)) :
    CallsG Tryz.prog 44 #[Value.agg (cs0.toList ++ (cs1.toList ++ ([]))).toArray, Value.agg (cs2.toList ++ (cs3.toList ++ ([]))).toArray] k R :=
  execFn_use (cfg := { opq := [57] }) (args := [.agg [.seg 0 9, .seg 1 9], .agg [.seg 2 9, .seg 3 9]]) (vals := [Value.agg cs0, Value.agg cs1, Value.agg cs2, Value.agg cs3]) (kinds := [.seg 9, .seg 9, .seg 9, .seg 9]) (by kernel_rfl) ⟨⟨cs0, rfl, hcs0⟩, ⟨⟨cs1, rfl, hcs1⟩, ⟨⟨cs2, rfl, hcs2⟩, ⟨⟨cs3, rfl, hcs3⟩, trivial⟩⟩⟩⟩ (by kernel_rfl) (by kernel_rfl) h
theorem wConj_vc {cs0 cs1 : Array Value} (hcs0 : Seg 9 cs0) (hcs1 : Seg 9 cs1)
    (h : ∀ k0, Up k k0 → CallsG Tryz.prog 83 #[Value.agg cs1] k0 fun k1 r0 => ∃ cs2, Seg 9 cs2 ∧ some (Value.agg cs2) = some r0 ∧
 ∀ k2, Up k1 k2 → R k2 (Value.agg (cs0.toList ++ (cs2.toList ++ ([]))).toArray)) :
    CallsG Tryz.prog 48 #[Value.agg (cs0.toList ++ (cs1.toList ++ ([]))).toArray] k R :=
  execFn_use (cfg := { opq := [57] }) (args := [.agg [.seg 0 9, .seg 1 9]]) (vals := [Value.agg cs0, Value.agg cs1]) (kinds := [.seg 9, .seg 9]) (by kernel_rfl) ⟨⟨cs0, rfl, hcs0⟩, ⟨⟨cs1, rfl, hcs1⟩, trivial⟩⟩ (by kernel_rfl) (by kernel_rfl) h
theorem wSame_vc {cs0 cs1 cs2 cs3 : Array Value} (hcs0 : Seg 9 cs0) (hcs1 : Seg 9 cs1) (hcs2 : Seg 9 cs2) (hcs3 : Seg 9 cs3)
    (h : ∀ k0, Up k k0 → CallsG Tryz.prog 88 #[Value.agg cs0, Value.agg cs2] k0 fun k1 r0 => ∃ b4, some (Value.bool b4) = some r0 ∧
 (b4 = true →
 (∀ k2, Up k1 k2 → CallsG Tryz.prog 88 #[Value.agg cs1, Value.agg cs3] k2 fun k3 r2 => ∃ b5, some (Value.bool b5) = some r2 ∧
 ∀ k4, Up k3 k4 → R k4 (Value.bool b5))) ∧
 (b4 = false →
 (∀ k5, Up k1 k5 → R k5 (Value.bool false)))) :
    CallsG Tryz.prog 53 #[Value.agg (cs0.toList ++ (cs1.toList ++ ([]))).toArray, Value.agg (cs2.toList ++ (cs3.toList ++ ([]))).toArray] k R :=
  execFn_use (cfg := { opq := [57] }) (args := [.agg [.seg 0 9, .seg 1 9], .agg [.seg 2 9, .seg 3 9]]) (vals := [Value.agg cs0, Value.agg cs1, Value.agg cs2, Value.agg cs3]) (kinds := [.seg 9, .seg 9, .seg 9, .seg 9]) (by kernel_rfl) ⟨⟨cs0, rfl, hcs0⟩, ⟨⟨cs1, rfl, hcs1⟩, ⟨⟨cs2, rfl, hcs2⟩, ⟨⟨cs3, rfl, hcs3⟩, trivial⟩⟩⟩⟩ (by kernel_rfl) (by kernel_rfl) h
theorem wNorm_vc {cs0 cs1 : Array Value} (hcs0 : Seg 9 cs0) (hcs1 : Seg 9 cs1)
    (h : ∀ k0, Up k k0 → CallsG Tryz.prog 75 #[Value.agg cs0, Value.agg cs0] k0 fun k1 r0 => ∃ cs2, Seg 9 cs2 ∧ some (Value.agg cs2) = some r0 ∧
 ∀ k2, Up k1 k2 → CallsG Tryz.prog 75 #[Value.agg cs1, Value.agg cs1] k2 fun k3 r2 => ∃ cs3, Seg 9 cs3 ∧ some (Value.agg cs3) = some r2 ∧
 ∀ k4, Up k3 k4 → CallsG Tryz.prog 71 #[Value.agg cs2, Value.agg cs3] k4 fun k5 r4 => ∃ cs4, Seg 9 cs4 ∧ some (Value.agg cs4) = some r4 ∧
 ∀ k6, Up k5 k6 → R k6 (Value.agg cs4)) :
    CallsG Tryz.prog 51 #[Value.agg (cs0.toList ++ (cs1.toList ++ ([]))).toArray] k R :=
  execFn_use (cfg := { opq := [57] }) (args := [.agg [.seg 0 9, .seg 1 9]]) (vals := [Value.agg cs0, Value.agg cs1]) (kinds := [.seg 9, .seg 9]) (by kernel_rfl) ⟨⟨cs0, rfl, hcs0⟩, ⟨⟨cs1, rfl, hcs1⟩, trivial⟩⟩ (by kernel_rfl) (by kernel_rfl) h
theorem wRe_vc {cs0 cs1 : Array Value} (hcs0 : Seg 9 cs0) (hcs1 : Seg 9 cs1)
   (h : ∀ k0, Up k k0 → R k0 (Value.agg cs0)) :
   CallsG Tryz.prog 149 #[Value.agg (cs0.toList ++ (cs1.toList ++ ([]))).toArray] k R :=
 execFn_use (cfg := { opq := [57] }) (args := [.agg [.seg 0 9, .seg 1 9]]) (vals := [Value.agg cs0, Value.agg cs1]) (kinds := [.seg 9, .seg 9]) (by kernel_rfl) ⟨⟨cs0, rfl, hcs0⟩, ⟨⟨cs1, rfl, hcs1⟩, trivial⟩⟩ (by kernel_rfl) (by kernel_rfl) h
theorem wIm_vc {cs0 cs1 : Array Value} (hcs0 : Seg 9 cs0) (hcs1 : Seg 9 cs1)
   (h : ∀ k0, Up k k0 → R k0 (Value.agg cs1)) :
   CallsG Tryz.prog 150 #[Value.agg (cs0.toList ++ (cs1.toList ++ ([]))).toArray] k R :=
 execFn_use (cfg := { opq := [57] }) (args := [.agg [.seg 0 9, .seg 1 9]]) (vals := [Value.agg cs0, Value.agg cs1]) (kinds := [.seg 9, .seg 9]) (by kernel_rfl) ⟨⟨cs0, rfl, hcs0⟩, ⟨⟨cs1, rfl, hcs1⟩, trivial⟩⟩ (by kernel_rfl) (by kernel_rfl) h
theorem wOf_vc {cs0 cs1 cs2 : Array Value} (hcs0 : Seg 9 cs0) (hcs1 : Seg 9 cs1) (hcs2 : Seg 3 cs2)
    (h : ∀ k0, Up k k0 → CallsG Tryz.prog 81 #[Value.agg cs0, Value.agg cs2] k0 fun k1 r0 => ∃ cs3, Seg 9 cs3 ∧ some (Value.agg cs3) = some r0 ∧
 ∀ k2, Up k1 k2 → R k2 (Value.agg (cs3.toList ++ ((Value.bool false) :: ((Value.slice none 0 0) :: ((Value.bool false) :: ((Value.slice none 0 0) :: ((Value.bool false) :: ((Value.slice none 0 0) :: ((Value.bool false) :: ((Value.slice none 0 0) :: ((Value.slice none 0 0) :: ([]))))))))))).toArray)) :
    CallsG Tryz.prog 57 #[Value.agg (cs0.toList ++ (cs1.toList ++ ([]))).toArray, Value.agg cs2] k R :=
  execFn_use (cfg := { opq := [57, 30] }) (args := [.agg [.seg 0 9, .seg 1 9], .agg [.seg 2 3]]) (vals := [Value.agg cs0, Value.agg cs1, Value.agg cs2]) (kinds := [.seg 9, .seg 9, .seg 3]) (by kernel_rfl) ⟨⟨cs0, rfl, hcs0⟩, ⟨⟨cs1, rfl, hcs1⟩, ⟨⟨cs2, rfl, hcs2⟩, trivial⟩⟩⟩ (by kernel_rfl) (by kernel_rfl) h
end Go.Proofs.YtpjakokgmgggiaaGreat

/- Waves of the program. (Printed by gen/waves.py.) -/
namespace Go.Proofs.YtpjakokgmgggiaaGreat
open Go.RowKit Num Plain
open Sy (Up Sees CallsG Seg)
def cat2 (c0 c1 : Array Value) : Array Value := (c0.toList ++ (c1.toList ++ ([]))).toArray
theorem seg_cat2 {m n : Nat} {c0 c1 : Array Value} (h0 : Seg m c0) (h1 : Seg n c1) : Seg (m + n) (cat2 c0 c1) := by
 obtain ⟨a0, b0⟩ := h0
 obtain ⟨a1, b1⟩ := h1
 refine ⟨by simp [cat2, a0, a1], fun u hu => ?_⟩
 simp only [cat2, List.append_nil, List.mem_append] at hu
 rcases hu with hu | hu
 · exact b0 u hu
 · exact b1 u hu
def WaveV (k : World) (cs : Array Value) (w : W4) (K : Nat) : Prop := ∃ c0 c1 : Array Value, cs = cat2 c0 c1 ∧ SurdV k c0 w.re K ∧ SurdV k c1 w.im K
section
variable {k k' : World} {cs cs' c0 c1 : Array Value} {R : World → Value → Prop} {v v' : Q4} {x y : W4} {K L : Nat}
theorem WaveV.up (h : WaveV k cs x K) (u : Up k k') : WaveV k' cs x K := by
 obtain ⟨c0, c1, e, h0, h1⟩ := h
 exact ⟨c0, c1, e, h0.up u, h1.up u⟩
theorem WaveV.mono (h : WaveV k cs x K) (hL : K ≤ L) : WaveV k cs x L := by
 obtain ⟨c0, c1, e, h0, h1⟩ := h
 exact ⟨c0, c1, e, h0.mono hL, h1.mono hL⟩
theorem WaveV.seg (h : WaveV k cs x K) : Seg 18 cs := by
 obtain ⟨c0, c1, rfl, h0, h1⟩ := h
 exact seg_cat2 h0.seg h1.seg
theorem SSame_d (hx : SurdV k cs v K) (hy : SurdV k cs' v' K) (hK1 : 1 ≤ K) (hK : K ≤ 134217727) (C : ∀ k', Up k k' → R k' (.bool (decide (v = v')))) :
   ∀ k0, Up k k0 → CallsG Tryz.prog 88 #[.agg cs, .agg cs'] k0 R :=
 SSame_s hx hy hK1 hK fun k' u b hb => by
   have e : b = decide (v = v') := by rw [Bool.eq_iff_iff, hb, decide_eq_true_iff, Q4.sub_zero_iff]
   rw [e]; exact C k' u
theorem WAdd_s (hx : WaveV k cs x K) (hy : WaveV k cs' y K) (hK1 : 1 ≤ K) (hK : K ≤ 134217727) (C : ∀ k' ds, Up k k' → WaveV k' ds (x.add y) (2 * K + 1) → R k' (.agg ds)) :
   ∀ k0, Up k k0 → CallsG Tryz.prog 40 #[.agg cs, .agg cs'] k0 R := by
 intro k0 u0
 obtain ⟨a, b, rfl, a0, b0⟩ := hx.up u0
 obtain ⟨c, d, rfl, c0, d0⟩ := hy.up u0
 refine wAdd_vc a0.seg b0.seg c0.seg d0.seg ?_
 refine SAdd_s a0 c0 hK1 (by omega) fun k1 e1 u1 h1 => ⟨e1, h1.seg, rfl, ?_⟩
 refine SAdd_s (b0.up u1) (d0.up u1) hK1 (by omega) fun k3 e3 u3 h3 => ⟨e3, h3.seg, rfl, fun k4 u4 => ?_⟩
 exact C k4 _ (((u0.trans u1).trans u3).trans u4) ⟨e1, e3, rfl, (h1.up u3).up u4, h3.up u4⟩
theorem WMul_s (hx : WaveV k cs x K) (hy : WaveV k cs' y K) (hK1 : 1 ≤ K) (hK : K ≤ 33554431) (C : ∀ k' ds, Up k k' → WaveV k' ds (x.mul y) (4 * K + 9) → R k' (.agg ds)) :
   ∀ k0, Up k k0 → CallsG Tryz.prog 44 #[.agg cs, .agg cs'] k0 R := by
 intro k0 u0
 obtain ⟨a, b, rfl, a0, b0⟩ := hx.up u0
 obtain ⟨c, d, rfl, c0, d0⟩ := hy.up u0
 refine wMul_vc a0.seg b0.seg c0.seg d0.seg ?_
 refine SMul_s a0 c0 hK1 (by omega) fun k1 e1 u1 h1 => ⟨e1, h1.seg, rfl, ?_⟩
 refine SMul_s (b0.up u1) (d0.up u1) hK1 (by omega) fun k2 e2 u2 h2 => ⟨e2, h2.seg, rfl, ?_⟩
 refine SSub_s (h1.up u2) h2 (by omega) (by omega) fun k3 e3 u3 h3 => ⟨e3, h3.seg, rfl, ?_⟩
 have u123 := (u1.trans u2).trans u3
 refine SMul_s (a0.up u123) (d0.up u123) hK1 (by omega) fun k4 e4 u4 h4 => ⟨e4, h4.seg, rfl, ?_⟩
 refine SMul_s (b0.up (u123.trans u4)) (c0.up (u123.trans u4)) hK1 (by omega) fun k5 e5 u5 h5 => ⟨e5, h5.seg, rfl, ?_⟩
 refine SAdd_s (h4.up u5) h5 (by omega) (by omega) fun k6 e6 u6 h6 => ⟨e6, h6.seg, rfl, fun k7 u7 => ?_⟩
 exact C k7 _ (((((u0.trans u123).trans u4).trans u5).trans u6).trans u7) ⟨e3, e6, rfl, ((((h3.up u4).up u5).up u6).up u7).mono (by omega), (h6.up u7).mono (by omega)⟩
theorem WConj_s (hx : WaveV k cs x K) (hK : K ≤ 268435456) (C : ∀ k' ds, Up k k' → WaveV k' ds x.conj K → R k' (.agg ds)) :
   ∀ k0, Up k k0 → CallsG Tryz.prog 48 #[.agg cs] k0 R := by
 intro k0 u0
 obtain ⟨a, b, rfl, a0, b0⟩ := hx.up u0
 refine wConj_vc a0.seg b0.seg ?_
 refine SNeg_s b0 hK fun k2 e2 u2 h2 => ⟨e2, h2.seg, rfl, fun k4 u4 => ?_⟩
 exact C k4 _ ((u0.trans u2).trans u4) ⟨a, e2, rfl, (a0.up u2).up u4, h2.up u4⟩
theorem WSame_s (hx : WaveV k cs x K) (hy : WaveV k cs' y K) (hK1 : 1 ≤ K) (hK : K ≤ 134217727) (C : ∀ k', Up k k' → R k' (.bool (decide (x = y)))) :
   ∀ k0, Up k k0 → CallsG Tryz.prog 53 #[.agg cs, .agg cs'] k0 R := by
 intro k0 u0
 obtain ⟨a, b, rfl, a0, b0⟩ := hx.up u0
 obtain ⟨c, d, rfl, c0, d0⟩ := hy.up u0
 rw [W4.same_iff] at C
 refine wSame_vc a0.seg b0.seg c0.seg d0.seg (SSame_d a0 c0 hK1 hK fun k1 u1 => ⟨_, rfl, fun h => ?_, fun h k5 u5 => ?_⟩)
 · rw [h] at C
   exact SSame_d (b0.up u1) (d0.up u1) hK1 hK fun k2 u2 => ⟨_, rfl, fun k3 u3 => C k3 (((u0.trans u1).trans u2).trans u3)⟩
 · rw [h] at C
   exact C k5 ((u0.trans u1).trans u5)
theorem WNorm_s (hx : WaveV k cs x K) (hK1 : 1 ≤ K) (hK : K ≤ 33554431) (C : ∀ k' ds, Up k k' → SurdV k' ds x.norm (4 * K + 9) → R k' (.agg ds)) :
   ∀ k0, Up k k0 → CallsG Tryz.prog 51 #[.agg cs] k0 R := by
 intro k0 u0
 obtain ⟨a, b, rfl, a0, b0⟩ := hx.up u0
 refine wNorm_vc a0.seg b0.seg ?_
 refine SMul_s a0 a0 hK1 (by omega) fun k1 e1 u1 h1 => ⟨e1, h1.seg, rfl, ?_⟩
 refine SMul_s (b0.up u1) (b0.up u1) hK1 (by omega) fun k2 e2 u2 h2 => ⟨e2, h2.seg, rfl, ?_⟩
 refine SAdd_s (h1.up u2) h2 (by omega) (by omega) fun k3 e3 u3 h3 => ⟨e3, h3.seg, rfl, fun k4 u4 => ?_⟩
 exact C k4 _ ((((u0.trans u1).trans u2).trans u3).trans u4) ((h3.up u4).mono (by omega))
theorem WRe_s (hx : WaveV k cs x K) (C : ∀ k' ds, Up k k' → SurdV k' ds x.re K → R k' (.agg ds)) :
   ∀ k0, Up k k0 → CallsG Tryz.prog 149 #[.agg cs] k0 R := by
 intro k0 u0
 obtain ⟨a, b, rfl, a0, b0⟩ := hx.up u0
 exact wRe_vc a0.seg b0.seg fun k1 u1 => C k1 _ (u0.trans u1) (a0.up u1)
theorem WIm_s (hx : WaveV k cs x K) (C : ∀ k' ds, Up k k' → SurdV k' ds x.im K → R k' (.agg ds)) :
   ∀ k0, Up k k0 → CallsG Tryz.prog 150 #[.agg cs] k0 R := by
 intro k0 u0
 obtain ⟨a, b, rfl, a0, b0⟩ := hx.up u0
 exact wIm_vc a0.seg b0.seg fun k1 u1 => C k1 _ (u0.trans u1) (b0.up u1)
theorem WOf_s {q : Rat} (hx : WaveV k cs x K) (hy : RatV k cs' q L) (C : ∀ k' ds, Up k k' → WaveV k' ds (W4.real q) L → R k' (.agg ds)) :
   ∀ k0, Up k k0 → CallsG Tryz.prog 57 #[.agg cs, .agg cs'] k0 R := by
 intro k0 u0
 obtain ⟨a, b, rfl, a0, b0⟩ := hx.up u0
 refine wOf_vc a0.seg b0.seg hy.seg (SOf_s a0 (hy.up u0) fun k1 e1 u1 h1 => ⟨e1, h1.seg, rfl, fun k2 u2 => ?_⟩)
 exact C k2 _ ((u0.trans u1).trans u2) ⟨e1, _, rfl, h1.up u2, SurdV.nil (Nat.zero_le _)⟩
end
end Go.Proofs.YtpjakokgmgggiaaGreat

/- Waves of the reference. (Printed by gen/waves.py.) -/
namespace Go.Proofs.YtpjakokgmgggiaaGreat.W32
open Go.RowKit Num
open Sy (Up Sees CallsG Seg)
def WQ (k : World) (cs : Array Value) (w : W4) (K : Nat) : Prop := ∃ c0 c1 : Array Value, cs = cat2 c0 c1 ∧ SQ k c0 w.re K ∧ SQ k c1 w.im K
section
variable {k k' : World} {cs cs' c0 c1 : Array Value} {R : World → Value → Prop} {v v' : Q4} {x y : W4} {q : Rat} {K L : Nat}
theorem WQ.seg (h : WQ k cs x K) : Seg 24 cs := by
 obtain ⟨c0, c1, rfl, h0, h1⟩ := h
 exact seg_cat2 h0.seg h1.seg
end
end Go.Proofs.YtpjakokgmgggiaaGreat.W32

/- What is to be shown of the calls of some functions. (Printed by gen/vc.py.) -/
namespace Go.Proofs.YtpjakokgmgggiaaGreat
open Go.RowKit
open Sy (Up Sees CallsG Seg execFn_use)
set_option maxRecDepth 100000
variable {k : World} {R : World → Value → Prop}
theorem place_vc {n0 : Int}
   (h : ∀ k0, Up k k0 → R k0 (Value.int .i64 (Int.tmod (IntKind.wrap .i64 ((Int.tmod n0 24) + 24)) 24))) :
   CallsG Tryz.prog 163 #[Value.int .i64 n0] k R :=
 execFn_use (cfg := { opq := [] }) (args := [.one (.var 0)]) (vals := [Value.int .i64 n0]) (kinds := [.int .i64]) (by kernel_rfl) ⟨⟨_, rfl⟩, trivial⟩ (by kernel_rfl) (by kernel_rfl) h
theorem xTurn_vc {n0 : Int}
    (h : ∀ k0, Up k k0 → CallsG Tryz.prog 163 #[Value.int .i64 n0] k0 fun k1 r0 => ∃ n1, some (Value.int .i64 n1) = some r0 ∧
 ∀ k2, Up k1 k2 → CallsG Tryz.prog 164 #[Value.int .i64 n1] k2 fun k3 r2 => ∃ cs2, Seg 9 cs2 ∧ some (Value.agg cs2) = some r2 ∧
 ∀ k4, Up k3 k4 → CallsG Tryz.prog 163 #[Value.int .i64 (IntKind.wrap .i64 (n1 - 6))] k4 fun k5 r4 => ∃ n3, some (Value.int .i64 n3) = some r4 ∧
 ∀ k6, Up k5 k6 → CallsG Tryz.prog 164 #[Value.int .i64 n3] k6 fun k7 r6 => ∃ cs4, Seg 9 cs4 ∧ some (Value.agg cs4) = some r6 ∧
 ∀ k8, Up k7 k8 → R k8 (Value.agg (cs2.toList ++ (cs4.toList ++ ([]))).toArray)) :
    CallsG Tryz.prog 92 #[Value.int .i64 n0] k R :=
  execFn_use (cfg := { opq := [57] }) (args := [.one (.var 0)]) (vals := [Value.int .i64 n0]) (kinds := [.int .i64]) (by kernel_rfl) ⟨⟨_, rfl⟩, trivial⟩ (by kernel_rfl) (by kernel_rfl) h
theorem xcos_vc {n0 : Int}
    (h : ((decide ((n0 : Int) > 12)) = true →
 (((decide (((IntKind.wrap .i64 (24 - n0)) : Int) > 6)) = true →
 (∀ k0, Up k k0 → CallsG Tryz.prog 164 #[Value.int .i64 (IntKind.wrap .i64 (12 - (IntKind.wrap .i64 (24 - n0))))] k0 fun k1 r0 => ∃ cs1, Seg 9 cs1 ∧ some (Value.agg cs1) = some r0 ∧
 ∀ k2, Up k1 k2 → CallsG Tryz.prog 83 #[Value.agg cs1] k2 fun k3 r2 => ∃ cs2, Seg 9 cs2 ∧ some (Value.agg cs2) = some r2 ∧
 ∀ k4, Up k3 k4 → R k4 (Value.agg cs2))) ∧
 ((decide (((IntKind.wrap .i64 (24 - n0)) : Int) > 6)) = false →
 (((((IntKind.wrap .i64 (24 - n0)) : Int) == 0) = true →
 (∀ k5, Up k k5 → CallsG Tryz.prog 153 #[Value.int .i64 1] k5 fun k6 r5 => ∃ cs1, Seg 2 cs1 ∧ some (Value.agg cs1) = some r5 ∧
 ∀ k7, Up k6 k7 → R k7 (Value.agg (cs1.toList ++ ((Value.bool false) :: ((Value.slice none 0 0) :: ((Value.bool false) :: ((Value.slice none 0 0) :: ((Value.bool false) :: ((Value.slice none 0 0) :: ((Value.slice none 0 0) :: ([]))))))))).toArray))) ∧
 ((((IntKind.wrap .i64 (24 - n0)) : Int) == 0) = false →
 (((((IntKind.wrap .i64 (24 - n0)) : Int) == 1) = true →
 (∀ k8, Up k k8 → CallsG Tryz.prog 208 #[Value.int .i64 1, Value.int .u64 4] k8 fun k9 r8 => ∃ cs1, Seg 9 cs1 ∧ some (Value.agg cs1) = some r8 ∧
 ∀ k10, Up k9 k10 → CallsG Tryz.prog 208 #[Value.int .i64 3, Value.int .u64 4] k10 fun k11 r10 => ∃ cs2, Seg 9 cs2 ∧ some (Value.agg cs2) = some r10 ∧
 ∀ k12, Up k11 k12 → CallsG Tryz.prog 71 #[Value.agg cs1, Value.agg cs2] k12 fun k13 r12 => ∃ cs3, Seg 9 cs3 ∧ some (Value.agg cs3) = some r12 ∧
 ∀ k14, Up k13 k14 → R k14 (Value.agg cs3))) ∧
 ((((IntKind.wrap .i64 (24 - n0)) : Int) == 1) = false →
 (((((IntKind.wrap .i64 (24 - n0)) : Int) == 2) = true →
 (∀ k15, Up k k15 → CallsG Tryz.prog 208 #[Value.int .i64 2, Value.int .u64 2] k15 fun k16 r15 => ∃ cs1, Seg 9 cs1 ∧ some (Value.agg cs1) = some r15 ∧
 ∀ k17, Up k16 k17 → R k17 (Value.agg cs1))) ∧
 ((((IntKind.wrap .i64 (24 - n0)) : Int) == 2) = false →
 (((((IntKind.wrap .i64 (24 - n0)) : Int) == 3) = true →
 (∀ k18, Up k k18 → CallsG Tryz.prog 208 #[Value.int .i64 1, Value.int .u64 2] k18 fun k19 r18 => ∃ cs1, Seg 9 cs1 ∧ some (Value.agg cs1) = some r18 ∧
 ∀ k20, Up k19 k20 → R k20 (Value.agg cs1))) ∧
 ((((IntKind.wrap .i64 (24 - n0)) : Int) == 3) = false →
 (((((IntKind.wrap .i64 (24 - n0)) : Int) == 4) = true →
 (∀ k21, Up k k21 → CallsG Tryz.prog 208 #[Value.int .i64 0, Value.int .u64 2] k21 fun k22 r21 => ∃ cs1, Seg 9 cs1 ∧ some (Value.agg cs1) = some r21 ∧
 ∀ k23, Up k22 k23 → R k23 (Value.agg cs1))) ∧
 ((((IntKind.wrap .i64 (24 - n0)) : Int) == 4) = false →
 (((((IntKind.wrap .i64 (24 - n0)) : Int) == 5) = true →
 (∀ k24, Up k k24 → CallsG Tryz.prog 208 #[Value.int .i64 3, Value.int .u64 4] k24 fun k25 r24 => ∃ cs1, Seg 9 cs1 ∧ some (Value.agg cs1) = some r24 ∧
 ∀ k26, Up k25 k26 → CallsG Tryz.prog 208 #[Value.int .i64 1, Value.int .u64 4] k26 fun k27 r26 => ∃ cs2, Seg 9 cs2 ∧ some (Value.agg cs2) = some r26 ∧
 ∀ k28, Up k27 k28 → CallsG Tryz.prog 73 #[Value.agg cs1, Value.agg cs2] k28 fun k29 r28 => ∃ cs3, Seg 9 cs3 ∧ some (Value.agg cs3) = some r28 ∧
 ∀ k30, Up k29 k30 → R k30 (Value.agg cs3))) ∧
 ((((IntKind.wrap .i64 (24 - n0)) : Int) == 5) = false →
 (∀ k31, Up k k31 → R k31 (Value.agg #[Value.bool false, Value.slice none 0 0, Value.bool false, Value.slice none 0 0, Value.bool false, Value.slice none 0 0, Value.bool false, Value.slice none 0 0, Value.slice none 0 0]))))))))))))))))) ∧
 ((decide ((n0 : Int) > 12)) = false →
 (((decide ((n0 : Int) > 6)) = true →
 (∀ k32, Up k k32 → CallsG Tryz.prog 164 #[Value.int .i64 (IntKind.wrap .i64 (12 - n0))] k32 fun k33 r32 => ∃ cs1, Seg 9 cs1 ∧ some (Value.agg cs1) = some r32 ∧
 ∀ k34, Up k33 k34 → CallsG Tryz.prog 83 #[Value.agg cs1] k34 fun k35 r34 => ∃ cs2, Seg 9 cs2 ∧ some (Value.agg cs2) = some r34 ∧
 ∀ k36, Up k35 k36 → R k36 (Value.agg cs2))) ∧
 ((decide ((n0 : Int) > 6)) = false →
 ((((n0 : Int) == 0) = true →
 (∀ k37, Up k k37 → CallsG Tryz.prog 153 #[Value.int .i64 1] k37 fun k38 r37 => ∃ cs1, Seg 2 cs1 ∧ some (Value.agg cs1) = some r37 ∧
 ∀ k39, Up k38 k39 → R k39 (Value.agg (cs1.toList ++ ((Value.bool false) :: ((Value.slice none 0 0) :: ((Value.bool false) :: ((Value.slice none 0 0) :: ((Value.bool false) :: ((Value.slice none 0 0) :: ((Value.slice none 0 0) :: ([]))))))))).toArray))) ∧
 (((n0 : Int) == 0) = false →
 ((((n0 : Int) == 1) = true →
 (∀ k40, Up k k40 → CallsG Tryz.prog 208 #[Value.int .i64 1, Value.int .u64 4] k40 fun k41 r40 => ∃ cs1, Seg 9 cs1 ∧ some (Value.agg cs1) = some r40 ∧
 ∀ k42, Up k41 k42 → CallsG Tryz.prog 208 #[Value.int .i64 3, Value.int .u64 4] k42 fun k43 r42 => ∃ cs2, Seg 9 cs2 ∧ some (Value.agg cs2) = some r42 ∧
 ∀ k44, Up k43 k44 → CallsG Tryz.prog 71 #[Value.agg cs1, Value.agg cs2] k44 fun k45 r44 => ∃ cs3, Seg 9 cs3 ∧ some (Value.agg cs3) = some r44 ∧
 ∀ k46, Up k45 k46 → R k46 (Value.agg cs3))) ∧
 (((n0 : Int) == 1) = false →
 ((((n0 : Int) == 2) = true →
 (∀ k47, Up k k47 → CallsG Tryz.prog 208 #[Value.int .i64 2, Value.int .u64 2] k47 fun k48 r47 => ∃ cs1, Seg 9 cs1 ∧ some (Value.agg cs1) = some r47 ∧
 ∀ k49, Up k48 k49 → R k49 (Value.agg cs1))) ∧
 (((n0 : Int) == 2) = false →
 ((((n0 : Int) == 3) = true →
 (∀ k50, Up k k50 → CallsG Tryz.prog 208 #[Value.int .i64 1, Value.int .u64 2] k50 fun k51 r50 => ∃ cs1, Seg 9 cs1 ∧ some (Value.agg cs1) = some r50 ∧
 ∀ k52, Up k51 k52 → R k52 (Value.agg cs1))) ∧
 (((n0 : Int) == 3) = false →
 ((((n0 : Int) == 4) = true →
 (∀ k53, Up k k53 → CallsG Tryz.prog 208 #[Value.int .i64 0, Value.int .u64 2] k53 fun k54 r53 => ∃ cs1, Seg 9 cs1 ∧ some (Value.agg cs1) = some r53 ∧
 ∀ k55, Up k54 k55 → R k55 (Value.agg cs1))) ∧
 (((n0 : Int) == 4) = false →
 ((((n0 : Int) == 5) = true →
 (∀ k56, Up k k56 → CallsG Tryz.prog 208 #[Value.int .i64 3, Value.int .u64 4] k56 fun k57 r56 => ∃ cs1, Seg 9 cs1 ∧ some (Value.agg cs1) = some r56 ∧
 ∀ k58, Up k57 k58 → CallsG Tryz.prog 208 #[Value.int .i64 1, Value.int .u64 4] k58 fun k59 r58 => ∃ cs2, Seg 9 cs2 ∧ some (Value.agg cs2) = some r58 ∧
 ∀ k60, Up k59 k60 → CallsG Tryz.prog 73 #[Value.agg cs1, Value.agg cs2] k60 fun k61 r60 => ∃ cs3, Seg 9 cs3 ∧ some (Value.agg cs3) = some r60 ∧
 ∀ k62, Up k61 k62 → R k62 (Value.agg cs3))) ∧
 (((n0 : Int) == 5) = false →
 (∀ k63, Up k k63 → R k63 (Value.agg #[Value.bool false, Value.slice none 0 0, Value.bool false, Value.slice none 0 0, Value.bool false, Value.slice none 0 0, Value.bool false, Value.slice none 0 0, Value.slice none 0 0])))))))))))))))))) :
    CallsG Tryz.prog 164 #[Value.int .i64 n0] k R :=
  execFn_use (cfg := { opq := [57, 28] }) (args := [.one (.var 0)]) (vals := [Value.int .i64 n0]) (kinds := [.int .i64]) (by kernel_rfl) ⟨⟨_, rfl⟩, trivial⟩ (by kernel_rfl) (by kernel_rfl) h
theorem rTurn_vc {n0 : Int}
    (h : ∀ k0, Up k k0 → CallsG Tryz.prog 165 #[Value.int .i64 (Int.tmod (IntKind.wrap .i64 ((Int.tmod n0 24) + 24)) 24)] k0 fun k1 r0 => ∃ cs1, Seg 12 cs1 ∧ some (Value.agg cs1) = some r0 ∧
 ∀ k2, Up k1 k2 → CallsG Tryz.prog 165 #[Value.int .i64 (Int.tmod (IntKind.wrap .i64 ((Int.tmod (IntKind.wrap .i64 ((Int.tmod n0 24) + 24)) 24) + 18)) 24)] k2 fun k3 r2 => ∃ cs2, Seg 12 cs2 ∧ some (Value.agg cs2) = some r2 ∧
 ∀ k4, Up k3 k4 → R k4 (Value.agg (cs1.toList ++ (cs2.toList ++ ([]))).toArray)) :
    CallsG Tryz.prog 93 #[Value.int .i64 n0] k R :=
  execFn_use (cfg := { opq := [62] }) (args := [.one (.var 0)]) (vals := [Value.int .i64 n0]) (kinds := [.int .i64]) (by kernel_rfl) ⟨⟨_, rfl⟩, trivial⟩ (by kernel_rfl) (by kernel_rfl) h
theorem rcos0_vc
    (h : ∀ k0, Up k k0 → CallsG Tryz.prog 128 #[Value.int .i64 4, Value.int .i64 4] k0 fun k1 r0 => ∃ cs0, Seg 3 cs0 ∧ ∃ n1, some (Value.tuple #[Value.agg cs0, Value.int .i64 n1]) = some r0 ∧
 ∀ k2, Up k1 k2 → CallsG Tryz.prog 128 #[Value.int .i64 0, Value.int .i64 4] k2 fun k3 r2 => ∃ cs2, Seg 3 cs2 ∧ ∃ n3, some (Value.tuple #[Value.agg cs2, Value.int .i64 n3]) = some r2 ∧
 ∀ k4, Up k3 k4 → CallsG Tryz.prog 128 #[Value.int .i64 0, Value.int .i64 4] k4 fun k5 r4 => ∃ cs4, Seg 3 cs4 ∧ ∃ n5, some (Value.tuple #[Value.agg cs4, Value.int .i64 n5]) = some r4 ∧
 ∀ k6, Up k5 k6 → CallsG Tryz.prog 128 #[Value.int .i64 0, Value.int .i64 4] k6 fun k7 r6 => ∃ cs6, Seg 3 cs6 ∧ ∃ n7, some (Value.tuple #[Value.agg cs6, Value.int .i64 n7]) = some r6 ∧
 ∀ k8, Up k7 k8 → R k8 (Value.agg (cs0.toList ++ (cs2.toList ++ (cs4.toList ++ (cs6.toList ++ ([]))))).toArray)) :
    CallsG Tryz.prog 165 #[Value.int .i64 0] k R :=
  Sy.execFn_use_heap (cfg := { opq := [34] }) (args := [.one (.lit (.int .i64 (0)))]) (vals := []) (kinds := []) (blks := []) (heap := []) (by kernel_rfl) trivial (by kernel_rfl) trivial (by kernel_rfl) h
theorem rcos1_vc
    (h : ∀ k0, Up k k0 → CallsG Tryz.prog 128 #[Value.int .i64 0, Value.int .i64 4] k0 fun k1 r0 => ∃ cs0, Seg 3 cs0 ∧ ∃ n1, some (Value.tuple #[Value.agg cs0, Value.int .i64 n1]) = some r0 ∧
 ∀ k2, Up k1 k2 → CallsG Tryz.prog 128 #[Value.int .i64 1, Value.int .i64 4] k2 fun k3 r2 => ∃ cs2, Seg 3 cs2 ∧ ∃ n3, some (Value.tuple #[Value.agg cs2, Value.int .i64 n3]) = some r2 ∧
 ∀ k4, Up k3 k4 → CallsG Tryz.prog 128 #[Value.int .i64 0, Value.int .i64 4] k4 fun k5 r4 => ∃ cs4, Seg 3 cs4 ∧ ∃ n5, some (Value.tuple #[Value.agg cs4, Value.int .i64 n5]) = some r4 ∧
 ∀ k6, Up k5 k6 → CallsG Tryz.prog 128 #[Value.int .i64 1, Value.int .i64 4] k6 fun k7 r6 => ∃ cs6, Seg 3 cs6 ∧ ∃ n7, some (Value.tuple #[Value.agg cs6, Value.int .i64 n7]) = some r6 ∧
 ∀ k8, Up k7 k8 → R k8 (Value.agg (cs0.toList ++ (cs2.toList ++ (cs4.toList ++ (cs6.toList ++ ([]))))).toArray)) :
    CallsG Tryz.prog 165 #[Value.int .i64 1] k R :=
  Sy.execFn_use_heap (cfg := { opq := [34] }) (args := [.one (.lit (.int .i64 (1)))]) (vals := []) (kinds := []) (blks := []) (heap := []) (by kernel_rfl) trivial (by kernel_rfl) trivial (by kernel_rfl) h
theorem rcos2_vc
    (h : ∀ k0, Up k k0 → CallsG Tryz.prog 128 #[Value.int .i64 0, Value.int .i64 4] k0 fun k1 r0 => ∃ cs0, Seg 3 cs0 ∧ ∃ n1, some (Value.tuple #[Value.agg cs0, Value.int .i64 n1]) = some r0 ∧
 ∀ k2, Up k1 k2 → CallsG Tryz.prog 128 #[Value.int .i64 0, Value.int .i64 4] k2 fun k3 r2 => ∃ cs2, Seg 3 cs2 ∧ ∃ n3, some (Value.tuple #[Value.agg cs2, Value.int .i64 n3]) = some r2 ∧
 ∀ k4, Up k3 k4 → CallsG Tryz.prog 128 #[Value.int .i64 2, Value.int .i64 4] k4 fun k5 r4 => ∃ cs4, Seg 3 cs4 ∧ ∃ n5, some (Value.tuple #[Value.agg cs4, Value.int .i64 n5]) = some r4 ∧
 ∀ k6, Up k5 k6 → CallsG Tryz.prog 128 #[Value.int .i64 0, Value.int .i64 4] k6 fun k7 r6 => ∃ cs6, Seg 3 cs6 ∧ ∃ n7, some (Value.tuple #[Value.agg cs6, Value.int .i64 n7]) = some r6 ∧
 ∀ k8, Up k7 k8 → R k8 (Value.agg (cs0.toList ++ (cs2.toList ++ (cs4.toList ++ (cs6.toList ++ ([]))))).toArray)) :
    CallsG Tryz.prog 165 #[Value.int .i64 2] k R :=
  Sy.execFn_use_heap (cfg := { opq := [34] }) (args := [.one (.lit (.int .i64 (2)))]) (vals := []) (kinds := []) (blks := []) (heap := []) (by kernel_rfl) trivial (by kernel_rfl) trivial (by kernel_rfl) h
theorem rcos3_vc
    (h : ∀ k0, Up k k0 → CallsG Tryz.prog 128 #[Value.int .i64 0, Value.int .i64 4] k0 fun k1 r0 => ∃ cs0, Seg 3 cs0 ∧ ∃ n1, some (Value.tuple #[Value.agg cs0, Value.int .i64 n1]) = some r0 ∧
 ∀ k2, Up k1 k2 → CallsG Tryz.prog 128 #[Value.int .i64 2, Value.int .i64 4] k2 fun k3 r2 => ∃ cs2, Seg 3 cs2 ∧ ∃ n3, some (Value.tuple #[Value.agg cs2, Value.int .i64 n3]) = some r2 ∧
 ∀ k4, Up k3 k4 → CallsG Tryz.prog 128 #[Value.int .i64 0, Value.int .i64 4] k4 fun k5 r4 => ∃ cs4, Seg 3 cs4 ∧ ∃ n5, some (Value.tuple #[Value.agg cs4, Value.int .i64 n5]) = some r4 ∧
 ∀ k6, Up k5 k6 → CallsG Tryz.prog 128 #[Value.int .i64 0, Value.int .i64 4] k6 fun k7 r6 => ∃ cs6, Seg 3 cs6 ∧ ∃ n7, some (Value.tuple #[Value.agg cs6, Value.int .i64 n7]) = some r6 ∧
 ∀ k8, Up k7 k8 → R k8 (Value.agg (cs0.toList ++ (cs2.toList ++ (cs4.toList ++ (cs6.toList ++ ([]))))).toArray)) :
    CallsG Tryz.prog 165 #[Value.int .i64 3] k R :=
  Sy.execFn_use_heap (cfg := { opq := [34] }) (args := [.one (.lit (.int .i64 (3)))]) (vals := []) (kinds := []) (blks := []) (heap := []) (by kernel_rfl) trivial (by kernel_rfl) trivial (by kernel_rfl) h
theorem rcos4_vc
    (h : ∀ k0, Up k k0 → CallsG Tryz.prog 128 #[Value.int .i64 2, Value.int .i64 4] k0 fun k1 r0 => ∃ cs0, Seg 3 cs0 ∧ ∃ n1, some (Value.tuple #[Value.agg cs0, Value.int .i64 n1]) = some r0 ∧
 ∀ k2, Up k1 k2 → CallsG Tryz.prog 128 #[Value.int .i64 0, Value.int .i64 4] k2 fun k3 r2 => ∃ cs2, Seg 3 cs2 ∧ ∃ n3, some (Value.tuple #[Value.agg cs2, Value.int .i64 n3]) = some r2 ∧
 ∀ k4, Up k3 k4 → CallsG Tryz.prog 128 #[Value.int .i64 0, Value.int .i64 4] k4 fun k5 r4 => ∃ cs4, Seg 3 cs4 ∧ ∃ n5, some (Value.tuple #[Value.agg cs4, Value.int .i64 n5]) = some r4 ∧
 ∀ k6, Up k5 k6 → CallsG Tryz.prog 128 #[Value.int .i64 0, Value.int .i64 4] k6 fun k7 r6 => ∃ cs6, Seg 3 cs6 ∧ ∃ n7, some (Value.tuple #[Value.agg cs6, Value.int .i64 n7]) = some r6 ∧
 ∀ k8, Up k7 k8 → R k8 (Value.agg (cs0.toList ++ (cs2.toList ++ (cs4.toList ++ (cs6.toList ++ ([]))))).toArray)) :
    CallsG Tryz.prog 165 #[Value.int .i64 4] k R :=
  Sy.execFn_use_heap (cfg := { opq := [34] }) (args := [.one (.lit (.int .i64 (4)))]) (vals := []) (kinds := []) (blks := []) (heap := []) (by kernel_rfl) trivial (by kernel_rfl) trivial (by kernel_rfl) h
theorem rcos5_vc
    (h : ∀ k0, Up k k0 → CallsG Tryz.prog 128 #[Value.int .i64 0, Value.int .i64 4] k0 fun k1 r0 => ∃ cs0, Seg 3 cs0 ∧ ∃ n1, some (Value.tuple #[Value.agg cs0, Value.int .i64 n1]) = some r0 ∧
 ∀ k2, Up k1 k2 → CallsG Tryz.prog 128 #[Value.int .i64 (-1), Value.int .i64 4] k2 fun k3 r2 => ∃ cs2, Seg 3 cs2 ∧ ∃ n3, some (Value.tuple #[Value.agg cs2, Value.int .i64 n3]) = some r2 ∧
 ∀ k4, Up k3 k4 → CallsG Tryz.prog 128 #[Value.int .i64 0, Value.int .i64 4] k4 fun k5 r4 => ∃ cs4, Seg 3 cs4 ∧ ∃ n5, some (Value.tuple #[Value.agg cs4, Value.int .i64 n5]) = some r4 ∧
 ∀ k6, Up k5 k6 → CallsG Tryz.prog 128 #[Value.int .i64 1, Value.int .i64 4] k6 fun k7 r6 => ∃ cs6, Seg 3 cs6 ∧ ∃ n7, some (Value.tuple #[Value.agg cs6, Value.int .i64 n7]) = some r6 ∧
 ∀ k8, Up k7 k8 → R k8 (Value.agg (cs0.toList ++ (cs2.toList ++ (cs4.toList ++ (cs6.toList ++ ([]))))).toArray)) :
    CallsG Tryz.prog 165 #[Value.int .i64 5] k R :=
  Sy.execFn_use_heap (cfg := { opq := [34] }) (args := [.one (.lit (.int .i64 (5)))]) (vals := []) (kinds := []) (blks := []) (heap := []) (by kernel_rfl) trivial (by kernel_rfl) trivial (by kernel_rfl) h
theorem rcos6_vc
    (h : ∀ k0, Up k k0 → CallsG Tryz.prog 128 #[Value.int .i64 0, Value.int .i64 4] k0 fun k1 r0 => ∃ cs0, Seg 3 cs0 ∧ ∃ n1, some (Value.tuple #[Value.agg cs0, Value.int .i64 n1]) = some r0 ∧
 ∀ k2, Up k1 k2 → CallsG Tryz.prog 128 #[Value.int .i64 0, Value.int .i64 4] k2 fun k3 r2 => ∃ cs2, Seg 3 cs2 ∧ ∃ n3, some (Value.tuple #[Value.agg cs2, Value.int .i64 n3]) = some r2 ∧
 ∀ k4, Up k3 k4 → CallsG Tryz.prog 128 #[Value.int .i64 0, Value.int .i64 4] k4 fun k5 r4 => ∃ cs4, Seg 3 cs4 ∧ ∃ n5, some (Value.tuple #[Value.agg cs4, Value.int .i64 n5]) = some r4 ∧
 ∀ k6, Up k5 k6 → CallsG Tryz.prog 128 #[Value.int .i64 0, Value.int .i64 4] k6 fun k7 r6 => ∃ cs6, Seg 3 cs6 ∧ ∃ n7, some (Value.tuple #[Value.agg cs6, Value.int .i64 n7]) = some r6 ∧
 ∀ k8, Up k7 k8 → R k8 (Value.agg (cs0.toList ++ (cs2.toList ++ (cs4.toList ++ (cs6.toList ++ ([]))))).toArray)) :
    CallsG Tryz.prog 165 #[Value.int .i64 6] k R :=
  Sy.execFn_use_heap (cfg := { opq := [34] }) (args := [.one (.lit (.int .i64 (6)))]) (vals := []) (kinds := []) (blks := []) (heap := []) (by kernel_rfl) trivial (by kernel_rfl) trivial (by kernel_rfl) h
theorem rcos7_vc
    (h : ∀ k0, Up k k0 → CallsG Tryz.prog 165 #[Value.int .i64 5] k0 fun k1 r0 => ∃ cs0, Seg 3 cs0 ∧ ∃ cs1, Seg 3 cs1 ∧ ∃ cs2, Seg 3 cs2 ∧ ∃ cs3, Seg 3 cs3 ∧ some (Value.agg (cs0.toList ++ (cs1.toList ++ (cs2.toList ++ (cs3.toList ++ ([]))))).toArray) = some r0 ∧
 ∀ k2, Up k1 k2 → CallsG Tryz.prog 84 #[Value.agg (cs0.toList ++ (cs1.toList ++ (cs2.toList ++ (cs3.toList ++ ([]))))).toArray] k2 fun k3 r2 => ∃ cs4, Seg 3 cs4 ∧ ∃ cs5, Seg 3 cs5 ∧ ∃ cs6, Seg 3 cs6 ∧ ∃ cs7, Seg 3 cs7 ∧ some (Value.agg (cs4.toList ++ (cs5.toList ++ (cs6.toList ++ (cs7.toList ++ ([]))))).toArray) = some r2 ∧
 ∀ k4, Up k3 k4 → R k4 (Value.agg (cs4.toList ++ (cs5.toList ++ (cs6.toList ++ (cs7.toList ++ ([]))))).toArray)) :
    CallsG Tryz.prog 165 #[Value.int .i64 7] k R :=
  Sy.execFn_use_heap (cfg := { opq := [34] }) (args := [.one (.lit (.int .i64 (7)))]) (vals := []) (kinds := []) (blks := []) (heap := []) (by kernel_rfl) trivial (by kernel_rfl) trivial (by kernel_rfl) h
theorem rcos8_vc
    (h : ∀ k0, Up k k0 → CallsG Tryz.prog 165 #[Value.int .i64 4] k0 fun k1 r0 => ∃ cs0, Seg 3 cs0 ∧ ∃ cs1, Seg 3 cs1 ∧ ∃ cs2, Seg 3 cs2 ∧ ∃ cs3, Seg 3 cs3 ∧ some (Value.agg (cs0.toList ++ (cs1.toList ++ (cs2.toList ++ (cs3.toList ++ ([]))))).toArray) = some r0 ∧
 ∀ k2, Up k1 k2 → CallsG Tryz.prog 84 #[Value.agg (cs0.toList ++ (cs1.toList ++ (cs2.toList ++ (cs3.toList ++ ([]))))).toArray] k2 fun k3 r2 => ∃ cs4, Seg 3 cs4 ∧ ∃ cs5, Seg 3 cs5 ∧ ∃ cs6, Seg 3 cs6 ∧ ∃ cs7, Seg 3 cs7 ∧ some (Value.agg (cs4.toList ++ (cs5.toList ++ (cs6.toList ++ (cs7.toList ++ ([]))))).toArray) = some r2 ∧
 ∀ k4, Up k3 k4 → R k4 (Value.agg (cs4.toList ++ (cs5.toList ++ (cs6.toList ++ (cs7.toList ++ ([]))))).toArray)) :
    CallsG Tryz.prog 165 #[Value.int .i64 8] k R :=
  Sy.execFn_use_heap (cfg := { opq := [34] }) (args := [.one (.lit (.int .i64 (8)))]) (vals := []) (kinds := []) (blks := []) (heap := []) (by kernel_rfl) trivial (by kernel_rfl) trivial (by kernel_rfl) h
theorem rcos9_vc
    (h : ∀ k0, Up k k0 → CallsG Tryz.prog 165 #[Value.int .i64 3] k0 fun k1 r0 => ∃ cs0, Seg 3 cs0 ∧ ∃ cs1, Seg 3 cs1 ∧ ∃ cs2, Seg 3 cs2 ∧ ∃ cs3, Seg 3 cs3 ∧ some (Value.agg (cs0.toList ++ (cs1.toList ++ (cs2.toList ++ (cs3.toList ++ ([]))))).toArray) = some r0 ∧
 ∀ k2, Up k1 k2 → CallsG Tryz.prog 84 #[Value.agg (cs0.toList ++ (cs1.toList ++ (cs2.toList ++ (cs3.toList ++ ([]))))).toArray] k2 fun k3 r2 => ∃ cs4, Seg 3 cs4 ∧ ∃ cs5, Seg 3 cs5 ∧ ∃ cs6, Seg 3 cs6 ∧ ∃ cs7, Seg 3 cs7 ∧ some (Value.agg (cs4.toList ++ (cs5.toList ++ (cs6.toList ++ (cs7.toList ++ ([]))))).toArray) = some r2 ∧
 ∀ k4, Up k3 k4 → R k4 (Value.agg (cs4.toList ++ (cs5.toList ++ (cs6.toList ++ (cs7.toList ++ ([]))))).toArray)) :
    CallsG Tryz.prog 165 #[Value.int .i64 9] k R :=
  Sy.execFn_use_heap (cfg := { opq := [34] }) (args := [.one (.lit (.int .i64 (9)))]) (vals := []) (kinds := []) (blks := []) (heap := []) (by kernel_rfl) trivial (by kernel_rfl) trivial (by kernel_rfl) h
theorem rcos10_vc
    (h : ∀ k0, Up k k0 → CallsG Tryz.prog 165 #[Value.int .i64 2] k0 fun k1 r0 => ∃ cs0, Seg 3 cs0 ∧ ∃ cs1, Seg 3 cs1 ∧ ∃ cs2, Seg 3 cs2 ∧ ∃ cs3, Seg 3 cs3 ∧ some (Value.agg (cs0.toList ++ (cs1.toList ++ (cs2.toList ++ (cs3.toList ++ ([]))))).toArray) = some r0 ∧
 ∀ k2, Up k1 k2 → CallsG Tryz.prog 84 #[Value.agg (cs0.toList ++ (cs1.toList ++ (cs2.toList ++ (cs3.toList ++ ([]))))).toArray] k2 fun k3 r2 => ∃ cs4, Seg 3 cs4 ∧ ∃ cs5, Seg 3 cs5 ∧ ∃ cs6, Seg 3 cs6 ∧ ∃ cs7, Seg 3 cs7 ∧ some (Value.agg (cs4.toList ++ (cs5.toList ++ (cs6.toList ++ (cs7.toList ++ ([]))))).toArray) = some r2 ∧
 ∀ k4, Up k3 k4 → R k4 (Value.agg (cs4.toList ++ (cs5.toList ++ (cs6.toList ++ (cs7.toList ++ ([]))))).toArray)) :
    CallsG Tryz.prog 165 #[Value.int .i64 10] k R :=
  Sy.execFn_use_heap (cfg := { opq := [34] }) (args := [.one (.lit (.int .i64 (10)))]) (vals := []) (kinds := []) (blks := []) (heap := []) (by kernel_rfl) trivial (by kernel_rfl) trivial (by kernel_rfl) h
theorem rcos11_vc
    (h : ∀ k0, Up k k0 → CallsG Tryz.prog 165 #[Value.int .i64 1] k0 fun k1 r0 => ∃ cs0, Seg 3 cs0 ∧ ∃ cs1, Seg 3 cs1 ∧ ∃ cs2, Seg 3 cs2 ∧ ∃ cs3, Seg 3 cs3 ∧ some (Value.agg (cs0.toList ++ (cs1.toList ++ (cs2.toList ++ (cs3.toList ++ ([]))))).toArray) = some r0 ∧
 ∀ k2, Up k1 k2 → CallsG Tryz.prog 84 #[Value.agg (cs0.toList ++ (cs1.toList ++ (cs2.toList ++ (cs3.toList ++ ([]))))).toArray] k2 fun k3 r2 => ∃ cs4, Seg 3 cs4 ∧ ∃ cs5, Seg 3 cs5 ∧ ∃ cs6, Seg 3 cs6 ∧ ∃ cs7, Seg 3 cs7 ∧ some (Value.agg (cs4.toList ++ (cs5.toList ++ (cs6.toList ++ (cs7.toList ++ ([]))))).toArray) = some r2 ∧
 ∀ k4, Up k3 k4 → R k4 (Value.agg (cs4.toList ++ (cs5.toList ++ (cs6.toList ++ (cs7.toList ++ ([]))))).toArray)) :
    CallsG Tryz.prog 165 #[Value.int .i64 11] k R :=
  Sy.execFn_use_heap (cfg := { opq := [34] }) (args := [.one (.lit (.int .i64 (11)))]) (vals := []) (kinds := []) (blks := []) (heap := []) (by kernel_rfl) trivial (by kernel_rfl) trivial (by kernel_rfl) h
theorem rcos12_vc
    (h : ∀ k0, Up k k0 → CallsG Tryz.prog 165 #[Value.int .i64 0] k0 fun k1 r0 => ∃ cs0, Seg 3 cs0 ∧ ∃ cs1, Seg 3 cs1 ∧ ∃ cs2, Seg 3 cs2 ∧ ∃ cs3, Seg 3 cs3 ∧ some (Value.agg (cs0.toList ++ (cs1.toList ++ (cs2.toList ++ (cs3.toList ++ ([]))))).toArray) = some r0 ∧
 ∀ k2, Up k1 k2 → CallsG Tryz.prog 84 #[Value.agg (cs0.toList ++ (cs1.toList ++ (cs2.toList ++ (cs3.toList ++ ([]))))).toArray] k2 fun k3 r2 => ∃ cs4, Seg 3 cs4 ∧ ∃ cs5, Seg 3 cs5 ∧ ∃ cs6, Seg 3 cs6 ∧ ∃ cs7, Seg 3 cs7 ∧ some (Value.agg (cs4.toList ++ (cs5.toList ++ (cs6.toList ++ (cs7.toList ++ ([]))))).toArray) = some r2 ∧
 ∀ k4, Up k3 k4 → R k4 (Value.agg (cs4.toList ++ (cs5.toList ++ (cs6.toList ++ (cs7.toList ++ ([]))))).toArray)) :
    CallsG Tryz.prog 165 #[Value.int .i64 12] k R :=
  Sy.execFn_use_heap (cfg := { opq := [34] }) (args := [.one (.lit (.int .i64 (12)))]) (vals := []) (kinds := []) (blks := []) (heap := []) (by kernel_rfl) trivial (by kernel_rfl) trivial (by kernel_rfl) h
theorem rcos13_vc
    (h : ∀ k0, Up k k0 → CallsG Tryz.prog 165 #[Value.int .i64 1] k0 fun k1 r0 => ∃ cs0, Seg 3 cs0 ∧ ∃ cs1, Seg 3 cs1 ∧ ∃ cs2, Seg 3 cs2 ∧ ∃ cs3, Seg 3 cs3 ∧ some (Value.agg (cs0.toList ++ (cs1.toList ++ (cs2.toList ++ (cs3.toList ++ ([]))))).toArray) = some r0 ∧
 ∀ k2, Up k1 k2 → CallsG Tryz.prog 84 #[Value.agg (cs0.toList ++ (cs1.toList ++ (cs2.toList ++ (cs3.toList ++ ([]))))).toArray] k2 fun k3 r2 => ∃ cs4, Seg 3 cs4 ∧ ∃ cs5, Seg 3 cs5 ∧ ∃ cs6, Seg 3 cs6 ∧ ∃ cs7, Seg 3 cs7 ∧ some (Value.agg (cs4.toList ++ (cs5.toList ++ (cs6.toList ++ (cs7.toList ++ ([]))))).toArray) = some r2 ∧
 ∀ k4, Up k3 k4 → R k4 (Value.agg (cs4.toList ++ (cs5.toList ++ (cs6.toList ++ (cs7.toList ++ ([]))))).toArray)) :
    CallsG Tryz.prog 165 #[Value.int .i64 13] k R :=
  Sy.execFn_use_heap (cfg := { opq := [34] }) (args := [.one (.lit (.int .i64 (13)))]) (vals := []) (kinds := []) (blks := []) (heap := []) (by kernel_rfl) trivial (by kernel_rfl) trivial (by kernel_rfl) h
theorem rcos14_vc
    (h : ∀ k0, Up k k0 → CallsG Tryz.prog 165 #[Value.int .i64 2] k0 fun k1 r0 => ∃ cs0, Seg 3 cs0 ∧ ∃ cs1, Seg 3 cs1 ∧ ∃ cs2, Seg 3 cs2 ∧ ∃ cs3, Seg 3 cs3 ∧ some (Value.agg (cs0.toList ++ (cs1.toList ++ (cs2.toList ++ (cs3.toList ++ ([]))))).toArray) = some r0 ∧
 ∀ k2, Up k1 k2 → CallsG Tryz.prog 84 #[Value.agg (cs0.toList ++ (cs1.toList ++ (cs2.toList ++ (cs3.toList ++ ([]))))).toArray] k2 fun k3 r2 => ∃ cs4, Seg 3 cs4 ∧ ∃ cs5, Seg 3 cs5 ∧ ∃ cs6, Seg 3 cs6 ∧ ∃ cs7, Seg 3 cs7 ∧ some (Value.agg (cs4.toList ++ (cs5.toList ++ (cs6.toList ++ (cs7.toList ++ ([]))))).toArray) = some r2 ∧
 ∀ k4, Up k3 k4 → R k4 (Value.agg (cs4.toList ++ (cs5.toList ++ (cs6.toList ++ (cs7.toList ++ ([]))))).toArray)) :
    CallsG Tryz.prog 165 #[Value.int .i64 14] k R :=
  Sy.execFn_use_heap (cfg := { opq := [34] }) (args := [.one (.lit (.int .i64 (14)))]) (vals := []) (kinds := []) (blks := []) (heap := []) (by kernel_rfl) trivial (by kernel_rfl) trivial (by kernel_rfl) h
theorem rcos15_vc
    (h : ∀ k0, Up k k0 → CallsG Tryz.prog 165 #[Value.int .i64 3] k0 fun k1 r0 => ∃ cs0, Seg 3 cs0 ∧ ∃ cs1, Seg 3 cs1 ∧ ∃ cs2, Seg 3 cs2 ∧ ∃ cs3, Seg 3 cs3 ∧ some (Value.agg (cs0.toList ++ (cs1.toList ++ (cs2.toList ++ (cs3.toList ++ ([]))))).toArray) = some r0 ∧
 ∀ k2, Up k1 k2 → CallsG Tryz.prog 84 #[Value.agg (cs0.toList ++ (cs1.toList ++ (cs2.toList ++ (cs3.toList ++ ([]))))).toArray] k2 fun k3 r2 => ∃ cs4, Seg 3 cs4 ∧ ∃ cs5, Seg 3 cs5 ∧ ∃ cs6, Seg 3 cs6 ∧ ∃ cs7, Seg 3 cs7 ∧ some (Value.agg (cs4.toList ++ (cs5.toList ++ (cs6.toList ++ (cs7.toList ++ ([]))))).toArray) = some r2 ∧
 ∀ k4, Up k3 k4 → R k4 (Value.agg (cs4.toList ++ (cs5.toList ++ (cs6.toList ++ (cs7.toList ++ ([]))))).toArray)) :
    CallsG Tryz.prog 165 #[Value.int .i64 15] k R :=
  Sy.execFn_use_heap (cfg := { opq := [34] }) (args := [.one (.lit (.int .i64 (15)))]) (vals := []) (kinds := []) (blks := []) (heap := []) (by kernel_rfl) trivial (by kernel_rfl) trivial (by kernel_rfl) h
theorem rcos16_vc
    (h : ∀ k0, Up k k0 → CallsG Tryz.prog 165 #[Value.int .i64 4] k0 fun k1 r0 => ∃ cs0, Seg 3 cs0 ∧ ∃ cs1, Seg 3 cs1 ∧ ∃ cs2, Seg 3 cs2 ∧ ∃ cs3, Seg 3 cs3 ∧ some (Value.agg (cs0.toList ++ (cs1.toList ++ (cs2.toList ++ (cs3.toList ++ ([]))))).toArray) = some r0 ∧
 ∀ k2, Up k1 k2 → CallsG Tryz.prog 84 #[Value.agg (cs0.toList ++ (cs1.toList ++ (cs2.toList ++ (cs3.toList ++ ([]))))).toArray] k2 fun k3 r2 => ∃ cs4, Seg 3 cs4 ∧ ∃ cs5, Seg 3 cs5 ∧ ∃ cs6, Seg 3 cs6 ∧ ∃ cs7, Seg 3 cs7 ∧ some (Value.agg (cs4.toList ++ (cs5.toList ++ (cs6.toList ++ (cs7.toList ++ ([]))))).toArray) = some r2 ∧
 ∀ k4, Up k3 k4 → R k4 (Value.agg (cs4.toList ++ (cs5.toList ++ (cs6.toList ++ (cs7.toList ++ ([]))))).toArray)) :
    CallsG Tryz.prog 165 #[Value.int .i64 16] k R :=
  Sy.execFn_use_heap (cfg := { opq := [34] }) (args := [.one (.lit (.int .i64 (16)))]) (vals := []) (kinds := []) (blks := []) (heap := []) (by kernel_rfl) trivial (by kernel_rfl) trivial (by kernel_rfl) h
theorem rcos17_vc
    (h : ∀ k0, Up k k0 → CallsG Tryz.prog 165 #[Value.int .i64 5] k0 fun k1 r0 => ∃ cs0, Seg 3 cs0 ∧ ∃ cs1, Seg 3 cs1 ∧ ∃ cs2, Seg 3 cs2 ∧ ∃ cs3, Seg 3 cs3 ∧ some (Value.agg (cs0.toList ++ (cs1.toList ++ (cs2.toList ++ (cs3.toList ++ ([]))))).toArray) = some r0 ∧
 ∀ k2, Up k1 k2 → CallsG Tryz.prog 84 #[Value.agg (cs0.toList ++ (cs1.toList ++ (cs2.toList ++ (cs3.toList ++ ([]))))).toArray] k2 fun k3 r2 => ∃ cs4, Seg 3 cs4 ∧ ∃ cs5, Seg 3 cs5 ∧ ∃ cs6, Seg 3 cs6 ∧ ∃ cs7, Seg 3 cs7 ∧ some (Value.agg (cs4.toList ++ (cs5.toList ++ (cs6.toList ++ (cs7.toList ++ ([]))))).toArray) = some r2 ∧
 ∀ k4, Up k3 k4 → R k4 (Value.agg (cs4.toList ++ (cs5.toList ++ (cs6.toList ++ (cs7.toList ++ ([]))))).toArray)) :
    CallsG Tryz.prog 165 #[Value.int .i64 17] k R :=
  Sy.execFn_use_heap (cfg := { opq := [34] }) (args := [.one (.lit (.int .i64 (17)))]) (vals := []) (kinds := []) (blks := []) (heap := []) (by kernel_rfl) trivial (by kernel_rfl) trivial (by kernel_rfl) h
theorem rcos18_vc
    (h : ∀ k0, Up k k0 → CallsG Tryz.prog 128 #[Value.int .i64 0, Value.int .i64 4] k0 fun k1 r0 => ∃ cs0, Seg 3 cs0 ∧ ∃ n1, some (Value.tuple #[Value.agg cs0, Value.int .i64 n1]) = some r0 ∧
 ∀ k2, Up k1 k2 → CallsG Tryz.prog 128 #[Value.int .i64 0, Value.int .i64 4] k2 fun k3 r2 => ∃ cs2, Seg 3 cs2 ∧ ∃ n3, some (Value.tuple #[Value.agg cs2, Value.int .i64 n3]) = some r2 ∧
 ∀ k4, Up k3 k4 → CallsG Tryz.prog 128 #[Value.int .i64 0, Value.int .i64 4] k4 fun k5 r4 => ∃ cs4, Seg 3 cs4 ∧ ∃ n5, some (Value.tuple #[Value.agg cs4, Value.int .i64 n5]) = some r4 ∧
 ∀ k6, Up k5 k6 → CallsG Tryz.prog 128 #[Value.int .i64 0, Value.int .i64 4] k6 fun k7 r6 => ∃ cs6, Seg 3 cs6 ∧ ∃ n7, some (Value.tuple #[Value.agg cs6, Value.int .i64 n7]) = some r6 ∧
 ∀ k8, Up k7 k8 → R k8 (Value.agg (cs0.toList ++ (cs2.toList ++ (cs4.toList ++ (cs6.toList ++ ([]))))).toArray)) :
    CallsG Tryz.prog 165 #[Value.int .i64 18] k R :=
  Sy.execFn_use_heap (cfg := { opq := [34] }) (args := [.one (.lit (.int .i64 (18)))]) (vals := []) (kinds := []) (blks := []) (heap := []) (by kernel_rfl) trivial (by kernel_rfl) trivial (by kernel_rfl) h
theorem rcos19_vc
    (h : ∀ k0, Up k k0 → CallsG Tryz.prog 128 #[Value.int .i64 0, Value.int .i64 4] k0 fun k1 r0 => ∃ cs0, Seg 3 cs0 ∧ ∃ n1, some (Value.tuple #[Value.agg cs0, Value.int .i64 n1]) = some r0 ∧
 ∀ k2, Up k1 k2 → CallsG Tryz.prog 128 #[Value.int .i64 (-1), Value.int .i64 4] k2 fun k3 r2 => ∃ cs2, Seg 3 cs2 ∧ ∃ n3, some (Value.tuple #[Value.agg cs2, Value.int .i64 n3]) = some r2 ∧
 ∀ k4, Up k3 k4 → CallsG Tryz.prog 128 #[Value.int .i64 0, Value.int .i64 4] k4 fun k5 r4 => ∃ cs4, Seg 3 cs4 ∧ ∃ n5, some (Value.tuple #[Value.agg cs4, Value.int .i64 n5]) = some r4 ∧
 ∀ k6, Up k5 k6 → CallsG Tryz.prog 128 #[Value.int .i64 1, Value.int .i64 4] k6 fun k7 r6 => ∃ cs6, Seg 3 cs6 ∧ ∃ n7, some (Value.tuple #[Value.agg cs6, Value.int .i64 n7]) = some r6 ∧
 ∀ k8, Up k7 k8 → R k8 (Value.agg (cs0.toList ++ (cs2.toList ++ (cs4.toList ++ (cs6.toList ++ ([]))))).toArray)) :
    CallsG Tryz.prog 165 #[Value.int .i64 19] k R :=
  Sy.execFn_use_heap (cfg := { opq := [34] }) (args := [.one (.lit (.int .i64 (19)))]) (vals := []) (kinds := []) (blks := []) (heap := []) (by kernel_rfl) trivial (by kernel_rfl) trivial (by kernel_rfl) h
theorem rcos20_vc
    (h : ∀ k0, Up k k0 → CallsG Tryz.prog 128 #[Value.int .i64 2, Value.int .i64 4] k0 fun k1 r0 => ∃ cs0, Seg 3 cs0 ∧ ∃ n1, some (Value.tuple #[Value.agg cs0, Value.int .i64 n1]) = some r0 ∧
 ∀ k2, Up k1 k2 → CallsG Tryz.prog 128 #[Value.int .i64 0, Value.int .i64 4] k2 fun k3 r2 => ∃ cs2, Seg 3 cs2 ∧ ∃ n3, some (Value.tuple #[Value.agg cs2, Value.int .i64 n3]) = some r2 ∧
 ∀ k4, Up k3 k4 → CallsG Tryz.prog 128 #[Value.int .i64 0, Value.int .i64 4] k4 fun k5 r4 => ∃ cs4, Seg 3 cs4 ∧ ∃ n5, some (Value.tuple #[Value.agg cs4, Value.int .i64 n5]) = some r4 ∧
 ∀ k6, Up k5 k6 → CallsG Tryz.prog 128 #[Value.int .i64 0, Value.int .i64 4] k6 fun k7 r6 => ∃ cs6, Seg 3 cs6 ∧ ∃ n7, some (Value.tuple #[Value.agg cs6, Value.int .i64 n7]) = some r6 ∧
 ∀ k8, Up k7 k8 → R k8 (Value.agg (cs0.toList ++ (cs2.toList ++ (cs4.toList ++ (cs6.toList ++ ([]))))).toArray)) :
    CallsG Tryz.prog 165 #[Value.int .i64 20] k R :=
  Sy.execFn_use_heap (cfg := { opq := [34] }) (args := [.one (.lit (.int .i64 (20)))]) (vals := []) (kinds := []) (blks := []) (heap := []) (by kernel_rfl) trivial (by kernel_rfl) trivial (by kernel_rfl) h
theorem rcos21_vc
    (h : ∀ k0, Up k k0 → CallsG Tryz.prog 128 #[Value.int .i64 0, Value.int .i64 4] k0 fun k1 r0 => ∃ cs0, Seg 3 cs0 ∧ ∃ n1, some (Value.tuple #[Value.agg cs0, Value.int .i64 n1]) = some r0 ∧
 ∀ k2, Up k1 k2 → CallsG Tryz.prog 128 #[Value.int .i64 2, Value.int .i64 4] k2 fun k3 r2 => ∃ cs2, Seg 3 cs2 ∧ ∃ n3, some (Value.tuple #[Value.agg cs2, Value.int .i64 n3]) = some r2 ∧
 ∀ k4, Up k3 k4 → CallsG Tryz.prog 128 #[Value.int .i64 0, Value.int .i64 4] k4 fun k5 r4 => ∃ cs4, Seg 3 cs4 ∧ ∃ n5, some (Value.tuple #[Value.agg cs4, Value.int .i64 n5]) = some r4 ∧
 ∀ k6, Up k5 k6 → CallsG Tryz.prog 128 #[Value.int .i64 0, Value.int .i64 4] k6 fun k7 r6 => ∃ cs6, Seg 3 cs6 ∧ ∃ n7, some (Value.tuple #[Value.agg cs6, Value.int .i64 n7]) = some r6 ∧
 ∀ k8, Up k7 k8 → R k8 (Value.agg (cs0.toList ++ (cs2.toList ++ (cs4.toList ++ (cs6.toList ++ ([]))))).toArray)) :
    CallsG Tryz.prog 165 #[Value.int .i64 21] k R :=
  Sy.execFn_use_heap (cfg := { opq := [34] }) (args := [.one (.lit (.int .i64 (21)))]) (vals := []) (kinds := []) (blks := []) (heap := []) (by kernel_rfl) trivial (by kernel_rfl) trivial (by kernel_rfl) h
theorem rcos22_vc
    (h : ∀ k0, Up k k0 → CallsG Tryz.prog 128 #[Value.int .i64 0, Value.int .i64 4] k0 fun k1 r0 => ∃ cs0, Seg 3 cs0 ∧ ∃ n1, some (Value.tuple #[Value.agg cs0, Value.int .i64 n1]) = some r0 ∧
 ∀ k2, Up k1 k2 → CallsG Tryz.prog 128 #[Value.int .i64 0, Value.int .i64 4] k2 fun k3 r2 => ∃ cs2, Seg 3 cs2 ∧ ∃ n3, some (Value.tuple #[Value.agg cs2, Value.int .i64 n3]) = some r2 ∧
 ∀ k4, Up k3 k4 → CallsG Tryz.prog 128 #[Value.int .i64 2, Value.int .i64 4] k4 fun k5 r4 => ∃ cs4, Seg 3 cs4 ∧ ∃ n5, some (Value.tuple #[Value.agg cs4, Value.int .i64 n5]) = some r4 ∧
 ∀ k6, Up k5 k6 → CallsG Tryz.prog 128 #[Value.int .i64 0, Value.int .i64 4] k6 fun k7 r6 => ∃ cs6, Seg 3 cs6 ∧ ∃ n7, some (Value.tuple #[Value.agg cs6, Value.int .i64 n7]) = some r6 ∧
 ∀ k8, Up k7 k8 → R k8 (Value.agg (cs0.toList ++ (cs2.toList ++ (cs4.toList ++ (cs6.toList ++ ([]))))).toArray)) :
    CallsG Tryz.prog 165 #[Value.int .i64 22] k R :=
  Sy.execFn_use_heap (cfg := { opq := [34] }) (args := [.one (.lit (.int .i64 (22)))]) (vals := []) (kinds := []) (blks := []) (heap := []) (by kernel_rfl) trivial (by kernel_rfl) trivial (by kernel_rfl) h
theorem rcos23_vc
    (h : ∀ k0, Up k k0 → CallsG Tryz.prog 128 #[Value.int .i64 0, Value.int .i64 4] k0 fun k1 r0 => ∃ cs0, Seg 3 cs0 ∧ ∃ n1, some (Value.tuple #[Value.agg cs0, Value.int .i64 n1]) = some r0 ∧
 ∀ k2, Up k1 k2 → CallsG Tryz.prog 128 #[Value.int .i64 1, Value.int .i64 4] k2 fun k3 r2 => ∃ cs2, Seg 3 cs2 ∧ ∃ n3, some (Value.tuple #[Value.agg cs2, Value.int .i64 n3]) = some r2 ∧
 ∀ k4, Up k3 k4 → CallsG Tryz.prog 128 #[Value.int .i64 0, Value.int .i64 4] k4 fun k5 r4 => ∃ cs4, Seg 3 cs4 ∧ ∃ n5, some (Value.tuple #[Value.agg cs4, Value.int .i64 n5]) = some r4 ∧
 ∀ k6, Up k5 k6 → CallsG Tryz.prog 128 #[Value.int .i64 1, Value.int .i64 4] k6 fun k7 r6 => ∃ cs6, Seg 3 cs6 ∧ ∃ n7, some (Value.tuple #[Value.agg cs6, Value.int .i64 n7]) = some r6 ∧
 ∀ k8, Up k7 k8 → R k8 (Value.agg (cs0.toList ++ (cs2.toList ++ (cs4.toList ++ (cs6.toList ++ ([]))))).toArray)) :
    CallsG Tryz.prog 165 #[Value.int .i64 23] k R :=
  Sy.execFn_use_heap (cfg := { opq := [34] }) (args := [.one (.lit (.int .i64 (23)))]) (vals := []) (kinds := []) (blks := []) (heap := []) (by kernel_rfl) trivial (by kernel_rfl) trivial (by kernel_rfl) h
theorem part14_vc
    (h : ∀ k0, Up k k0 → CallsG Tryz.prog 153 #[Value.int .i64 1] k0 fun k1 r0 => ∃ cs0, Seg 2 cs0 ∧ some (Value.agg cs0) = some r0 ∧
 ∀ k2, Up k1 k2 → CallsG Tryz.prog 154 #[Value.int .u64 4] k2 fun k3 r2 => ∃ A1 l1 c1, some (Value.slice A1 l1 c1) = some r2 ∧
 ∀ k4, Up k3 k4 → R k4 (Value.agg ((Value.bool false) :: ((Value.slice none 0 0) :: (cs0.toList ++ ((Value.bool false) :: ((Value.slice none 0 0) :: ((Value.bool false) :: ((Value.slice none 0 0) :: ((Value.slice A1 l1 c1) :: ([]))))))))).toArray)) :
    CallsG Tryz.prog 208 #[Value.int .i64 1, Value.int .u64 4] k R :=
  Sy.execFn_use_heap (cfg := { opq := [28] }) (args := [.one (.lit (.int .i64 (1))), .one (.lit (.int .u64 (4)))]) (vals := []) (kinds := []) (blks := []) (heap := []) (by kernel_rfl) trivial (by kernel_rfl) trivial (by kernel_rfl) h
theorem part34_vc
    (h : ∀ k0, Up k k0 → CallsG Tryz.prog 153 #[Value.int .i64 1] k0 fun k1 r0 => ∃ cs0, Seg 2 cs0 ∧ some (Value.agg cs0) = some r0 ∧
 ∀ k2, Up k1 k2 → CallsG Tryz.prog 154 #[Value.int .u64 4] k2 fun k3 r2 => ∃ A1 l1 c1, some (Value.slice A1 l1 c1) = some r2 ∧
 ∀ k4, Up k3 k4 → R k4 (Value.agg ((Value.bool false) :: ((Value.slice none 0 0) :: ((Value.bool false) :: ((Value.slice none 0 0) :: ((Value.bool false) :: ((Value.slice none 0 0) :: (cs0.toList ++ ((Value.slice A1 l1 c1) :: ([]))))))))).toArray)) :
    CallsG Tryz.prog 208 #[Value.int .i64 3, Value.int .u64 4] k R :=
  Sy.execFn_use_heap (cfg := { opq := [28] }) (args := [.one (.lit (.int .i64 (3))), .one (.lit (.int .u64 (4)))]) (vals := []) (kinds := []) (blks := []) (heap := []) (by kernel_rfl) trivial (by kernel_rfl) trivial (by kernel_rfl) h
theorem part22_vc
    (h : ∀ k0, Up k k0 → CallsG Tryz.prog 153 #[Value.int .i64 1] k0 fun k1 r0 => ∃ cs0, Seg 2 cs0 ∧ some (Value.agg cs0) = some r0 ∧
 ∀ k2, Up k1 k2 → CallsG Tryz.prog 154 #[Value.int .u64 2] k2 fun k3 r2 => ∃ A1 l1 c1, some (Value.slice A1 l1 c1) = some r2 ∧
 ∀ k4, Up k3 k4 → R k4 (Value.agg ((Value.bool false) :: ((Value.slice none 0 0) :: ((Value.bool false) :: ((Value.slice none 0 0) :: (cs0.toList ++ ((Value.bool false) :: ((Value.slice none 0 0) :: ((Value.slice A1 l1 c1) :: ([]))))))))).toArray)) :
    CallsG Tryz.prog 208 #[Value.int .i64 2, Value.int .u64 2] k R :=
  Sy.execFn_use_heap (cfg := { opq := [28] }) (args := [.one (.lit (.int .i64 (2))), .one (.lit (.int .u64 (2)))]) (vals := []) (kinds := []) (blks := []) (heap := []) (by kernel_rfl) trivial (by kernel_rfl) trivial (by kernel_rfl) h
theorem part12_vc
    (h : ∀ k0, Up k k0 → CallsG Tryz.prog 153 #[Value.int .i64 1] k0 fun k1 r0 => ∃ cs0, Seg 2 cs0 ∧ some (Value.agg cs0) = some r0 ∧
 ∀ k2, Up k1 k2 → CallsG Tryz.prog 154 #[Value.int .u64 2] k2 fun k3 r2 => ∃ A1 l1 c1, some (Value.slice A1 l1 c1) = some r2 ∧
 ∀ k4, Up k3 k4 → R k4 (Value.agg ((Value.bool false) :: ((Value.slice none 0 0) :: (cs0.toList ++ ((Value.bool false) :: ((Value.slice none 0 0) :: ((Value.bool false) :: ((Value.slice none 0 0) :: ((Value.slice A1 l1 c1) :: ([]))))))))).toArray)) :
    CallsG Tryz.prog 208 #[Value.int .i64 1, Value.int .u64 2] k R :=
  Sy.execFn_use_heap (cfg := { opq := [28] }) (args := [.one (.lit (.int .i64 (1))), .one (.lit (.int .u64 (2)))]) (vals := []) (kinds := []) (blks := []) (heap := []) (by kernel_rfl) trivial (by kernel_rfl) trivial (by kernel_rfl) h
theorem part02_vc
    (h : ∀ k0, Up k k0 → CallsG Tryz.prog 153 #[Value.int .i64 1] k0 fun k1 r0 => ∃ cs0, Seg 2 cs0 ∧ some (Value.agg cs0) = some r0 ∧
 ∀ k2, Up k1 k2 → CallsG Tryz.prog 154 #[Value.int .u64 2] k2 fun k3 r2 => ∃ A1 l1 c1, some (Value.slice A1 l1 c1) = some r2 ∧
 ∀ k4, Up k3 k4 → R k4 (Value.agg (cs0.toList ++ ((Value.bool false) :: ((Value.slice none 0 0) :: ((Value.bool false) :: ((Value.slice none 0 0) :: ((Value.bool false) :: ((Value.slice none 0 0) :: ((Value.slice A1 l1 c1) :: ([]))))))))).toArray)) :
    CallsG Tryz.prog 208 #[Value.int .i64 0, Value.int .u64 2] k R :=
  Sy.execFn_use_heap (cfg := { opq := [28] }) (args := [.one (.lit (.int .i64 (0))), .one (.lit (.int .u64 (2)))]) (vals := []) (kinds := []) (blks := []) (heap := []) (by kernel_rfl) trivial (by kernel_rfl) trivial (by kernel_rfl) h
theorem turns_vc {n0 n1 : Int}
    (h : ∀ k0, Up k k0 → CallsG Tryz.prog 14 #[] k0 fun k1 r0 => ∃ b2, some (Value.bool b2) = some r0 ∧
 ((!b2) = true →
 (∀ k2, Up k1 k2 → R k2 (Value.bool false))) ∧
 ((!b2) = false →
 (∀ k3, Up k1 k3 → CallsG Tryz.prog 92 #[Value.int .i64 n0] k3 fun k4 r3 => ∃ cs3, Seg 18 cs3 ∧ some (Value.agg cs3) = some r3 ∧
 ∀ k5, Up k4 k5 → CallsG Tryz.prog 93 #[Value.int .i64 n0] k5 fun k6 r5 => ∃ cs4, Seg 24 cs4 ∧ some (Value.agg cs4) = some r5 ∧
 ∀ k7, Up k6 k7 → CallsG Tryz.prog 39 #[Value.agg cs3, Value.agg cs4] k7 fun k8 r7 => ∃ b5, some (Value.bool b5) = some r7 ∧
 ((!b5) = true →
 (∀ k9, Up k8 k9 → R k9 (Value.bool false))) ∧
 ((!b5) = false →
 (∀ k10, Up k8 k10 → CallsG Tryz.prog 94 #[Value.int .i64 1] k10 fun k11 r10 => ∃ cs6, Seg 3 cs6 ∧ some (Value.agg cs6) = some r10 ∧
 ∀ k12, Up k11 k12 → CallsG Tryz.prog 92 #[Value.int .i64 n0] k12 fun k13 r12 => ∃ cs7, Seg 18 cs7 ∧ some (Value.agg cs7) = some r12 ∧
 ∀ k14, Up k13 k14 → CallsG Tryz.prog 92 #[Value.int .i64 n1] k14 fun k15 r14 => ∃ cs8, Seg 18 cs8 ∧ some (Value.agg cs8) = some r14 ∧
 ∀ k16, Up k15 k16 → CallsG Tryz.prog 92 #[Value.int .i64 (IntKind.wrap .i64 ((Int.tmod n0 24) + (Int.tmod n1 24)))] k16 fun k17 r16 => ∃ cs9, Seg 18 cs9 ∧ some (Value.agg cs9) = some r16 ∧
 ∀ k18, Up k17 k18 → CallsG Tryz.prog 44 #[Value.agg cs7, Value.agg cs8] k18 fun k19 r18 => ∃ cs10, Seg 18 cs10 ∧ some (Value.agg cs10) = some r18 ∧
 ∀ k20, Up k19 k20 → CallsG Tryz.prog 53 #[Value.agg cs10, Value.agg cs9] k20 fun k21 r20 => ∃ b11, some (Value.bool b11) = some r20 ∧
 ((!b11) = true →
 (∀ k22, Up k21 k22 → R k22 (Value.bool false))) ∧
 ((!b11) = false →
 (∀ k23, Up k21 k23 → CallsG Tryz.prog 48 #[Value.agg cs7] k23 fun k24 r23 => ∃ cs12, Seg 18 cs12 ∧ some (Value.agg cs12) = some r23 ∧
 ∀ k25, Up k24 k25 → CallsG Tryz.prog 92 #[Value.int .i64 (IntKind.wrap .i64 (0 - (Int.tmod n0 24)))] k25 fun k26 r25 => ∃ cs13, Seg 18 cs13 ∧ some (Value.agg cs13) = some r25 ∧
 ∀ k27, Up k26 k27 → CallsG Tryz.prog 53 #[Value.agg cs12, Value.agg cs13] k27 fun k28 r27 => ∃ b14, some (Value.bool b14) = some r27 ∧
 ((!b14) = true →
 (∀ k29, Up k28 k29 → R k29 (Value.bool false))) ∧
 ((!b14) = false →
 (∀ k30, Up k28 k30 → CallsG Tryz.prog 51 #[Value.agg cs7] k30 fun k31 r30 => ∃ cs15, Seg 9 cs15 ∧ some (Value.agg cs15) = some r30 ∧
 ∀ k32, Up k31 k32 → CallsG Tryz.prog 81 #[Value.agg #[Value.bool false, Value.slice none 0 0, Value.bool false, Value.slice none 0 0, Value.bool false, Value.slice none 0 0, Value.bool false, Value.slice none 0 0, Value.slice none 0 0], Value.agg cs6] k32 fun k33 r32 => ∃ cs16, Seg 9 cs16 ∧ some (Value.agg cs16) = some r32 ∧
 ∀ k34, Up k33 k34 → CallsG Tryz.prog 88 #[Value.agg cs15, Value.agg cs16] k34 fun k35 r34 => ∃ b17, some (Value.bool b17) = some r34 ∧
 ((!b17) = true →
 (∀ k36, Up k35 k36 → R k36 (Value.bool false))) ∧
 ((!b17) = false →
 (∀ k37, Up k35 k37 → CallsG Tryz.prog 57 #[Value.agg #[Value.bool false, Value.slice none 0 0, Value.bool false, Value.slice none 0 0, Value.bool false, Value.slice none 0 0, Value.bool false, Value.slice none 0 0, Value.slice none 0 0, Value.bool false, Value.slice none 0 0, Value.bool false, Value.slice none 0 0, Value.bool false, Value.slice none 0 0, Value.bool false, Value.slice none 0 0, Value.slice none 0 0], Value.agg cs6] k37 fun k38 r37 => ∃ cs18, Seg 18 cs18 ∧ some (Value.agg cs18) = some r37 ∧
 ∀ k39, Up k38 k39 → CallsG Tryz.prog 40 #[Value.agg #[Value.bool false, Value.slice none 0 0, Value.bool false, Value.slice none 0 0, Value.bool false, Value.slice none 0 0, Value.bool false, Value.slice none 0 0, Value.slice none 0 0, Value.bool false, Value.slice none 0 0, Value.bool false, Value.slice none 0 0, Value.bool false, Value.slice none 0 0, Value.bool false, Value.slice none 0 0, Value.slice none 0 0], Value.agg cs18] k39 fun k40 r39 => ∃ cs19, Seg 18 cs19 ∧ some (Value.agg cs19) = some r39 ∧
 ∀ k41, Up k40 k41 → CallsG Tryz.prog 44 #[Value.agg cs18, Value.agg cs7] k41 fun k42 r41 => ∃ cs20, Seg 18 cs20 ∧ some (Value.agg cs20) = some r41 ∧
 ∀ k43, Up k42 k43 → CallsG Tryz.prog 40 #[Value.agg cs19, Value.agg cs20] k43 fun k44 r43 => ∃ cs21, Seg 18 cs21 ∧ some (Value.agg cs21) = some r43 ∧
 ∀ k45, Up k44 k45 → CallsG Tryz.prog 44 #[Value.agg cs20, Value.agg cs7] k45 fun k46 r45 => ∃ cs22, Seg 18 cs22 ∧ some (Value.agg cs22) = some r45 ∧
 ∀ k47, Up k46 k47 → CallsG Tryz.prog 40 #[Value.agg cs21, Value.agg cs22] k47 fun k48 r47 => ∃ cs23, Seg 18 cs23 ∧ some (Value.agg cs23) = some r47 ∧
 ∀ k49, Up k48 k49 → CallsG Tryz.prog 44 #[Value.agg cs22, Value.agg cs7] k49 fun k50 r49 => ∃ cs24, Seg 18 cs24 ∧ some (Value.agg cs24) = some r49 ∧
 ∀ k51, Up k50 k51 → CallsG Tryz.prog 40 #[Value.agg cs23, Value.agg cs24] k51 fun k52 r51 => ∃ cs25, Seg 18 cs25 ∧ some (Value.agg cs25) = some r51 ∧
 ∀ k53, Up k52 k53 → CallsG Tryz.prog 44 #[Value.agg cs24, Value.agg cs7] k53 fun k54 r53 => ∃ cs26, Seg 18 cs26 ∧ some (Value.agg cs26) = some r53 ∧
 ∀ k55, Up k54 k55 → CallsG Tryz.prog 40 #[Value.agg cs25, Value.agg cs26] k55 fun k56 r55 => ∃ cs27, Seg 18 cs27 ∧ some (Value.agg cs27) = some r55 ∧
 ∀ k57, Up k56 k57 → CallsG Tryz.prog 44 #[Value.agg cs26, Value.agg cs7] k57 fun k58 r57 => ∃ cs28, Seg 18 cs28 ∧ some (Value.agg cs28) = some r57 ∧
 ∀ k59, Up k58 k59 → CallsG Tryz.prog 40 #[Value.agg cs27, Value.agg cs28] k59 fun k60 r59 => ∃ cs29, Seg 18 cs29 ∧ some (Value.agg cs29) = some r59 ∧
 ∀ k61, Up k60 k61 → CallsG Tryz.prog 44 #[Value.agg cs28, Value.agg cs7] k61 fun k62 r61 => ∃ cs30, Seg 18 cs30 ∧ some (Value.agg cs30) = some r61 ∧
 ∀ k63, Up k62 k63 → CallsG Tryz.prog 40 #[Value.agg cs29, Value.agg cs30] k63 fun k64 r63 => ∃ cs31, Seg 18 cs31 ∧ some (Value.agg cs31) = some r63 ∧
 ∀ k65, Up k64 k65 → CallsG Tryz.prog 44 #[Value.agg cs30, Value.agg cs7] k65 fun k66 r65 => ∃ cs32, Seg 18 cs32 ∧ some (Value.agg cs32) = some r65 ∧
 ∀ k67, Up k66 k67 → CallsG Tryz.prog 40 #[Value.agg cs31, Value.agg cs32] k67 fun k68 r67 => ∃ cs33, Seg 18 cs33 ∧ some (Value.agg cs33) = some r67 ∧
 ∀ k69, Up k68 k69 → CallsG Tryz.prog 44 #[Value.agg cs32, Value.agg cs7] k69 fun k70 r69 => ∃ cs34, Seg 18 cs34 ∧ some (Value.agg cs34) = some r69 ∧
 ∀ k71, Up k70 k71 → CallsG Tryz.prog 40 #[Value.agg cs33, Value.agg cs34] k71 fun k72 r71 => ∃ cs35, Seg 18 cs35 ∧ some (Value.agg cs35) = some r71 ∧
 ∀ k73, Up k72 k73 → CallsG Tryz.prog 44 #[Value.agg cs34, Value.agg cs7] k73 fun k74 r73 => ∃ cs36, Seg 18 cs36 ∧ some (Value.agg cs36) = some r73 ∧
 ∀ k75, Up k74 k75 → CallsG Tryz.prog 40 #[Value.agg cs35, Value.agg cs36] k75 fun k76 r75 => ∃ cs37, Seg 18 cs37 ∧ some (Value.agg cs37) = some r75 ∧
 ∀ k77, Up k76 k77 → CallsG Tryz.prog 44 #[Value.agg cs36, Value.agg cs7] k77 fun k78 r77 => ∃ cs38, Seg 18 cs38 ∧ some (Value.agg cs38) = some r77 ∧
 ∀ k79, Up k78 k79 → CallsG Tryz.prog 40 #[Value.agg cs37, Value.agg cs38] k79 fun k80 r79 => ∃ cs39, Seg 18 cs39 ∧ some (Value.agg cs39) = some r79 ∧
 ∀ k81, Up k80 k81 → CallsG Tryz.prog 44 #[Value.agg cs38, Value.agg cs7] k81 fun k82 r81 => ∃ cs40, Seg 18 cs40 ∧ some (Value.agg cs40) = some r81 ∧
 ∀ k83, Up k82 k83 → CallsG Tryz.prog 40 #[Value.agg cs39, Value.agg cs40] k83 fun k84 r83 => ∃ cs41, Seg 18 cs41 ∧ some (Value.agg cs41) = some r83 ∧
 ∀ k85, Up k84 k85 → CallsG Tryz.prog 44 #[Value.agg cs40, Value.agg cs7] k85 fun k86 r85 => ∃ cs42, Seg 18 cs42 ∧ some (Value.agg cs42) = some r85 ∧
 ∀ k87, Up k86 k87 → CallsG Tryz.prog 40 #[Value.agg cs41, Value.agg cs42] k87 fun k88 r87 => ∃ cs43, Seg 18 cs43 ∧ some (Value.agg cs43) = some r87 ∧
 ∀ k89, Up k88 k89 → CallsG Tryz.prog 44 #[Value.agg cs42, Value.agg cs7] k89 fun k90 r89 => ∃ cs44, Seg 18 cs44 ∧ some (Value.agg cs44) = some r89 ∧
 ∀ k91, Up k90 k91 → CallsG Tryz.prog 40 #[Value.agg cs43, Value.agg cs44] k91 fun k92 r91 => ∃ cs45, Seg 18 cs45 ∧ some (Value.agg cs45) = some r91 ∧
 ∀ k93, Up k92 k93 → CallsG Tryz.prog 44 #[Value.agg cs44, Value.agg cs7] k93 fun k94 r93 => ∃ cs46, Seg 18 cs46 ∧ some (Value.agg cs46) = some r93 ∧
 ∀ k95, Up k94 k95 → CallsG Tryz.prog 40 #[Value.agg cs45, Value.agg cs46] k95 fun k96 r95 => ∃ cs47, Seg 18 cs47 ∧ some (Value.agg cs47) = some r95 ∧
 ∀ k97, Up k96 k97 → CallsG Tryz.prog 44 #[Value.agg cs46, Value.agg cs7] k97 fun k98 r97 => ∃ cs48, Seg 18 cs48 ∧ some (Value.agg cs48) = some r97 ∧
 ∀ k99, Up k98 k99 → CallsG Tryz.prog 40 #[Value.agg cs47, Value.agg cs48] k99 fun k100 r99 => ∃ cs49, Seg 18 cs49 ∧ some (Value.agg cs49) = some r99 ∧
 ∀ k101, Up k100 k101 → CallsG Tryz.prog 44 #[Value.agg cs48, Value.agg cs7] k101 fun k102 r101 => ∃ cs50, Seg 18 cs50 ∧ some (Value.agg cs50) = some r101 ∧
 ∀ k103, Up k102 k103 → CallsG Tryz.prog 40 #[Value.agg cs49, Value.agg cs50] k103 fun k104 r103 => ∃ cs51, Seg 18 cs51 ∧ some (Value.agg cs51) = some r103 ∧
 ∀ k105, Up k104 k105 → CallsG Tryz.prog 44 #[Value.agg cs50, Value.agg cs7] k105 fun k106 r105 => ∃ cs52, Seg 18 cs52 ∧ some (Value.agg cs52) = some r105 ∧
 ∀ k107, Up k106 k107 → CallsG Tryz.prog 40 #[Value.agg cs51, Value.agg cs52] k107 fun k108 r107 => ∃ cs53, Seg 18 cs53 ∧ some (Value.agg cs53) = some r107 ∧
 ∀ k109, Up k108 k109 → CallsG Tryz.prog 44 #[Value.agg cs52, Value.agg cs7] k109 fun k110 r109 => ∃ cs54, Seg 18 cs54 ∧ some (Value.agg cs54) = some r109 ∧
 ∀ k111, Up k110 k111 → CallsG Tryz.prog 40 #[Value.agg cs53, Value.agg cs54] k111 fun k112 r111 => ∃ cs55, Seg 18 cs55 ∧ some (Value.agg cs55) = some r111 ∧
 ∀ k113, Up k112 k113 → CallsG Tryz.prog 44 #[Value.agg cs54, Value.agg cs7] k113 fun k114 r113 => ∃ cs56, Seg 18 cs56 ∧ some (Value.agg cs56) = some r113 ∧
 ∀ k115, Up k114 k115 → CallsG Tryz.prog 40 #[Value.agg cs55, Value.agg cs56] k115 fun k116 r115 => ∃ cs57, Seg 18 cs57 ∧ some (Value.agg cs57) = some r115 ∧
 ∀ k117, Up k116 k117 → CallsG Tryz.prog 44 #[Value.agg cs56, Value.agg cs7] k117 fun k118 r117 => ∃ cs58, Seg 18 cs58 ∧ some (Value.agg cs58) = some r117 ∧
 ∀ k119, Up k118 k119 → CallsG Tryz.prog 40 #[Value.agg cs57, Value.agg cs58] k119 fun k120 r119 => ∃ cs59, Seg 18 cs59 ∧ some (Value.agg cs59) = some r119 ∧
 ∀ k121, Up k120 k121 → CallsG Tryz.prog 44 #[Value.agg cs58, Value.agg cs7] k121 fun k122 r121 => ∃ cs60, Seg 18 cs60 ∧ some (Value.agg cs60) = some r121 ∧
 ∀ k123, Up k122 k123 → CallsG Tryz.prog 40 #[Value.agg cs59, Value.agg cs60] k123 fun k124 r123 => ∃ cs61, Seg 18 cs61 ∧ some (Value.agg cs61) = some r123 ∧
 ∀ k125, Up k124 k125 → CallsG Tryz.prog 44 #[Value.agg cs60, Value.agg cs7] k125 fun k126 r125 => ∃ cs62, Seg 18 cs62 ∧ some (Value.agg cs62) = some r125 ∧
 ∀ k127, Up k126 k127 → CallsG Tryz.prog 40 #[Value.agg cs61, Value.agg cs62] k127 fun k128 r127 => ∃ cs63, Seg 18 cs63 ∧ some (Value.agg cs63) = some r127 ∧
 ∀ k129, Up k128 k129 → CallsG Tryz.prog 44 #[Value.agg cs62, Value.agg cs7] k129 fun k130 r129 => ∃ cs64, Seg 18 cs64 ∧ some (Value.agg cs64) = some r129 ∧
 ∀ k131, Up k130 k131 → CallsG Tryz.prog 40 #[Value.agg cs63, Value.agg cs64] k131 fun k132 r131 => ∃ cs65, Seg 18 cs65 ∧ some (Value.agg cs65) = some r131 ∧
 ∀ k133, Up k132 k133 → CallsG Tryz.prog 44 #[Value.agg cs64, Value.agg cs7] k133 fun k134 r133 => ∃ cs66, Seg 18 cs66 ∧ some (Value.agg cs66) = some r133 ∧
 ∀ k135, Up k134 k135 → CallsG Tryz.prog 94 #[Value.int .i64 0] k135 fun k136 r135 => ∃ cs67, Seg 3 cs67 ∧ some (Value.agg cs67) = some r135 ∧
 ((((Int.tmod n0 24) : Int) == 0) = true →
 (∀ k137, Up k136 k137 → CallsG Tryz.prog 94 #[Value.int .i64 24] k137 fun k138 r137 => ∃ cs68, Seg 3 cs68 ∧ some (Value.agg cs68) = some r137 ∧
 ∀ k139, Up k138 k139 → CallsG Tryz.prog 57 #[Value.agg #[Value.bool false, Value.slice none 0 0, Value.bool false, Value.slice none 0 0, Value.bool false, Value.slice none 0 0, Value.bool false, Value.slice none 0 0, Value.slice none 0 0, Value.bool false, Value.slice none 0 0, Value.bool false, Value.slice none 0 0, Value.bool false, Value.slice none 0 0, Value.bool false, Value.slice none 0 0, Value.slice none 0 0], Value.agg cs6] k139 fun k140 r139 => ∃ cs69, Seg 18 cs69 ∧ some (Value.agg cs69) = some r139 ∧
 ∀ k141, Up k140 k141 → CallsG Tryz.prog 53 #[Value.agg cs66, Value.agg cs69] k141 fun k142 r141 => ∃ b70, some (Value.bool b70) = some r141 ∧
 (b70 = true →
 (∀ k143, Up k142 k143 → CallsG Tryz.prog 57 #[Value.agg cs65, Value.agg cs68] k143 fun k144 r143 => ∃ cs71, Seg 18 cs71 ∧ some (Value.agg cs71) = some r143 ∧
 ∀ k145, Up k144 k145 → CallsG Tryz.prog 53 #[Value.agg cs65, Value.agg cs71] k145 fun k146 r145 => ∃ b72, some (Value.bool b72) = some r145 ∧
 ∀ k147, Up k146 k147 → R k147 (Value.bool b72))) ∧
 (b70 = false →
 (∀ k148, Up k142 k148 → R k148 (Value.bool false))))) ∧
 ((((Int.tmod n0 24) : Int) == 0) = false →
 (∀ k149, Up k136 k149 → CallsG Tryz.prog 57 #[Value.agg #[Value.bool false, Value.slice none 0 0, Value.bool false, Value.slice none 0 0, Value.bool false, Value.slice none 0 0, Value.bool false, Value.slice none 0 0, Value.slice none 0 0, Value.bool false, Value.slice none 0 0, Value.bool false, Value.slice none 0 0, Value.bool false, Value.slice none 0 0, Value.bool false, Value.slice none 0 0, Value.slice none 0 0], Value.agg cs6] k149 fun k150 r149 => ∃ cs68, Seg 18 cs68 ∧ some (Value.agg cs68) = some r149 ∧
 ∀ k151, Up k150 k151 → CallsG Tryz.prog 53 #[Value.agg cs66, Value.agg cs68] k151 fun k152 r151 => ∃ b69, some (Value.bool b69) = some r151 ∧
 (b69 = true →
 (∀ k153, Up k152 k153 → CallsG Tryz.prog 57 #[Value.agg cs65, Value.agg cs67] k153 fun k154 r153 => ∃ cs70, Seg 18 cs70 ∧ some (Value.agg cs70) = some r153 ∧
 ∀ k155, Up k154 k155 → CallsG Tryz.prog 53 #[Value.agg cs65, Value.agg cs70] k155 fun k156 r155 => ∃ b71, some (Value.bool b71) = some r155 ∧
 ∀ k157, Up k156 k157 → R k157 (Value.bool b71))) ∧
 (b69 = false →
 (∀ k158, Up k152 k158 → R k158 (Value.bool false)))))))))))))))) :
    CallsG Tryz.prog 7 #[Value.int .i64 n0, Value.int .i64 n1] k R :=
  execFn_use (cfg := { opq := [30, 59, 57, 64] }) (args := [.one (.var 0), .one (.var 1)]) (vals := [Value.int .i64 n0, Value.int .i64 n1]) (kinds := [.int .i64, .int .i64]) (by kernel_rfl) ⟨⟨_, rfl⟩, ⟨⟨_, rfl⟩, trivial⟩⟩ (by kernel_rfl) (by kernel_rfl) h
end Go.Proofs.YtpjakokgmgggiaaGreat

/- Turns of the program. (Printed by gen/turnz.py.) -/
namespace Go.Proofs.YtpjakokgmgggiaaGreat
open Go.RowKit Num
open Sy (Up Sees CallsG Seg)
section
variable {k k' : World} {cs cs' c0 c1 : Array Value} {R : World → Value → Prop} {v v' : Q4} {x y : W4} {K L : Nat}
theorem IntV.cut {z : Int} (h : IntV k cs z K) (hz : z.natAbs ≤ 1000) : IntV k cs z 1 := by
 obtain ⟨b, A, n, c, e, h1, h2⟩ := h
 refine ⟨b, A, n, c, e, h1, ?_⟩
 rw [h1.lim.len]
 exact nw_le_of (by unfold B64; omega)
theorem small_part {z : Int} {m : Nat} (hm : 0 < m) (h : q4s (mkRat z m) = true) : m ∣ 4 * z.natAbs ∧ 4 * z.natAbs ≤ 1000 * m := by
 unfold q4s at h
 rw [Bool.and_eq_true, beq_iff_eq, decide_eq_true_iff] at h
 have e : (4 : Rat) * mkRat z m = mkRat (z * (4 : Nat)) m := by rw [mkRat_scale z 4 hm]; rfl
 rw [e, mkRat_dn _ hm, mkRat_abs _ hm] at h
 obtain ⟨h1, h2⟩ := h
 have hz : (z * ((4 : Nat) : Int)).natAbs = 4 * z.natAbs := by rw [Int.natAbs_mul, Int.natAbs_natCast, Nat.mul_comm]
 rw [hz] at h1 h2
 generalize hg : Nat.gcd (4 * z.natAbs) m = g at h1 h2
 have d1 : g ∣ m := hg ▸ Nat.gcd_dvd_right _ _
 have d2 : g ∣ 4 * z.natAbs := hg ▸ Nat.gcd_dvd_left _ _
 have em : m = g := by have := Nat.div_mul_cancel d1; rw [h1, Nat.one_mul] at this; exact this.symm
 have hle := Nat.mul_le_mul_right g h2
 rw [Nat.div_mul_cancel d2] at hle
 rw [em]
 exact ⟨d2, hle⟩
theorem SurdV.cut (h : SurdV k cs v K) (hs : v.small = true) : SurdV k cs v 1 := by
 obtain ⟨c0, c1, c2, c3, D, d, e, y0, y1, y2, y3, m, h1, hm, hg, rfl, i0, i1, i2, i3, l, hd⟩ := h
 unfold Q4.small mkQ at hs
 rw [Bool.and_eq_true, Bool.and_eq_true, Bool.and_eq_true] at hs
 obtain ⟨⟨⟨s0, s1⟩, s2⟩, s3⟩ := hs
 obtain ⟨d0, b0⟩ := small_part hm s0
 obtain ⟨d1, b1⟩ := small_part hm s1
 obtain ⟨d2, b2⟩ := small_part hm s2
 obtain ⟨d3, b3⟩ := small_part hm s3
 have hm4 : m ∣ 4 := by
   have dm : m ∣ 4 * m := Nat.dvd_mul_left m 4
   have := Nat.dvd_gcd (Nat.dvd_gcd (Nat.dvd_gcd (Nat.dvd_gcd dm d0) d1) d2) d3
   rw [Nat.gcd_mul_left, Nat.gcd_mul_left, Nat.gcd_mul_left, Nat.gcd_mul_left] at this
   unfold gcd5 at hg
   rw [hg] at this
   exact this
 have hm4 := Nat.le_of_dvd (by decide) hm4
 refine ⟨c0, c1, c2, c3, D, d, e, y0, y1, y2, y3, m, h1, hm, hg, rfl, i0.cut (by omega), i1.cut (by omega), i2.cut (by omega), i3.cut (by omega), l, ?_⟩
 rw [l.len]
 refine nw_le_of ?_
 unfold B64
 split <;> omega
theorem WaveV.cut (h : WaveV k cs x K) (hs : x.small = true) : WaveV k cs x 1 := by
 obtain ⟨c0, c1, e, h0, h1⟩ := h
 unfold W4.small at hs
 rw [Bool.and_eq_true] at hs
 exact ⟨c0, c1, e, h0.cut hs.1, h1.cut hs.2⟩
theorem WaveV.nil : WaveV k #[.bool false, .slice none 0 0, .bool false, .slice none 0 0, .bool false, .slice none 0 0, .bool false, .slice none 0 0, .slice none 0 0, .bool false, .slice none 0 0, .bool false, .slice none 0 0, .bool false, .slice none 0 0, .bool false, .slice none 0 0, .slice none 0 0] W4.zero K :=
 ⟨#[.bool false, .slice none 0 0, .bool false, .slice none 0 0, .bool false, .slice none 0 0, .bool false, .slice none 0 0, .slice none 0 0], #[.bool false, .slice none 0 0, .bool false, .slice none 0 0, .bool false, .slice none 0 0, .bool false, .slice none 0 0, .slice none 0 0], rfl, SurdV.nil (Nat.zero_le _), SurdV.nil (Nat.zero_le _)⟩
theorem WSame_t (hx : WaveV k cs x K) (hy : WaveV k cs' y K) (e : x = y) (hK1 : 1 ≤ K) (hK : K ≤ 134217727) (C : ∀ k', Up k k' → R k' (.bool true)) :
   ∀ k0, Up k k0 → CallsG Tryz.prog 53 #[.agg cs, .agg cs'] k0 R :=
 WSame_s hx hy hK1 hK fun k' u => by rw [decide_eq_true e]; exact C k' u
theorem SSame_t (hx : SurdV k cs v K) (hy : SurdV k cs' v' K) (e : v = v') (hK1 : 1 ≤ K) (hK : K ≤ 134217727) (C : ∀ k', Up k k' → R k' (.bool true)) :
   ∀ k0, Up k k0 → CallsG Tryz.prog 88 #[.agg cs, .agg cs'] k0 R :=
 SSame_d hx hy hK1 hK fun k' u => by rw [decide_eq_true e]; exact C k' u
theorem part14_s (C : ∀ k' ds, Up k k' → SurdV k' ds ⟨0, 1 / 4, 0, 0⟩ 1 → R k' (.agg ds)) :
   ∀ k0, Up k k0 → CallsG Tryz.prog 208 #[.int .i64 1, .int .u64 4] k0 R := by
 intro k0 u0
 refine part14_vc ?_
 refine of_s (by decide) (by decide) fun k1 d1 u1 i1 => ⟨d1, i1.seg, rfl, ?_⟩
 refine word_s (x := 4) (by decide) fun k2 A l c u2 l2 hl => ⟨A, l, c, rfl, fun k3 u3 => ?_⟩
 exact C k3 _ (((u0.trans u1).trans u2).trans u3) ⟨#[.bool false, .slice none 0 0], d1, #[.bool false, .slice none 0 0], #[.bool false, .slice none 0 0], A, l, c, 0, 1, 0, 0, 4, rfl, by decide, by decide, by decide +kernel, IntV.nil, (i1.up u2).up u3, IntV.nil, IntV.nil, (by rw [if_neg (by decide)]; exact l2.up u3), hl⟩
theorem part34_s (C : ∀ k' ds, Up k k' → SurdV k' ds ⟨0, 0, 0, 1 / 4⟩ 1 → R k' (.agg ds)) :
   ∀ k0, Up k k0 → CallsG Tryz.prog 208 #[.int .i64 3, .int .u64 4] k0 R := by
 intro k0 u0
 refine part34_vc ?_
 refine of_s (by decide) (by decide) fun k1 d1 u1 i1 => ⟨d1, i1.seg, rfl, ?_⟩
 refine word_s (x := 4) (by decide) fun k2 A l c u2 l2 hl => ⟨A, l, c, rfl, fun k3 u3 => ?_⟩
 exact C k3 _ (((u0.trans u1).trans u2).trans u3) ⟨#[.bool false, .slice none 0 0], #[.bool false, .slice none 0 0], #[.bool false, .slice none 0 0], d1, A, l, c, 0, 0, 0, 1, 4, rfl, by decide, by decide, by decide +kernel, IntV.nil, IntV.nil, IntV.nil, (i1.up u2).up u3, (by rw [if_neg (by decide)]; exact l2.up u3), hl⟩
theorem part22_s (C : ∀ k' ds, Up k k' → SurdV k' ds ⟨0, 0, 1 / 2, 0⟩ 1 → R k' (.agg ds)) :
   ∀ k0, Up k k0 → CallsG Tryz.prog 208 #[.int .i64 2, .int .u64 2] k0 R := by
 intro k0 u0
 refine part22_vc ?_
 refine of_s (by decide) (by decide) fun k1 d1 u1 i1 => ⟨d1, i1.seg, rfl, ?_⟩
 refine word_s (x := 2) (by decide) fun k2 A l c u2 l2 hl => ⟨A, l, c, rfl, fun k3 u3 => ?_⟩
 exact C k3 _ (((u0.trans u1).trans u2).trans u3) ⟨#[.bool false, .slice none 0 0], #[.bool false, .slice none 0 0], d1, #[.bool false, .slice none 0 0], A, l, c, 0, 0, 1, 0, 2, rfl, by decide, by decide, by decide +kernel, IntV.nil, IntV.nil, (i1.up u2).up u3, IntV.nil, (by rw [if_neg (by decide)]; exact l2.up u3), hl⟩
theorem part12_s (C : ∀ k' ds, Up k k' → SurdV k' ds ⟨0, 1 / 2, 0, 0⟩ 1 → R k' (.agg ds)) :
   ∀ k0, Up k k0 → CallsG Tryz.prog 208 #[.int .i64 1, .int .u64 2] k0 R := by
 intro k0 u0
 refine part12_vc ?_
 refine of_s (by decide) (by decide) fun k1 d1 u1 i1 => ⟨d1, i1.seg, rfl, ?_⟩
 refine word_s (x := 2) (by decide) fun k2 A l c u2 l2 hl => ⟨A, l, c, rfl, fun k3 u3 => ?_⟩
 exact C k3 _ (((u0.trans u1).trans u2).trans u3) ⟨#[.bool false, .slice none 0 0], d1, #[.bool false, .slice none 0 0], #[.bool false, .slice none 0 0], A, l, c, 0, 1, 0, 0, 2, rfl, by decide, by decide, by decide +kernel, IntV.nil, (i1.up u2).up u3, IntV.nil, IntV.nil, (by rw [if_neg (by decide)]; exact l2.up u3), hl⟩
theorem part02_s (C : ∀ k' ds, Up k k' → SurdV k' ds ⟨1 / 2, 0, 0, 0⟩ 1 → R k' (.agg ds)) :
   ∀ k0, Up k k0 → CallsG Tryz.prog 208 #[.int .i64 0, .int .u64 2] k0 R := by
 intro k0 u0
 refine part02_vc ?_
 refine of_s (by decide) (by decide) fun k1 d1 u1 i1 => ⟨d1, i1.seg, rfl, ?_⟩
 refine word_s (x := 2) (by decide) fun k2 A l c u2 l2 hl => ⟨A, l, c, rfl, fun k3 u3 => ?_⟩
 exact C k3 _ (((u0.trans u1).trans u2).trans u3) ⟨d1, #[.bool false, .slice none 0 0], #[.bool false, .slice none 0 0], #[.bool false, .slice none 0 0], A, l, c, 1, 0, 0, 0, 2, rfl, by decide, by decide, by decide +kernel, (i1.up u2).up u3, IntV.nil, IntV.nil, IntV.nil, (by rw [if_neg (by decide)]; exact l2.up u3), hl⟩
theorem cast4 (h : SurdV k cs v K) (e : v = v') : SurdV k cs v' K := e ▸ h
theorem xcos0_s (C : ∀ k' ds, Up k k' → SurdV k' ds (cosQ 0) 1 → R k' (.agg ds)) :
   ∀ k0, Up k k0 → CallsG Tryz.prog 164 #[.int .i64 0] k0 R := by
 intro k0 u0
 refine xcos_vc ⟨fun h => absurd h (by decide +kernel), fun _ => ⟨fun h => absurd h (by decide +kernel), fun _ => ⟨fun _ => ?_, fun h => absurd h (by decide +kernel)⟩⟩⟩
 refine of_s (by decide) (by decide) fun k1 d1 u1 i1 => ⟨d1, i1.seg, rfl, fun k2 u2 => ?_⟩
 exact C k2 _ ((u0.trans u1).trans u2) ⟨d1, #[.bool false, .slice none 0 0], #[.bool false, .slice none 0 0], #[.bool false, .slice none 0 0], none, 0, 0, 1, 0, 0, 0, 1, rfl, by decide, by decide, by decide +kernel, i1.up u2, IntV.nil, IntV.nil, IntV.nil, (by rw [if_pos rfl]; exact LimR.nil), Nat.zero_le _⟩
theorem xcos1_s (C : ∀ k' ds, Up k k' → SurdV k' ds (cosQ 1) 1 → R k' (.agg ds)) :
   ∀ k0, Up k k0 → CallsG Tryz.prog 164 #[.int .i64 1] k0 R := by
 intro k0 u0
 refine xcos_vc ⟨fun h => absurd h (by decide +kernel), fun _ => ⟨fun h => absurd h (by decide +kernel), fun _ => ⟨fun h => absurd h (by decide +kernel), fun _ => ⟨fun _ => ?_, fun h => absurd h (by decide +kernel)⟩⟩⟩⟩
 refine part14_s fun k1 d1 u1 h1 => ⟨d1, h1.seg, rfl, ?_⟩
 refine part34_s fun k2 d2 u2 h2 => ⟨d2, h2.seg, rfl, ?_⟩
 refine SAdd_s (h1.up u2) h2 (by decide) (by decide) fun k3 d3 u3 h3 => ⟨d3, h3.seg, rfl, fun k4 u4 => ?_⟩
 refine C k4 d3 ((((u0.trans u1).trans u2).trans u3).trans u4) (SurdV.cut (K := 2 * 1 + 1) (cast4 (h3.up u4) (by decide +kernel)) (by decide +kernel))
theorem xcos2_s (C : ∀ k' ds, Up k k' → SurdV k' ds (cosQ 2) 1 → R k' (.agg ds)) :
   ∀ k0, Up k k0 → CallsG Tryz.prog 164 #[.int .i64 2] k0 R := by
 intro k0 u0
 refine xcos_vc ⟨fun h => absurd h (by decide +kernel), fun _ => ⟨fun h => absurd h (by decide +kernel), fun _ => ⟨fun h => absurd h (by decide +kernel), fun _ => ⟨fun h => absurd h (by decide +kernel), fun _ => ⟨fun _ => ?_, fun h => absurd h (by decide +kernel)⟩⟩⟩⟩⟩
 exact part22_s fun k1 d1 u1 h1 => ⟨d1, h1.seg, rfl, fun k2 u2 => C k2 d1 ((u0.trans u1).trans u2) (h1.up u2)⟩
theorem xcos3_s (C : ∀ k' ds, Up k k' → SurdV k' ds (cosQ 3) 1 → R k' (.agg ds)) :
   ∀ k0, Up k k0 → CallsG Tryz.prog 164 #[.int .i64 3] k0 R := by
 intro k0 u0
 refine xcos_vc ⟨fun h => absurd h (by decide +kernel), fun _ => ⟨fun h => absurd h (by decide +kernel), fun _ => ⟨fun h => absurd h (by decide +kernel), fun _ => ⟨fun h => absurd h (by decide +kernel), fun _ => ⟨fun h => absurd h (by decide +kernel), fun _ => ⟨fun _ => ?_, fun h => absurd h (by decide +kernel)⟩⟩⟩⟩⟩⟩
 exact part12_s fun k1 d1 u1 h1 => ⟨d1, h1.seg, rfl, fun k2 u2 => C k2 d1 ((u0.trans u1).trans u2) (h1.up u2)⟩
theorem xcos4_s (C : ∀ k' ds, Up k k' → SurdV k' ds (cosQ 4) 1 → R k' (.agg ds)) :
   ∀ k0, Up k k0 → CallsG Tryz.prog 164 #[.int .i64 4] k0 R := by
 intro k0 u0
 refine xcos_vc ⟨fun h => absurd h (by decide +kernel), fun _ => ⟨fun h => absurd h (by decide +kernel), fun _ => ⟨fun h => absurd h (by decide +kernel), fun _ => ⟨fun h => absurd h (by decide +kernel), fun _ => ⟨fun h => absurd h (by decide +kernel), fun _ => ⟨fun h => absurd h (by decide +kernel), fun _ => ⟨fun _ => ?_, fun h => absurd h (by decide +kernel)⟩⟩⟩⟩⟩⟩⟩
 exact part02_s fun k1 d1 u1 h1 => ⟨d1, h1.seg, rfl, fun k2 u2 => C k2 d1 ((u0.trans u1).trans u2) (h1.up u2)⟩
theorem xcos5_s (C : ∀ k' ds, Up k k' → SurdV k' ds (cosQ 5) 1 → R k' (.agg ds)) :
   ∀ k0, Up k k0 → CallsG Tryz.prog 164 #[.int .i64 5] k0 R := by
 intro k0 u0
 refine xcos_vc ⟨fun h => absurd h (by decide +kernel), fun _ => ⟨fun h => absurd h (by decide +kernel), fun _ => ⟨fun h => absurd h (by decide +kernel), fun _ => ⟨fun h => absurd h (by decide +kernel), fun _ => ⟨fun h => absurd h (by decide +kernel), fun _ => ⟨fun h => absurd h (by decide +kernel), fun _ => ⟨fun h => absurd h (by decide +kernel), fun _ => ⟨fun _ => ?_, fun h => absurd h (by decide +kernel)⟩⟩⟩⟩⟩⟩⟩⟩
 refine part34_s fun k1 d1 u1 h1 => ⟨d1, h1.seg, rfl, ?_⟩
 refine part14_s fun k2 d2 u2 h2 => ⟨d2, h2.seg, rfl, ?_⟩
 refine SSub_s (h1.up u2) h2 (by decide) (by decide) fun k3 d3 u3 h3 => ⟨d3, h3.seg, rfl, fun k4 u4 => ?_⟩
 refine C k4 d3 ((((u0.trans u1).trans u2).trans u3).trans u4) (SurdV.cut (K := 2 * 1 + 1) (cast4 (h3.up u4) (by decide +kernel)) (by decide +kernel))
theorem xcos6_s (C : ∀ k' ds, Up k k' → SurdV k' ds (cosQ 6) 1 → R k' (.agg ds)) :
   ∀ k0, Up k k0 → CallsG Tryz.prog 164 #[.int .i64 6] k0 R := by
 intro k0 u0
 refine xcos_vc ⟨fun h => absurd h (by decide +kernel), fun _ => ⟨fun h => absurd h (by decide +kernel), fun _ => ⟨fun h => absurd h (by decide +kernel), fun _ => ⟨fun h => absurd h (by decide +kernel), fun _ => ⟨fun h => absurd h (by decide +kernel), fun _ => ⟨fun h => absurd h (by decide +kernel), fun _ => ⟨fun h => absurd h (by decide +kernel), fun _ => ⟨fun h => absurd h (by decide +kernel), fun _ => ?_⟩⟩⟩⟩⟩⟩⟩⟩
 intro k1 u1
 exact C k1 _ (u0.trans u1) (SurdV.nil (Nat.zero_le _))
theorem xcos7_s (C : ∀ k' ds, Up k k' → SurdV k' ds (cosQ 7) 1 → R k' (.agg ds)) :
   ∀ k0, Up k k0 → CallsG Tryz.prog 164 #[.int .i64 7] k0 R := by
 intro k0 u0
 refine xcos_vc ⟨fun h => absurd h (by decide +kernel), fun _ => ⟨fun _ => ?_, fun h => absurd h (by decide +kernel)⟩⟩
 rw [show IntKind.wrap .i64 (12 - 7) = (5 : Int) from by decide +kernel]
 refine xcos5_s fun k1 d1 u1 h1 => ⟨d1, h1.seg, rfl, ?_⟩
 refine SNeg_s h1 (by decide) fun k3 d3 u3 h3 => ⟨d3, h3.seg, rfl, fun k4 u4 => ?_⟩
 exact C k4 d3 (((u0.trans u1).trans u3).trans u4) (h3.up u4)
theorem xcos8_s (C : ∀ k' ds, Up k k' → SurdV k' ds (cosQ 8) 1 → R k' (.agg ds)) :
   ∀ k0, Up k k0 → CallsG Tryz.prog 164 #[.int .i64 8] k0 R := by
 intro k0 u0
 refine xcos_vc ⟨fun h => absurd h (by decide +kernel), fun _ => ⟨fun _ => ?_, fun h => absurd h (by decide +kernel)⟩⟩
 rw [show IntKind.wrap .i64 (12 - 8) = (4 : Int) from by decide +kernel]
 refine xcos4_s fun k1 d1 u1 h1 => ⟨d1, h1.seg, rfl, ?_⟩
 refine SNeg_s h1 (by decide) fun k3 d3 u3 h3 => ⟨d3, h3.seg, rfl, fun k4 u4 => ?_⟩
 exact C k4 d3 (((u0.trans u1).trans u3).trans u4) (h3.up u4)
theorem xcos9_s (C : ∀ k' ds, Up k k' → SurdV k' ds (cosQ 9) 1 → R k' (.agg ds)) :
   ∀ k0, Up k k0 → CallsG Tryz.prog 164 #[.int .i64 9] k0 R := by
 intro k0 u0
 refine xcos_vc ⟨fun h => absurd h (by decide +kernel), fun _ => ⟨fun _ => ?_, fun h => absurd h (by decide +kernel)⟩⟩
 rw [show IntKind.wrap .i64 (12 - 9) = (3 : Int) from by decide +kernel]
 refine xcos3_s fun k1 d1 u1 h1 => ⟨d1, h1.seg, rfl, ?_⟩
 refine SNeg_s h1 (by decide) fun k3 d3 u3 h3 => ⟨d3, h3.seg, rfl, fun k4 u4 => ?_⟩
 exact C k4 d3 (((u0.trans u1).trans u3).trans u4) (h3.up u4)
theorem xcos10_s (C : ∀ k' ds, Up k k' → SurdV k' ds (cosQ 10) 1 → R k' (.agg ds)) :
   ∀ k0, Up k k0 → CallsG Tryz.prog 164 #[.int .i64 10] k0 R := by
 intro k0 u0
 refine xcos_vc ⟨fun h => absurd h (by decide +kernel), fun _ => ⟨fun _ => ?_, fun h => absurd h (by decide +kernel)⟩⟩
 rw [show IntKind.wrap .i64 (12 - 10) = (2 : Int) from by decide +kernel]
 refine xcos2_s fun k1 d1 u1 h1 => ⟨d1, h1.seg, rfl, ?_⟩
 refine SNeg_s h1 (by decide) fun k3 d3 u3 h3 => ⟨d3, h3.seg, rfl, fun k4 u4 => ?_⟩
 exact C k4 d3 (((u0.trans u1).trans u3).trans u4) (h3.up u4)
theorem xcos11_s (C : ∀ k' ds, Up k k' → SurdV k' ds (cosQ 11) 1 → R k' (.agg ds)) :
   ∀ k0, Up k k0 → CallsG Tryz.prog 164 #[.int .i64 11] k0 R := by
 intro k0 u0
 refine xcos_vc ⟨fun h => absurd h (by decide +kernel), fun _ => ⟨fun _ => ?_, fun h => absurd h (by decide +kernel)⟩⟩
 rw [show IntKind.wrap .i64 (12 - 11) = (1 : Int) from by decide +kernel]
 refine xcos1_s fun k1 d1 u1 h1 => ⟨d1, h1.seg, rfl, ?_⟩
 refine SNeg_s h1 (by decide) fun k3 d3 u3 h3 => ⟨d3, h3.seg, rfl, fun k4 u4 => ?_⟩
 exact C k4 d3 (((u0.trans u1).trans u3).trans u4) (h3.up u4)
theorem xcos12_s (C : ∀ k' ds, Up k k' → SurdV k' ds (cosQ 12) 1 → R k' (.agg ds)) :
   ∀ k0, Up k k0 → CallsG Tryz.prog 164 #[.int .i64 12] k0 R := by
 intro k0 u0
 refine xcos_vc ⟨fun h => absurd h (by decide +kernel), fun _ => ⟨fun _ => ?_, fun h => absurd h (by decide +kernel)⟩⟩
 rw [show IntKind.wrap .i64 (12 - 12) = (0 : Int) from by decide +kernel]
 refine xcos0_s fun k1 d1 u1 h1 => ⟨d1, h1.seg, rfl, ?_⟩
 refine SNeg_s h1 (by decide) fun k3 d3 u3 h3 => ⟨d3, h3.seg, rfl, fun k4 u4 => ?_⟩
 exact C k4 d3 (((u0.trans u1).trans u3).trans u4) (h3.up u4)
theorem xcos13_s (C : ∀ k' ds, Up k k' → SurdV k' ds (cosQ 13) 1 → R k' (.agg ds)) :
   ∀ k0, Up k k0 → CallsG Tryz.prog 164 #[.int .i64 13] k0 R := by
 intro k0 u0
 refine xcos_vc ⟨fun _ => ⟨fun _ => ?_, fun h => absurd h (by decide +kernel)⟩, fun h => absurd h (by decide +kernel)⟩
 rw [show IntKind.wrap .i64 (12 - (IntKind.wrap .i64 (24 - 13))) = (1 : Int) from by decide +kernel]
 refine xcos1_s fun k1 d1 u1 h1 => ⟨d1, h1.seg, rfl, ?_⟩
 refine SNeg_s h1 (by decide) fun k3 d3 u3 h3 => ⟨d3, h3.seg, rfl, fun k4 u4 => ?_⟩
 exact C k4 d3 (((u0.trans u1).trans u3).trans u4) (h3.up u4)
theorem xcos14_s (C : ∀ k' ds, Up k k' → SurdV k' ds (cosQ 14) 1 → R k' (.agg ds)) :
   ∀ k0, Up k k0 → CallsG Tryz.prog 164 #[.int .i64 14] k0 R := by
 intro k0 u0
 refine xcos_vc ⟨fun _ => ⟨fun _ => ?_, fun h => absurd h (by decide +kernel)⟩, fun h => absurd h (by decide +kernel)⟩
 rw [show IntKind.wrap .i64 (12 - (IntKind.wrap .i64 (24 - 14))) = (2 : Int) from by decide +kernel]
 refine xcos2_s fun k1 d1 u1 h1 => ⟨d1, h1.seg, rfl, ?_⟩
 refine SNeg_s h1 (by decide) fun k3 d3 u3 h3 => ⟨d3, h3.seg, rfl, fun k4 u4 => ?_⟩
 exact C k4 d3 (((u0.trans u1).trans u3).trans u4) (h3.up u4)
theorem xcos15_s (C : ∀ k' ds, Up k k' → SurdV k' ds (cosQ 15) 1 → R k' (.agg ds)) :
   ∀ k0, Up k k0 → CallsG Tryz.prog 164 #[.int .i64 15] k0 R := by
 intro k0 u0
 refine xcos_vc ⟨fun _ => ⟨fun _ => ?_, fun h => absurd h (by decide +kernel)⟩, fun h => absurd h (by decide +kernel)⟩
 rw [show IntKind.wrap .i64 (12 - (IntKind.wrap .i64 (24 - 15))) = (3 : Int) from by decide +kernel]
 refine xcos3_s fun k1 d1 u1 h1 => ⟨d1, h1.seg, rfl, ?_⟩
 refine SNeg_s h1 (by decide) fun k3 d3 u3 h3 => ⟨d3, h3.seg, rfl, fun k4 u4 => ?_⟩
 exact C k4 d3 (((u0.trans u1).trans u3).trans u4) (h3.up u4)
theorem xcos16_s (C : ∀ k' ds, Up k k' → SurdV k' ds (cosQ 16) 1 → R k' (.agg ds)) :
   ∀ k0, Up k k0 → CallsG Tryz.prog 164 #[.int .i64 16] k0 R := by
 intro k0 u0
 refine xcos_vc ⟨fun _ => ⟨fun _ => ?_, fun h => absurd h (by decide +kernel)⟩, fun h => absurd h (by decide +kernel)⟩
 rw [show IntKind.wrap .i64 (12 - (IntKind.wrap .i64 (24 - 16))) = (4 : Int) from by decide +kernel]
 refine xcos4_s fun k1 d1 u1 h1 => ⟨d1, h1.seg, rfl, ?_⟩
 refine SNeg_s h1 (by decide) fun k3 d3 u3 h3 => ⟨d3, h3.seg, rfl, fun k4 u4 => ?_⟩
 exact C k4 d3 (((u0.trans u1).trans u3).trans u4) (h3.up u4)
theorem xcos17_s (C : ∀ k' ds, Up k k' → SurdV k' ds (cosQ 17) 1 → R k' (.agg ds)) :
   ∀ k0, Up k k0 → CallsG Tryz.prog 164 #[.int .i64 17] k0 R := by
 intro k0 u0
 refine xcos_vc ⟨fun _ => ⟨fun _ => ?_, fun h => absurd h (by decide +kernel)⟩, fun h => absurd h (by decide +kernel)⟩
 rw [show IntKind.wrap .i64 (12 - (IntKind.wrap .i64 (24 - 17))) = (5 : Int) from by decide +kernel]
 refine xcos5_s fun k1 d1 u1 h1 => ⟨d1, h1.seg, rfl, ?_⟩
 refine SNeg_s h1 (by decide) fun k3 d3 u3 h3 => ⟨d3, h3.seg, rfl, fun k4 u4 => ?_⟩
 exact C k4 d3 (((u0.trans u1).trans u3).trans u4) (h3.up u4)
theorem xcos18_s (C : ∀ k' ds, Up k k' → SurdV k' ds (cosQ 18) 1 → R k' (.agg ds)) :
   ∀ k0, Up k k0 → CallsG Tryz.prog 164 #[.int .i64 18] k0 R := by
 intro k0 u0
 refine xcos_vc ⟨fun _ => ⟨fun h => absurd h (by decide +kernel), fun _ => ⟨fun h => absurd h (by decide +kernel), fun _ => ⟨fun h => absurd h (by decide +kernel), fun _ => ⟨fun h => absurd h (by decide +kernel), fun _ => ⟨fun h => absurd h (by decide +kernel), fun _ => ⟨fun h => absurd h (by decide +kernel), fun _ => ⟨fun h => absurd h (by decide +kernel), fun _ => ?_⟩⟩⟩⟩⟩⟩⟩, fun h => absurd h (by decide +kernel)⟩
 intro k1 u1
 exact C k1 _ (u0.trans u1) (SurdV.nil (Nat.zero_le _))
theorem xcos19_s (C : ∀ k' ds, Up k k' → SurdV k' ds (cosQ 19) 1 → R k' (.agg ds)) :
   ∀ k0, Up k k0 → CallsG Tryz.prog 164 #[.int .i64 19] k0 R := by
 intro k0 u0
 refine xcos_vc ⟨fun _ => ⟨fun h => absurd h (by decide +kernel), fun _ => ⟨fun h => absurd h (by decide +kernel), fun _ => ⟨fun h => absurd h (by decide +kernel), fun _ => ⟨fun h => absurd h (by decide +kernel), fun _ => ⟨fun h => absurd h (by decide +kernel), fun _ => ⟨fun h => absurd h (by decide +kernel), fun _ => ⟨fun _ => ?_, fun h => absurd h (by decide +kernel)⟩⟩⟩⟩⟩⟩⟩, fun h => absurd h (by decide +kernel)⟩
 refine part34_s fun k1 d1 u1 h1 => ⟨d1, h1.seg, rfl, ?_⟩
 refine part14_s fun k2 d2 u2 h2 => ⟨d2, h2.seg, rfl, ?_⟩
 refine SSub_s (h1.up u2) h2 (by decide) (by decide) fun k3 d3 u3 h3 => ⟨d3, h3.seg, rfl, fun k4 u4 => ?_⟩
 refine C k4 d3 ((((u0.trans u1).trans u2).trans u3).trans u4) (SurdV.cut (K := 2 * 1 + 1) (cast4 (h3.up u4) (by decide +kernel)) (by decide +kernel))
theorem xcos20_s (C : ∀ k' ds, Up k k' → SurdV k' ds (cosQ 20) 1 → R k' (.agg ds)) :
   ∀ k0, Up k k0 → CallsG Tryz.prog 164 #[.int .i64 20] k0 R := by
 intro k0 u0
 refine xcos_vc ⟨fun _ => ⟨fun h => absurd h (by decide +kernel), fun _ => ⟨fun h => absurd h (by decide +kernel), fun _ => ⟨fun h => absurd h (by decide +kernel), fun _ => ⟨fun h => absurd h (by decide +kernel), fun _ => ⟨fun h => absurd h (by decide +kernel), fun _ => ⟨fun _ => ?_, fun h => absurd h (by decide +kernel)⟩⟩⟩⟩⟩⟩, fun h => absurd h (by decide +kernel)⟩
 exact part02_s fun k1 d1 u1 h1 => ⟨d1, h1.seg, rfl, fun k2 u2 => C k2 d1 ((u0.trans u1).trans u2) (h1.up u2)⟩
theorem xcos21_s (C : ∀ k' ds, Up k k' → SurdV k' ds (cosQ 21) 1 → R k' (.agg ds)) :
   ∀ k0, Up k k0 → CallsG Tryz.prog 164 #[.int .i64 21] k0 R := by
 intro k0 u0
 refine xcos_vc ⟨fun _ => ⟨fun h => absurd h (by decide +kernel), fun _ => ⟨fun h => absurd h (by decide +kernel), fun _ => ⟨fun h => absurd h (by decide +kernel), fun _ => ⟨fun h => absurd h (by decide +kernel), fun _ => ⟨fun _ => ?_, fun h => absurd h (by decide +kernel)⟩⟩⟩⟩⟩, fun h => absurd h (by decide +kernel)⟩
 exact part12_s fun k1 d1 u1 h1 => ⟨d1, h1.seg, rfl, fun k2 u2 => C k2 d1 ((u0.trans u1).trans u2) (h1.up u2)⟩
theorem xcos22_s (C : ∀ k' ds, Up k k' → SurdV k' ds (cosQ 22) 1 → R k' (.agg ds)) :
   ∀ k0, Up k k0 → CallsG Tryz.prog 164 #[.int .i64 22] k0 R := by
 intro k0 u0
 refine xcos_vc ⟨fun _ => ⟨fun h => absurd h (by decide +kernel), fun _ => ⟨fun h => absurd h (by decide +kernel), fun _ => ⟨fun h => absurd h (by decide +kernel), fun _ => ⟨fun _ => ?_, fun h => absurd h (by decide +kernel)⟩⟩⟩⟩, fun h => absurd h (by decide +kernel)⟩
 exact part22_s fun k1 d1 u1 h1 => ⟨d1, h1.seg, rfl, fun k2 u2 => C k2 d1 ((u0.trans u1).trans u2) (h1.up u2)⟩
theorem xcos23_s (C : ∀ k' ds, Up k k' → SurdV k' ds (cosQ 23) 1 → R k' (.agg ds)) :
   ∀ k0, Up k k0 → CallsG Tryz.prog 164 #[.int .i64 23] k0 R := by
 intro k0 u0
 refine xcos_vc ⟨fun _ => ⟨fun h => absurd h (by decide +kernel), fun _ => ⟨fun h => absurd h (by decide +kernel), fun _ => ⟨fun _ => ?_, fun h => absurd h (by decide +kernel)⟩⟩⟩, fun h => absurd h (by decide +kernel)⟩
 refine part14_s fun k1 d1 u1 h1 => ⟨d1, h1.seg, rfl, ?_⟩
 refine part34_s fun k2 d2 u2 h2 => ⟨d2, h2.seg, rfl, ?_⟩
 refine SAdd_s (h1.up u2) h2 (by decide) (by decide) fun k3 d3 u3 h3 => ⟨d3, h3.seg, rfl, fun k4 u4 => ?_⟩
 refine C k4 d3 ((((u0.trans u1).trans u2).trans u3).trans u4) (SurdV.cut (K := 2 * 1 + 1) (cast4 (h3.up u4) (by decide +kernel)) (by decide +kernel))
theorem xcos_s {n : Nat} (hn : n < 24) (C : ∀ k' ds, Up k k' → SurdV k' ds (cosQ n) 1 → R k' (.agg ds)) :
   ∀ k0, Up k k0 → CallsG Tryz.prog 164 #[.int .i64 (n : Int)] k0 R := by
 match n, hn with
 | 0, _ => exact xcos0_s C
 | 1, _ => exact xcos1_s C
 | 2, _ => exact xcos2_s C
 | 3, _ => exact xcos3_s C
 | 4, _ => exact xcos4_s C
 | 5, _ => exact xcos5_s C
 | 6, _ => exact xcos6_s C
 | 7, _ => exact xcos7_s C
 | 8, _ => exact xcos8_s C
 | 9, _ => exact xcos9_s C
 | 10, _ => exact xcos10_s C
 | 11, _ => exact xcos11_s C
 | 12, _ => exact xcos12_s C
 | 13, _ => exact xcos13_s C
 | 14, _ => exact xcos14_s C
 | 15, _ => exact xcos15_s C
 | 16, _ => exact xcos16_s C
 | 17, _ => exact xcos17_s C
 | 18, _ => exact xcos18_s C
 | 19, _ => exact xcos19_s C
 | 20, _ => exact xcos20_s C
 | 21, _ => exact xcos21_s C
 | 22, _ => exact xcos22_s C
 | 23, _ => exact xcos23_s C
 | n + 24, h => exact absurd h (by omega)
theorem plc_eq {n : Int} : Int.tmod (IntKind.wrap .i64 ((Int.tmod n 24) + 24)) 24 = (plc n : Int) := by
 have h : Int.tmod n 24 = n % 24 ∨ Int.tmod n 24 = n % 24 - 24 := by
   rw [Int.tmod_eq_emod]
   split
   · left; omega
   · right; rfl
 have hw : IntKind.wrap .i64 ((Int.tmod n 24) + 24) = Int.tmod n 24 + 24 := by rw [IntKind.wrap_i64]; omega
 rw [hw, Int.tmod_eq_emod_of_nonneg (by omega)]
 unfold plc
 omega
theorem place_s {n : Int} (C : ∀ k', Up k k' → R k' (.int .i64 (plc n : Int))) :
   ∀ k0, Up k k0 → CallsG Tryz.prog 163 #[.int .i64 n] k0 R := by
 intro k0 u0
 refine place_vc fun k1 u1 => ?_
 rw [plc_eq]
 exact C k1 (u0.trans u1)
theorem plc_back {m : Nat} (h : m < 24) : plc (IntKind.wrap .i64 ((m : Int) - 6)) = (m + 18) % 24 := by
 have hw : IntKind.wrap .i64 ((m : Int) - 6) = (m : Int) - 6 := by rw [IntKind.wrap_i64]; omega
 rw [hw]
 unfold plc
 omega
theorem xturn_s {n : Int} (C : ∀ k' ds, Up k k' → WaveV k' ds (turnW (plc n)) 1 → R k' (.agg ds)) :
   ∀ k0, Up k k0 → CallsG Tryz.prog 92 #[.int .i64 n] k0 R := by
 intro k0 u0
 have hl := plc_lt n
 refine xTurn_vc (place_s fun k1 u1 => ⟨_, rfl, ?_⟩)
 refine xcos_s hl fun k2 d2 u2 h2 => ⟨d2, h2.seg, rfl, ?_⟩
 have e := plc_back hl
 refine place_s fun k3 u3 => ⟨_, rfl, ?_⟩
 rw [e]
 refine xcos_s (Nat.mod_lt _ (by decide)) fun k4 d4 u4 h4 => ⟨d4, h4.seg, rfl, fun k5 u5 => ?_⟩
 exact C k5 _ (((((u0.trans u1).trans u2).trans u3).trans u4).trans u5) ⟨d2, d4, rfl, ((h2.up u3).up u4).up u5, h4.up u5⟩
end
end Go.Proofs.YtpjakokgmgggiaaGreat

/- Turns of the reference. (Printed by gen/turnz.py.) -/
namespace Go.Proofs.YtpjakokgmgggiaaGreat.W32
open Go.RowKit Num
open Sy (Up Sees CallsG Seg)
section
variable {k k' : World} {cs cs' c0 c1 : Array Value} {R : World → Value → Prop} {v v' : Q4} {x y : W4} {K L : Nat}
theorem in64s {z : Int} (h : z.natAbs ≤ 100) : In64 z := ⟨by omega, by omega⟩
theorem rcos0_v (C : ∀ k' ds, Up k k' → SQ k' ds (cosQ 0) 2 → R k' (.agg ds)) :
   ∀ k0, Up k k0 → CallsG Tryz.prog 165 #[.int .i64 0] k0 R := by
 intro k0 u0
 refine rcos0_vc (new_v (in64s (by decide)) (in64s (by decide)) fun k1 d1 u1 h1 => ⟨d1, h1.seg, _, rfl, ?_⟩)
 refine new_v (in64s (by decide)) (in64s (by decide)) fun k2 d2 u2 h2 => ⟨d2, h2.seg, _, rfl, ?_⟩
 refine new_v (in64s (by decide)) (in64s (by decide)) fun k3 d3 u3 h3 => ⟨d3, h3.seg, _, rfl, ?_⟩
 refine new_v (in64s (by decide)) (in64s (by decide)) fun k4 d4 u4 h4 => ⟨d4, h4.seg, _, rfl, fun k9 u9 => ?_⟩
 exact C k9 _ (((((u0.trans u1).trans u2).trans u3).trans u4).trans u9) ⟨d1, d2, d3, d4, rfl, ((((h1.up u2).up u3).up u4).up u9).cast (by decide +kernel), (((h2.up u3).up u4).up u9).cast (by decide +kernel), ((h3.up u4).up u9).cast (by decide +kernel), (h4.up u9).cast (by decide +kernel)⟩
theorem rcos1_v (C : ∀ k' ds, Up k k' → SQ k' ds (cosQ 1) 2 → R k' (.agg ds)) :
   ∀ k0, Up k k0 → CallsG Tryz.prog 165 #[.int .i64 1] k0 R := by
 intro k0 u0
 refine rcos1_vc (new_v (in64s (by decide)) (in64s (by decide)) fun k1 d1 u1 h1 => ⟨d1, h1.seg, _, rfl, ?_⟩)
 refine new_v (in64s (by decide)) (in64s (by decide)) fun k2 d2 u2 h2 => ⟨d2, h2.seg, _, rfl, ?_⟩
 refine new_v (in64s (by decide)) (in64s (by decide)) fun k3 d3 u3 h3 => ⟨d3, h3.seg, _, rfl, ?_⟩
 refine new_v (in64s (by decide)) (in64s (by decide)) fun k4 d4 u4 h4 => ⟨d4, h4.seg, _, rfl, fun k9 u9 => ?_⟩
 exact C k9 _ (((((u0.trans u1).trans u2).trans u3).trans u4).trans u9) ⟨d1, d2, d3, d4, rfl, ((((h1.up u2).up u3).up u4).up u9).cast (by decide +kernel), (((h2.up u3).up u4).up u9).cast (by decide +kernel), ((h3.up u4).up u9).cast (by decide +kernel), (h4.up u9).cast (by decide +kernel)⟩
theorem rcos2_v (C : ∀ k' ds, Up k k' → SQ k' ds (cosQ 2) 2 → R k' (.agg ds)) :
   ∀ k0, Up k k0 → CallsG Tryz.prog 165 #[.int .i64 2] k0 R := by
 intro k0 u0
 refine rcos2_vc (new_v (in64s (by decide)) (in64s (by decide)) fun k1 d1 u1 h1 => ⟨d1, h1.seg, _, rfl, ?_⟩)
 refine new_v (in64s (by decide)) (in64s (by decide)) fun k2 d2 u2 h2 => ⟨d2, h2.seg, _, rfl, ?_⟩
 refine new_v (in64s (by decide)) (in64s (by decide)) fun k3 d3 u3 h3 => ⟨d3, h3.seg, _, rfl, ?_⟩
 refine new_v (in64s (by decide)) (in64s (by decide)) fun k4 d4 u4 h4 => ⟨d4, h4.seg, _, rfl, fun k9 u9 => ?_⟩
 exact C k9 _ (((((u0.trans u1).trans u2).trans u3).trans u4).trans u9) ⟨d1, d2, d3, d4, rfl, ((((h1.up u2).up u3).up u4).up u9).cast (by decide +kernel), (((h2.up u3).up u4).up u9).cast (by decide +kernel), ((h3.up u4).up u9).cast (by decide +kernel), (h4.up u9).cast (by decide +kernel)⟩
theorem rcos3_v (C : ∀ k' ds, Up k k' → SQ k' ds (cosQ 3) 2 → R k' (.agg ds)) :
   ∀ k0, Up k k0 → CallsG Tryz.prog 165 #[.int .i64 3] k0 R := by
 intro k0 u0
 refine rcos3_vc (new_v (in64s (by decide)) (in64s (by decide)) fun k1 d1 u1 h1 => ⟨d1, h1.seg, _, rfl, ?_⟩)
 refine new_v (in64s (by decide)) (in64s (by decide)) fun k2 d2 u2 h2 => ⟨d2, h2.seg, _, rfl, ?_⟩
 refine new_v (in64s (by decide)) (in64s (by decide)) fun k3 d3 u3 h3 => ⟨d3, h3.seg, _, rfl, ?_⟩
 refine new_v (in64s (by decide)) (in64s (by decide)) fun k4 d4 u4 h4 => ⟨d4, h4.seg, _, rfl, fun k9 u9 => ?_⟩
 exact C k9 _ (((((u0.trans u1).trans u2).trans u3).trans u4).trans u9) ⟨d1, d2, d3, d4, rfl, ((((h1.up u2).up u3).up u4).up u9).cast (by decide +kernel), (((h2.up u3).up u4).up u9).cast (by decide +kernel), ((h3.up u4).up u9).cast (by decide +kernel), (h4.up u9).cast (by decide +kernel)⟩
theorem rcos4_v (C : ∀ k' ds, Up k k' → SQ k' ds (cosQ 4) 2 → R k' (.agg ds)) :
   ∀ k0, Up k k0 → CallsG Tryz.prog 165 #[.int .i64 4] k0 R := by
 intro k0 u0
 refine rcos4_vc (new_v (in64s (by decide)) (in64s (by decide)) fun k1 d1 u1 h1 => ⟨d1, h1.seg, _, rfl, ?_⟩)
 refine new_v (in64s (by decide)) (in64s (by decide)) fun k2 d2 u2 h2 => ⟨d2, h2.seg, _, rfl, ?_⟩
 refine new_v (in64s (by decide)) (in64s (by decide)) fun k3 d3 u3 h3 => ⟨d3, h3.seg, _, rfl, ?_⟩
 refine new_v (in64s (by decide)) (in64s (by decide)) fun k4 d4 u4 h4 => ⟨d4, h4.seg, _, rfl, fun k9 u9 => ?_⟩
 exact C k9 _ (((((u0.trans u1).trans u2).trans u3).trans u4).trans u9) ⟨d1, d2, d3, d4, rfl, ((((h1.up u2).up u3).up u4).up u9).cast (by decide +kernel), (((h2.up u3).up u4).up u9).cast (by decide +kernel), ((h3.up u4).up u9).cast (by decide +kernel), (h4.up u9).cast (by decide +kernel)⟩
theorem rcos5_v (C : ∀ k' ds, Up k k' → SQ k' ds (cosQ 5) 2 → R k' (.agg ds)) :
   ∀ k0, Up k k0 → CallsG Tryz.prog 165 #[.int .i64 5] k0 R := by
 intro k0 u0
 refine rcos5_vc (new_v (in64s (by decide)) (in64s (by decide)) fun k1 d1 u1 h1 => ⟨d1, h1.seg, _, rfl, ?_⟩)
 refine new_v (in64s (by decide)) (in64s (by decide)) fun k2 d2 u2 h2 => ⟨d2, h2.seg, _, rfl, ?_⟩
 refine new_v (in64s (by decide)) (in64s (by decide)) fun k3 d3 u3 h3 => ⟨d3, h3.seg, _, rfl, ?_⟩
 refine new_v (in64s (by decide)) (in64s (by decide)) fun k4 d4 u4 h4 => ⟨d4, h4.seg, _, rfl, fun k9 u9 => ?_⟩
 exact C k9 _ (((((u0.trans u1).trans u2).trans u3).trans u4).trans u9) ⟨d1, d2, d3, d4, rfl, ((((h1.up u2).up u3).up u4).up u9).cast (by decide +kernel), (((h2.up u3).up u4).up u9).cast (by decide +kernel), ((h3.up u4).up u9).cast (by decide +kernel), (h4.up u9).cast (by decide +kernel)⟩
theorem rcos6_v (C : ∀ k' ds, Up k k' → SQ k' ds (cosQ 6) 2 → R k' (.agg ds)) :
   ∀ k0, Up k k0 → CallsG Tryz.prog 165 #[.int .i64 6] k0 R := by
 intro k0 u0
 refine rcos6_vc (new_v (in64s (by decide)) (in64s (by decide)) fun k1 d1 u1 h1 => ⟨d1, h1.seg, _, rfl, ?_⟩)
 refine new_v (in64s (by decide)) (in64s (by decide)) fun k2 d2 u2 h2 => ⟨d2, h2.seg, _, rfl, ?_⟩
 refine new_v (in64s (by decide)) (in64s (by decide)) fun k3 d3 u3 h3 => ⟨d3, h3.seg, _, rfl, ?_⟩
 refine new_v (in64s (by decide)) (in64s (by decide)) fun k4 d4 u4 h4 => ⟨d4, h4.seg, _, rfl, fun k9 u9 => ?_⟩
 exact C k9 _ (((((u0.trans u1).trans u2).trans u3).trans u4).trans u9) ⟨d1, d2, d3, d4, rfl, ((((h1.up u2).up u3).up u4).up u9).cast (by decide +kernel), (((h2.up u3).up u4).up u9).cast (by decide +kernel), ((h3.up u4).up u9).cast (by decide +kernel), (h4.up u9).cast (by decide +kernel)⟩
theorem rcos7_v (C : ∀ k' ds, Up k k' → SQ k' ds (cosQ 7) 2 → R k' (.agg ds)) :
   ∀ k0, Up k k0 → CallsG Tryz.prog 165 #[.int .i64 7] k0 R := by
 intro k0 u0
 refine rcos7_vc (rcos5_v fun k1 d1 u1 h1 => ?_)
 have h1' := h1
 obtain ⟨a0, a1, a2, a3, rfl, q0, q1, q2, q3⟩ := h1'
 refine ⟨a0, q0.seg, a1, q1.seg, a2, q2.seg, a3, q3.seg, rfl, ?_⟩
 refine sneg_v h1 (by decide) fun k3 d3 u3 h3 => ?_
 have h3' := h3
 obtain ⟨b0, b1, b2, b3, rfl, r0, r1, r2, r3⟩ := h3'
 exact ⟨b0, r0.seg, b1, r1.seg, b2, r2.seg, b3, r3.seg, rfl, fun k4 u4 => C k4 _ (((u0.trans u1).trans u3).trans u4) (h3.up u4)⟩
theorem rcos8_v (C : ∀ k' ds, Up k k' → SQ k' ds (cosQ 8) 2 → R k' (.agg ds)) :
   ∀ k0, Up k k0 → CallsG Tryz.prog 165 #[.int .i64 8] k0 R := by
 intro k0 u0
 refine rcos8_vc (rcos4_v fun k1 d1 u1 h1 => ?_)
 have h1' := h1
 obtain ⟨a0, a1, a2, a3, rfl, q0, q1, q2, q3⟩ := h1'
 refine ⟨a0, q0.seg, a1, q1.seg, a2, q2.seg, a3, q3.seg, rfl, ?_⟩
 refine sneg_v h1 (by decide) fun k3 d3 u3 h3 => ?_
 have h3' := h3
 obtain ⟨b0, b1, b2, b3, rfl, r0, r1, r2, r3⟩ := h3'
 exact ⟨b0, r0.seg, b1, r1.seg, b2, r2.seg, b3, r3.seg, rfl, fun k4 u4 => C k4 _ (((u0.trans u1).trans u3).trans u4) (h3.up u4)⟩
theorem rcos9_v (C : ∀ k' ds, Up k k' → SQ k' ds (cosQ 9) 2 → R k' (.agg ds)) :
   ∀ k0, Up k k0 → CallsG Tryz.prog 165 #[.int .i64 9] k0 R := by
 intro k0 u0
 refine rcos9_vc (rcos3_v fun k1 d1 u1 h1 => ?_)
 have h1' := h1
 obtain ⟨a0, a1, a2, a3, rfl, q0, q1, q2, q3⟩ := h1'
 refine ⟨a0, q0.seg, a1, q1.seg, a2, q2.seg, a3, q3.seg, rfl, ?_⟩
 refine sneg_v h1 (by decide) fun k3 d3 u3 h3 => ?_
 have h3' := h3
 obtain ⟨b0, b1, b2, b3, rfl, r0, r1, r2, r3⟩ := h3'
 exact ⟨b0, r0.seg, b1, r1.seg, b2, r2.seg, b3, r3.seg, rfl, fun k4 u4 => C k4 _ (((u0.trans u1).trans u3).trans u4) (h3.up u4)⟩
theorem rcos10_v (C : ∀ k' ds, Up k k' → SQ k' ds (cosQ 10) 2 → R k' (.agg ds)) :
   ∀ k0, Up k k0 → CallsG Tryz.prog 165 #[.int .i64 10] k0 R := by
 intro k0 u0
 refine rcos10_vc (rcos2_v fun k1 d1 u1 h1 => ?_)
 have h1' := h1
 obtain ⟨a0, a1, a2, a3, rfl, q0, q1, q2, q3⟩ := h1'
 refine ⟨a0, q0.seg, a1, q1.seg, a2, q2.seg, a3, q3.seg, rfl, ?_⟩
 refine sneg_v h1 (by decide) fun k3 d3 u3 h3 => ?_
 have h3' := h3
 obtain ⟨b0, b1, b2, b3, rfl, r0, r1, r2, r3⟩ := h3'
 exact ⟨b0, r0.seg, b1, r1.seg, b2, r2.seg, b3, r3.seg, rfl, fun k4 u4 => C k4 _ (((u0.trans u1).trans u3).trans u4) (h3.up u4)⟩
theorem rcos11_v (C : ∀ k' ds, Up k k' → SQ k' ds (cosQ 11) 2 → R k' (.agg ds)) :
   ∀ k0, Up k k0 → CallsG Tryz.prog 165 #[.int .i64 11] k0 R := by
 intro k0 u0
 refine rcos11_vc (rcos1_v fun k1 d1 u1 h1 => ?_)
 have h1' := h1
 obtain ⟨a0, a1, a2, a3, rfl, q0, q1, q2, q3⟩ := h1'
 refine ⟨a0, q0.seg, a1, q1.seg, a2, q2.seg, a3, q3.seg, rfl, ?_⟩
 refine sneg_v h1 (by decide) fun k3 d3 u3 h3 => ?_
 have h3' := h3
 obtain ⟨b0, b1, b2, b3, rfl, r0, r1, r2, r3⟩ := h3'
 exact ⟨b0, r0.seg, b1, r1.seg, b2, r2.seg, b3, r3.seg, rfl, fun k4 u4 => C k4 _ (((u0.trans u1).trans u3).trans u4) (h3.up u4)⟩
theorem rcos12_v (C : ∀ k' ds, Up k k' → SQ k' ds (cosQ 12) 2 → R k' (.agg ds)) :
   ∀ k0, Up k k0 → CallsG Tryz.prog 165 #[.int .i64 12] k0 R := by
 intro k0 u0
 refine rcos12_vc (rcos0_v fun k1 d1 u1 h1 => ?_)
 have h1' := h1
 obtain ⟨a0, a1, a2, a3, rfl, q0, q1, q2, q3⟩ := h1'
 refine ⟨a0, q0.seg, a1, q1.seg, a2, q2.seg, a3, q3.seg, rfl, ?_⟩
 refine sneg_v h1 (by decide) fun k3 d3 u3 h3 => ?_
 have h3' := h3
 obtain ⟨b0, b1, b2, b3, rfl, r0, r1, r2, r3⟩ := h3'
 exact ⟨b0, r0.seg, b1, r1.seg, b2, r2.seg, b3, r3.seg, rfl, fun k4 u4 => C k4 _ (((u0.trans u1).trans u3).trans u4) (h3.up u4)⟩
theorem rcos13_v (C : ∀ k' ds, Up k k' → SQ k' ds (cosQ 13) 2 → R k' (.agg ds)) :
   ∀ k0, Up k k0 → CallsG Tryz.prog 165 #[.int .i64 13] k0 R := by
 intro k0 u0
 refine rcos13_vc (rcos1_v fun k1 d1 u1 h1 => ?_)
 have h1' := h1
 obtain ⟨a0, a1, a2, a3, rfl, q0, q1, q2, q3⟩ := h1'
 refine ⟨a0, q0.seg, a1, q1.seg, a2, q2.seg, a3, q3.seg, rfl, ?_⟩
 refine sneg_v h1 (by decide) fun k3 d3 u3 h3 => ?_
 have h3' := h3
 obtain ⟨b0, b1, b2, b3, rfl, r0, r1, r2, r3⟩ := h3'
 exact ⟨b0, r0.seg, b1, r1.seg, b2, r2.seg, b3, r3.seg, rfl, fun k4 u4 => C k4 _ (((u0.trans u1).trans u3).trans u4) (h3.up u4)⟩
theorem rcos14_v (C : ∀ k' ds, Up k k' → SQ k' ds (cosQ 14) 2 → R k' (.agg ds)) :
   ∀ k0, Up k k0 → CallsG Tryz.prog 165 #[.int .i64 14] k0 R := by
 intro k0 u0
 refine rcos14_vc (rcos2_v fun k1 d1 u1 h1 => ?_)
 have h1' := h1
 obtain ⟨a0, a1, a2, a3, rfl, q0, q1, q2, q3⟩ := h1'
 refine ⟨a0, q0.seg, a1, q1.seg, a2, q2.seg, a3, q3.seg, rfl, ?_⟩
 refine sneg_v h1 (by decide) fun k3 d3 u3 h3 => ?_
 have h3' := h3
 obtain ⟨b0, b1, b2, b3, rfl, r0, r1, r2, r3⟩ := h3'
 exact ⟨b0, r0.seg, b1, r1.seg, b2, r2.seg, b3, r3.seg, rfl, fun k4 u4 => C k4 _ (((u0.trans u1).trans u3).trans u4) (h3.up u4)⟩
theorem rcos15_v (C : ∀ k' ds, Up k k' → SQ k' ds (cosQ 15) 2 → R k' (.agg ds)) :
   ∀ k0, Up k k0 → CallsG Tryz.prog 165 #[.int .i64 15] k0 R := by
 intro k0 u0
 refine rcos15_vc (rcos3_v fun k1 d1 u1 h1 => ?_)
 have h1' := h1
 obtain ⟨a0, a1, a2, a3, rfl, q0, q1, q2, q3⟩ := h1'
 refine ⟨a0, q0.seg, a1, q1.seg, a2, q2.seg, a3, q3.seg, rfl, ?_⟩
 refine sneg_v h1 (by decide) fun k3 d3 u3 h3 => ?_
 have h3' := h3
 obtain ⟨b0, b1, b2, b3, rfl, r0, r1, r2, r3⟩ := h3'
 exact ⟨b0, r0.seg, b1, r1.seg, b2, r2.seg, b3, r3.seg, rfl, fun k4 u4 => C k4 _ (((u0.trans u1).trans u3).trans u4) (h3.up u4)⟩
theorem rcos16_v (C : ∀ k' ds, Up k k' → SQ k' ds (cosQ 16) 2 → R k' (.agg ds)) :
   ∀ k0, Up k k0 → CallsG Tryz.prog 165 #[.int .i64 16] k0 R := by
 intro k0 u0
 refine rcos16_vc (rcos4_v fun k1 d1 u1 h1 => ?_)
 have h1' := h1
 obtain ⟨a0, a1, a2, a3, rfl, q0, q1, q2, q3⟩ := h1'
 refine ⟨a0, q0.seg, a1, q1.seg, a2, q2.seg, a3, q3.seg, rfl, ?_⟩
 refine sneg_v h1 (by decide) fun k3 d3 u3 h3 => ?_
 have h3' := h3
 obtain ⟨b0, b1, b2, b3, rfl, r0, r1, r2, r3⟩ := h3'
 exact ⟨b0, r0.seg, b1, r1.seg, b2, r2.seg, b3, r3.seg, rfl, fun k4 u4 => C k4 _ (((u0.trans u1).trans u3).trans u4) (h3.up u4)⟩
theorem rcos17_v (C : ∀ k' ds, Up k k' → SQ k' ds (cosQ 17) 2 → R k' (.agg ds)) :
   ∀ k0, Up k k0 → CallsG Tryz.prog 165 #[.int .i64 17] k0 R := by
 intro k0 u0
 refine rcos17_vc (rcos5_v fun k1 d1 u1 h1 => ?_)
 have h1' := h1
 obtain ⟨a0, a1, a2, a3, rfl, q0, q1, q2, q3⟩ := h1'
 refine ⟨a0, q0.seg, a1, q1.seg, a2, q2.seg, a3, q3.seg, rfl, ?_⟩
 refine sneg_v h1 (by decide) fun k3 d3 u3 h3 => ?_
 have h3' := h3
 obtain ⟨b0, b1, b2, b3, rfl, r0, r1, r2, r3⟩ := h3'
 exact ⟨b0, r0.seg, b1, r1.seg, b2, r2.seg, b3, r3.seg, rfl, fun k4 u4 => C k4 _ (((u0.trans u1).trans u3).trans u4) (h3.up u4)⟩
theorem rcos18_v (C : ∀ k' ds, Up k k' → SQ k' ds (cosQ 18) 2 → R k' (.agg ds)) :
   ∀ k0, Up k k0 → CallsG Tryz.prog 165 #[.int .i64 18] k0 R := by
 intro k0 u0
 refine rcos18_vc (new_v (in64s (by decide)) (in64s (by decide)) fun k1 d1 u1 h1 => ⟨d1, h1.seg, _, rfl, ?_⟩)
 refine new_v (in64s (by decide)) (in64s (by decide)) fun k2 d2 u2 h2 => ⟨d2, h2.seg, _, rfl, ?_⟩
 refine new_v (in64s (by decide)) (in64s (by decide)) fun k3 d3 u3 h3 => ⟨d3, h3.seg, _, rfl, ?_⟩
 refine new_v (in64s (by decide)) (in64s (by decide)) fun k4 d4 u4 h4 => ⟨d4, h4.seg, _, rfl, fun k9 u9 => ?_⟩
 exact C k9 _ (((((u0.trans u1).trans u2).trans u3).trans u4).trans u9) ⟨d1, d2, d3, d4, rfl, ((((h1.up u2).up u3).up u4).up u9).cast (by decide +kernel), (((h2.up u3).up u4).up u9).cast (by decide +kernel), ((h3.up u4).up u9).cast (by decide +kernel), (h4.up u9).cast (by decide +kernel)⟩
theorem rcos19_v (C : ∀ k' ds, Up k k' → SQ k' ds (cosQ 19) 2 → R k' (.agg ds)) :
   ∀ k0, Up k k0 → CallsG Tryz.prog 165 #[.int .i64 19] k0 R := by
 intro k0 u0
 refine rcos19_vc (new_v (in64s (by decide)) (in64s (by decide)) fun k1 d1 u1 h1 => ⟨d1, h1.seg, _, rfl, ?_⟩)
 refine new_v (in64s (by decide)) (in64s (by decide)) fun k2 d2 u2 h2 => ⟨d2, h2.seg, _, rfl, ?_⟩
 refine new_v (in64s (by decide)) (in64s (by decide)) fun k3 d3 u3 h3 => ⟨d3, h3.seg, _, rfl, ?_⟩
 refine new_v (in64s (by decide)) (in64s (by decide)) fun k4 d4 u4 h4 => ⟨d4, h4.seg, _, rfl, fun k9 u9 => ?_⟩
 exact C k9 _ (((((u0.trans u1).trans u2).trans u3).trans u4).trans u9) ⟨d1, d2, d3, d4, rfl, ((((h1.up u2).up u3).up u4).up u9).cast (by decide +kernel), (((h2.up u3).up u4).up u9).cast (by decide +kernel), ((h3.up u4).up u9).cast (by decide +kernel), (h4.up u9).cast (by decide +kernel)⟩
theorem rcos20_v (C : ∀ k' ds, Up k k' → SQ k' ds (cosQ 20) 2 → R k' (.agg ds)) :
   ∀ k0, Up k k0 → CallsG Tryz.prog 165 #[.int .i64 20] k0 R := by
 intro k0 u0
 refine rcos20_vc (new_v (in64s (by decide)) (in64s (by decide)) fun k1 d1 u1 h1 => ⟨d1, h1.seg, _, rfl, ?_⟩)
 refine new_v (in64s (by decide)) (in64s (by decide)) fun k2 d2 u2 h2 => ⟨d2, h2.seg, _, rfl, ?_⟩
 refine new_v (in64s (by decide)) (in64s (by decide)) fun k3 d3 u3 h3 => ⟨d3, h3.seg, _, rfl, ?_⟩
 refine new_v (in64s (by decide)) (in64s (by decide)) fun k4 d4 u4 h4 => ⟨d4, h4.seg, _, rfl, fun k9 u9 => ?_⟩
 exact C k9 _ (((((u0.trans u1).trans u2).trans u3).trans u4).trans u9) ⟨d1, d2, d3, d4, rfl, ((((h1.up u2).up u3).up u4).up u9).cast (by decide +kernel), (((h2.up u3).up u4).up u9).cast (by decide +kernel), ((h3.up u4).up u9).cast (by decide +kernel), (h4.up u9).cast (by decide +kernel)⟩
theorem rcos21_v (C : ∀ k' ds, Up k k' → SQ k' ds (cosQ 21) 2 → R k' (.agg ds)) :
   ∀ k0, Up k k0 → CallsG Tryz.prog 165 #[.int .i64 21] k0 R := by
 intro k0 u0
 refine rcos21_vc (new_v (in64s (by decide)) (in64s (by decide)) fun k1 d1 u1 h1 => ⟨d1, h1.seg, _, rfl, ?_⟩)
 refine new_v (in64s (by decide)) (in64s (by decide)) fun k2 d2 u2 h2 => ⟨d2, h2.seg, _, rfl, ?_⟩
 refine new_v (in64s (by decide)) (in64s (by decide)) fun k3 d3 u3 h3 => ⟨d3, h3.seg, _, rfl, ?_⟩
 refine new_v (in64s (by decide)) (in64s (by decide)) fun k4 d4 u4 h4 => ⟨d4, h4.seg, _, rfl, fun k9 u9 => ?_⟩
 exact C k9 _ (((((u0.trans u1).trans u2).trans u3).trans u4).trans u9) ⟨d1, d2, d3, d4, rfl, ((((h1.up u2).up u3).up u4).up u9).cast (by decide +kernel), (((h2.up u3).up u4).up u9).cast (by decide +kernel), ((h3.up u4).up u9).cast (by decide +kernel), (h4.up u9).cast (by decide +kernel)⟩
theorem rcos22_v (C : ∀ k' ds, Up k k' → SQ k' ds (cosQ 22) 2 → R k' (.agg ds)) :
   ∀ k0, Up k k0 → CallsG Tryz.prog 165 #[.int .i64 22] k0 R := by
 intro k0 u0
 refine rcos22_vc (new_v (in64s (by decide)) (in64s (by decide)) fun k1 d1 u1 h1 => ⟨d1, h1.seg, _, rfl, ?_⟩)
 refine new_v (in64s (by decide)) (in64s (by decide)) fun k2 d2 u2 h2 => ⟨d2, h2.seg, _, rfl, ?_⟩
 refine new_v (in64s (by decide)) (in64s (by decide)) fun k3 d3 u3 h3 => ⟨d3, h3.seg, _, rfl, ?_⟩
 refine new_v (in64s (by decide)) (in64s (by decide)) fun k4 d4 u4 h4 => ⟨d4, h4.seg, _, rfl, fun k9 u9 => ?_⟩
 exact C k9 _ (((((u0.trans u1).trans u2).trans u3).trans u4).trans u9) ⟨d1, d2, d3, d4, rfl, ((((h1.up u2).up u3).up u4).up u9).cast (by decide +kernel), (((h2.up u3).up u4).up u9).cast (by decide +kernel), ((h3.up u4).up u9).cast (by decide +kernel), (h4.up u9).cast (by decide +kernel)⟩
theorem rcos23_v (C : ∀ k' ds, Up k k' → SQ k' ds (cosQ 23) 2 → R k' (.agg ds)) :
   ∀ k0, Up k k0 → CallsG Tryz.prog 165 #[.int .i64 23] k0 R := by
 intro k0 u0
 refine rcos23_vc (new_v (in64s (by decide)) (in64s (by decide)) fun k1 d1 u1 h1 => ⟨d1, h1.seg, _, rfl, ?_⟩)
 refine new_v (in64s (by decide)) (in64s (by decide)) fun k2 d2 u2 h2 => ⟨d2, h2.seg, _, rfl, ?_⟩
 refine new_v (in64s (by decide)) (in64s (by decide)) fun k3 d3 u3 h3 => ⟨d3, h3.seg, _, rfl, ?_⟩
 refine new_v (in64s (by decide)) (in64s (by decide)) fun k4 d4 u4 h4 => ⟨d4, h4.seg, _, rfl, fun k9 u9 => ?_⟩
 exact C k9 _ (((((u0.trans u1).trans u2).trans u3).trans u4).trans u9) ⟨d1, d2, d3, d4, rfl, ((((h1.up u2).up u3).up u4).up u9).cast (by decide +kernel), (((h2.up u3).up u4).up u9).cast (by decide +kernel), ((h3.up u4).up u9).cast (by decide +kernel), (h4.up u9).cast (by decide +kernel)⟩
theorem rcos_v {n : Nat} (hn : n < 24) (C : ∀ k' ds, Up k k' → SQ k' ds (cosQ n) 2 → R k' (.agg ds)) :
   ∀ k0, Up k k0 → CallsG Tryz.prog 165 #[.int .i64 (n : Int)] k0 R := by
 match n, hn with
 | 0, _ => exact rcos0_v C
 | 1, _ => exact rcos1_v C
 | 2, _ => exact rcos2_v C
 | 3, _ => exact rcos3_v C
 | 4, _ => exact rcos4_v C
 | 5, _ => exact rcos5_v C
 | 6, _ => exact rcos6_v C
 | 7, _ => exact rcos7_v C
 | 8, _ => exact rcos8_v C
 | 9, _ => exact rcos9_v C
 | 10, _ => exact rcos10_v C
 | 11, _ => exact rcos11_v C
 | 12, _ => exact rcos12_v C
 | 13, _ => exact rcos13_v C
 | 14, _ => exact rcos14_v C
 | 15, _ => exact rcos15_v C
 | 16, _ => exact rcos16_v C
 | 17, _ => exact rcos17_v C
 | 18, _ => exact rcos18_v C
 | 19, _ => exact rcos19_v C
 | 20, _ => exact rcos20_v C
 | 21, _ => exact rcos21_v C
 | 22, _ => exact rcos22_v C
 | 23, _ => exact rcos23_v C
 | n + 24, h => exact absurd h (by omega)
theorem rturn_v {n : Int} (C : ∀ k' ds, Up k k' → WQ k' ds (turnW (plc n)) 2 → R k' (.agg ds)) :
   ∀ k0, Up k k0 → CallsG Tryz.prog 93 #[.int .i64 n] k0 R := by
 intro k0 u0
 have hl := plc_lt n
 have e : Int.tmod (IntKind.wrap .i64 ((plc n : Int) + 18)) 24 = (((plc n + 18) % 24 : Nat) : Int) := by
   generalize plc n = m at hl ⊢
   rw [IntKind.wrap_i64, Int.tmod_eq_emod_of_nonneg (by omega)]
   omega
 refine rTurn_vc ?_
 rw [plc_eq, e]
 refine rcos_v hl fun k2 d2 u2 h2 => ⟨d2, h2.seg, rfl, ?_⟩
 refine rcos_v (Nat.mod_lt _ (by decide)) fun k4 d4 u4 h4 => ⟨d4, h4.seg, rfl, fun k5 u5 => ?_⟩
 exact C k5 _ (((u0.trans u2).trans u4).trans u5) ⟨d2, d4, rfl, (h2.up u4).up u5, h4.up u5⟩
end
end Go.Proofs.YtpjakokgmgggiaaGreat.W32

/- What is to be shown of the calls of some functions. (Printed by gen/vc.py.) -/
namespace Go.Proofs.YtpjakokgmgggiaaGreat
open Go.RowKit
open Sy (Up Sees CallsG Seg execFn_use)
set_option maxRecDepth 100000
variable {k : World} {R : World → Value → Prop}
end Go.Proofs.YtpjakokgmgggiaaGreat

/- Laws of layer 1: a fraction is the reference's; plain data. -/
namespace Go.Proofs.YtpjakokgmgggiaaGreat
open Go.RowKit Num W32
open Sy (Up Sees CallsG)
section
variable {k k' : World} {R : World → Value → Prop} {x y q : Rat} {K L : Nat} {cs cs' : Array Value} {g : Bool} {A A' : Option Addr} {l c l' c' : Nat}
end
end Go.Proofs.YtpjakokgmgggiaaGreat

/- What is to be shown of the calls of some functions. (Printed by gen/vc.py.) -/
namespace Go.Proofs.YtpjakokgmgggiaaGreat
open Go.RowKit
open Sy (Up Sees CallsG Seg execFn_use)
set_option maxRecDepth 100000
variable {k : World} {R : World → Value → Prop}
theorem rsText_vc {cs0 cs1 cs2 cs3 : Array Value} (hcs0 : Seg 3 cs0) (hcs1 : Seg 3 cs1) (hcs2 : Seg 3 cs2) (hcs3 : Seg 3 cs3)
    (h : ∃ I0 : Nat → World → List Value → Prop, (∃ m0, ∀ k0, Up k k0 → I0 m0 k0 [Value.string ⟨#[]⟩, Value.int .i64 0]) ∧
 ∀ m0 k0 vs0, Up k k0 → I0 m0 k0 vs0 → ∃ s4, ∃ n5, some [Value.string s4, Value.int .i64 n5] = some vs0 ∧
 (((n5 : Int) == 0) = true →
 (∀ k1, Up k0 k1 → CallsG Tryz.prog 79 #[Value.agg cs0] k1 fun k2 r1 => ∃ b6, some (Value.bool b6) = some r1 ∧
 (b6 = true →
 (∀ k3, Up k2 k3 → ∃ m, m < m0 ∧ I0 m k3 [Value.string s4, Value.int .i64 1])) ∧
 (b6 = false →
 (((!(ByteArray.toList s4 == ByteArray.toList ⟨#[]⟩)) = true →
 (∀ k4, Up k2 k4 → CallsG Tryz.prog 146 #[Value.agg cs0] k4 fun k5 r4 => ∃ n7, some (Value.int .i64 n7) = some r4 ∧
 ((decide ((n7 : Int) > 0)) = true →
 ((decide (((ByteArray.size s4 + ByteArray.size ⟨#[43]⟩ : Nat) : Int) ≤ 9223372036854775807)) = true ∧
 (∀ k6, Up k5 k6 → CallsG Tryz.prog 138 #[Value.agg cs0] k6 fun k7 r6 => ∃ s8, some (Value.string s8) = some r6 ∧
 (decide (((ByteArray.size (s4 ++ ⟨#[43]⟩) + ByteArray.size s8 : Nat) : Int) ≤ 9223372036854775807)) = true ∧
 ((decide (((ByteArray.size ((s4 ++ ⟨#[43]⟩) ++ s8) + ByteArray.size ⟨#[]⟩ : Nat) : Int) ≤ 9223372036854775807)) = true ∧
 (∀ k8, Up k7 k8 → ∃ m, m < m0 ∧ I0 m k8 [Value.string (((s4 ++ ⟨#[43]⟩) ++ s8) ++ ⟨#[]⟩), Value.int .i64 1]))))) ∧
 ((decide ((n7 : Int) > 0)) = false →
 (∀ k9, Up k5 k9 → CallsG Tryz.prog 138 #[Value.agg cs0] k9 fun k10 r9 => ∃ s8, some (Value.string s8) = some r9 ∧
 (decide (((ByteArray.size s4 + ByteArray.size s8 : Nat) : Int) ≤ 9223372036854775807)) = true ∧
 ((decide (((ByteArray.size (s4 ++ s8) + ByteArray.size ⟨#[]⟩ : Nat) : Int) ≤ 9223372036854775807)) = true ∧
 (∀ k11, Up k10 k11 → ∃ m, m < m0 ∧ I0 m k11 [Value.string ((s4 ++ s8) ++ ⟨#[]⟩), Value.int .i64 1])))))) ∧
 ((!(ByteArray.toList s4 == ByteArray.toList ⟨#[]⟩)) = false →
 (∀ k12, Up k2 k12 → CallsG Tryz.prog 138 #[Value.agg cs0] k12 fun k13 r12 => ∃ s7, some (Value.string s7) = some r12 ∧
 (decide (((ByteArray.size s4 + ByteArray.size s7 : Nat) : Int) ≤ 9223372036854775807)) = true ∧
 ((decide (((ByteArray.size (s4 ++ s7) + ByteArray.size ⟨#[]⟩ : Nat) : Int) ≤ 9223372036854775807)) = true ∧
 (∀ k14, Up k13 k14 → ∃ m, m < m0 ∧ I0 m k14 [Value.string ((s4 ++ s7) ++ ⟨#[]⟩), Value.int .i64 1])))))))) ∧
 (((n5 : Int) == 0) = false →
 ((((n5 : Int) == 1) = true →
 (∀ k15, Up k0 k15 → CallsG Tryz.prog 79 #[Value.agg cs1] k15 fun k16 r15 => ∃ b6, some (Value.bool b6) = some r15 ∧
 (b6 = true →
 (∀ k17, Up k16 k17 → ∃ m, m < m0 ∧ I0 m k17 [Value.string s4, Value.int .i64 2])) ∧
 (b6 = false →
 (((!(ByteArray.toList s4 == ByteArray.toList ⟨#[]⟩)) = true →
 (∀ k18, Up k16 k18 → CallsG Tryz.prog 146 #[Value.agg cs1] k18 fun k19 r18 => ∃ n7, some (Value.int .i64 n7) = some r18 ∧
 ((decide ((n7 : Int) > 0)) = true →
 ((decide (((ByteArray.size s4 + ByteArray.size ⟨#[43]⟩ : Nat) : Int) ≤ 9223372036854775807)) = true ∧
 (∀ k20, Up k19 k20 → CallsG Tryz.prog 138 #[Value.agg cs1] k20 fun k21 r20 => ∃ s8, some (Value.string s8) = some r20 ∧
 (decide (((ByteArray.size (s4 ++ ⟨#[43]⟩) + ByteArray.size s8 : Nat) : Int) ≤ 9223372036854775807)) = true ∧
 ((decide (((ByteArray.size ((s4 ++ ⟨#[43]⟩) ++ s8) + ByteArray.size ⟨#[114, 50]⟩ : Nat) : Int) ≤ 9223372036854775807)) = true ∧
 (∀ k22, Up k21 k22 → ∃ m, m < m0 ∧ I0 m k22 [Value.string (((s4 ++ ⟨#[43]⟩) ++ s8) ++ ⟨#[114, 50]⟩), Value.int .i64 2]))))) ∧
 ((decide ((n7 : Int) > 0)) = false →
 (∀ k23, Up k19 k23 → CallsG Tryz.prog 138 #[Value.agg cs1] k23 fun k24 r23 => ∃ s8, some (Value.string s8) = some r23 ∧
 (decide (((ByteArray.size s4 + ByteArray.size s8 : Nat) : Int) ≤ 9223372036854775807)) = true ∧
 ((decide (((ByteArray.size (s4 ++ s8) + ByteArray.size ⟨#[114, 50]⟩ : Nat) : Int) ≤ 9223372036854775807)) = true ∧
 (∀ k25, Up k24 k25 → ∃ m, m < m0 ∧ I0 m k25 [Value.string ((s4 ++ s8) ++ ⟨#[114, 50]⟩), Value.int .i64 2])))))) ∧
 ((!(ByteArray.toList s4 == ByteArray.toList ⟨#[]⟩)) = false →
 (∀ k26, Up k16 k26 → CallsG Tryz.prog 138 #[Value.agg cs1] k26 fun k27 r26 => ∃ s7, some (Value.string s7) = some r26 ∧
 (decide (((ByteArray.size s4 + ByteArray.size s7 : Nat) : Int) ≤ 9223372036854775807)) = true ∧
 ((decide (((ByteArray.size (s4 ++ s7) + ByteArray.size ⟨#[114, 50]⟩ : Nat) : Int) ≤ 9223372036854775807)) = true ∧
 (∀ k28, Up k27 k28 → ∃ m, m < m0 ∧ I0 m k28 [Value.string ((s4 ++ s7) ++ ⟨#[114, 50]⟩), Value.int .i64 2])))))))) ∧
 (((n5 : Int) == 1) = false →
 ((((n5 : Int) == 2) = true →
 (∀ k29, Up k0 k29 → CallsG Tryz.prog 79 #[Value.agg cs2] k29 fun k30 r29 => ∃ b6, some (Value.bool b6) = some r29 ∧
 (b6 = true →
 (∀ k31, Up k30 k31 → ∃ m, m < m0 ∧ I0 m k31 [Value.string s4, Value.int .i64 3])) ∧
 (b6 = false →
 (((!(ByteArray.toList s4 == ByteArray.toList ⟨#[]⟩)) = true →
 (∀ k32, Up k30 k32 → CallsG Tryz.prog 146 #[Value.agg cs2] k32 fun k33 r32 => ∃ n7, some (Value.int .i64 n7) = some r32 ∧
 ((decide ((n7 : Int) > 0)) = true →
 ((decide (((ByteArray.size s4 + ByteArray.size ⟨#[43]⟩ : Nat) : Int) ≤ 9223372036854775807)) = true ∧
 (∀ k34, Up k33 k34 → CallsG Tryz.prog 138 #[Value.agg cs2] k34 fun k35 r34 => ∃ s8, some (Value.string s8) = some r34 ∧
 (decide (((ByteArray.size (s4 ++ ⟨#[43]⟩) + ByteArray.size s8 : Nat) : Int) ≤ 9223372036854775807)) = true ∧
 ((decide (((ByteArray.size ((s4 ++ ⟨#[43]⟩) ++ s8) + ByteArray.size ⟨#[114, 51]⟩ : Nat) : Int) ≤ 9223372036854775807)) = true ∧
 (∀ k36, Up k35 k36 → ∃ m, m < m0 ∧ I0 m k36 [Value.string (((s4 ++ ⟨#[43]⟩) ++ s8) ++ ⟨#[114, 51]⟩), Value.int .i64 3]))))) ∧
 ((decide ((n7 : Int) > 0)) = false →
 (∀ k37, Up k33 k37 → CallsG Tryz.prog 138 #[Value.agg cs2] k37 fun k38 r37 => ∃ s8, some (Value.string s8) = some r37 ∧
 (decide (((ByteArray.size s4 + ByteArray.size s8 : Nat) : Int) ≤ 9223372036854775807)) = true ∧
 ((decide (((ByteArray.size (s4 ++ s8) + ByteArray.size ⟨#[114, 51]⟩ : Nat) : Int) ≤ 9223372036854775807)) = true ∧
 (∀ k39, Up k38 k39 → ∃ m, m < m0 ∧ I0 m k39 [Value.string ((s4 ++ s8) ++ ⟨#[114, 51]⟩), Value.int .i64 3])))))) ∧
 ((!(ByteArray.toList s4 == ByteArray.toList ⟨#[]⟩)) = false →
 (∀ k40, Up k30 k40 → CallsG Tryz.prog 138 #[Value.agg cs2] k40 fun k41 r40 => ∃ s7, some (Value.string s7) = some r40 ∧
 (decide (((ByteArray.size s4 + ByteArray.size s7 : Nat) : Int) ≤ 9223372036854775807)) = true ∧
 ((decide (((ByteArray.size (s4 ++ s7) + ByteArray.size ⟨#[114, 51]⟩ : Nat) : Int) ≤ 9223372036854775807)) = true ∧
 (∀ k42, Up k41 k42 → ∃ m, m < m0 ∧ I0 m k42 [Value.string ((s4 ++ s7) ++ ⟨#[114, 51]⟩), Value.int .i64 3])))))))) ∧
 (((n5 : Int) == 2) = false →
 ((((n5 : Int) == 3) = true →
 (∀ k43, Up k0 k43 → CallsG Tryz.prog 79 #[Value.agg cs3] k43 fun k44 r43 => ∃ b6, some (Value.bool b6) = some r43 ∧
 (b6 = true →
 (∀ k45, Up k44 k45 → ∃ m, m < m0 ∧ I0 m k45 [Value.string s4, Value.int .i64 4])) ∧
 (b6 = false →
 (((!(ByteArray.toList s4 == ByteArray.toList ⟨#[]⟩)) = true →
 (∀ k46, Up k44 k46 → CallsG Tryz.prog 146 #[Value.agg cs3] k46 fun k47 r46 => ∃ n7, some (Value.int .i64 n7) = some r46 ∧
 ((decide ((n7 : Int) > 0)) = true →
 ((decide (((ByteArray.size s4 + ByteArray.size ⟨#[43]⟩ : Nat) : Int) ≤ 9223372036854775807)) = true ∧
 (∀ k48, Up k47 k48 → CallsG Tryz.prog 138 #[Value.agg cs3] k48 fun k49 r48 => ∃ s8, some (Value.string s8) = some r48 ∧
 (decide (((ByteArray.size (s4 ++ ⟨#[43]⟩) + ByteArray.size s8 : Nat) : Int) ≤ 9223372036854775807)) = true ∧
 ((decide (((ByteArray.size ((s4 ++ ⟨#[43]⟩) ++ s8) + ByteArray.size ⟨#[114, 54]⟩ : Nat) : Int) ≤ 9223372036854775807)) = true ∧
 (∀ k50, Up k49 k50 → ∃ m, m < m0 ∧ I0 m k50 [Value.string (((s4 ++ ⟨#[43]⟩) ++ s8) ++ ⟨#[114, 54]⟩), Value.int .i64 4]))))) ∧
 ((decide ((n7 : Int) > 0)) = false →
 (∀ k51, Up k47 k51 → CallsG Tryz.prog 138 #[Value.agg cs3] k51 fun k52 r51 => ∃ s8, some (Value.string s8) = some r51 ∧
 (decide (((ByteArray.size s4 + ByteArray.size s8 : Nat) : Int) ≤ 9223372036854775807)) = true ∧
 ((decide (((ByteArray.size (s4 ++ s8) + ByteArray.size ⟨#[114, 54]⟩ : Nat) : Int) ≤ 9223372036854775807)) = true ∧
 (∀ k53, Up k52 k53 → ∃ m, m < m0 ∧ I0 m k53 [Value.string ((s4 ++ s8) ++ ⟨#[114, 54]⟩), Value.int .i64 4])))))) ∧
 ((!(ByteArray.toList s4 == ByteArray.toList ⟨#[]⟩)) = false →
 (∀ k54, Up k44 k54 → CallsG Tryz.prog 138 #[Value.agg cs3] k54 fun k55 r54 => ∃ s7, some (Value.string s7) = some r54 ∧
 (decide (((ByteArray.size s4 + ByteArray.size s7 : Nat) : Int) ≤ 9223372036854775807)) = true ∧
 ((decide (((ByteArray.size (s4 ++ s7) + ByteArray.size ⟨#[114, 54]⟩ : Nat) : Int) ≤ 9223372036854775807)) = true ∧
 (∀ k56, Up k55 k56 → ∃ m, m < m0 ∧ I0 m k56 [Value.string ((s4 ++ s7) ++ ⟨#[114, 54]⟩), Value.int .i64 4])))))))) ∧
 (((n5 : Int) == 3) = false →
 ((((n5 : Int) == 4) = true →
 (((ByteArray.toList s4 == ByteArray.toList ⟨#[]⟩) = true →
 (∀ k57, Up k0 k57 → R k57 (Value.string ⟨#[48]⟩))) ∧
 ((ByteArray.toList s4 == ByteArray.toList ⟨#[]⟩) = false →
 (∀ k58, Up k0 k58 → R k58 (Value.string s4))))) ∧
 (((n5 : Int) == 4) = false →
 (False /- split -/))))))))))) :
    CallsG Tryz.prog 151 #[Value.agg (cs0.toList ++ (cs1.toList ++ (cs2.toList ++ (cs3.toList ++ ([]))))).toArray] k R :=
  execFn_use (cfg := { opq := [34], loops := [(0, [.tmp 3 false [.str], .tmp 5 false [.int .i64]])], splits := [(0, 5, [0, 1, 2, 3, 4])] }) (args := [.agg [.seg 0 3, .seg 1 3, .seg 2 3, .seg 3 3]]) (vals := [Value.agg cs0, Value.agg cs1, Value.agg cs2, Value.agg cs3]) (kinds := [.seg 3, .seg 3, .seg 3, .seg 3]) (by kernel_rfl) ⟨⟨cs0, rfl, hcs0⟩, ⟨⟨cs1, rfl, hcs1⟩, ⟨⟨cs2, rfl, hcs2⟩, ⟨⟨cs3, rfl, hcs3⟩, trivial⟩⟩⟩⟩ (by kernel_rfl) (by kernel_rfl) h
end Go.Proofs.YtpjakokgmgggiaaGreat

/- The reference's Surds: their texts. (Printed by gen/refs2.py.) -/
namespace Go.Proofs.YtpjakokgmgggiaaGreat.W32
open Go.RowKit Num
open Sy (Up Sees CallsG Seg)
section
variable {k k' : World} {cs cs' c0 c1 c2 c3 : Array Value} {R : World → Value → Prop} {x y q q' : Rat} {v v' : Q4} {K L : Nat}
theorem rtext_len (h : QV k cs q K) : (ratText q).length ≤ 20 * K + 4 := by
 obtain ⟨b, A, l, c, A', l', c', rfl, h, e1, e2⟩ := h
 have h1 := dec_short h.n
 have h2 := dec_short h.d
 unfold ratText
 rw [List.length_append, List.length_append]
 have h3 : (if q.num < 0 then [45] else ([] : List UInt8)).length ≤ 1 := by split <;> simp
 by_cases h4 : q.den = 1
 · rw [if_pos h4]; simp only [List.length_nil]; omega
 · rw [if_neg h4]; simp only [List.length_cons]; omega
theorem rbody_len (h0 : QV k c0 v.a K) (h1 : QV k c1 v.b K) (h2 : QV k c2 v.c K) (h3 : QV k c3 v.d K) (j : Nat) : (body v j).length ≤ 80 * K + 26 := by
 have e0 := rtext_len h0
 have e1 := rtext_len h1
 have e2 := rtext_len h2
 have e3 := rtext_len h3
 have f1 := addPart_len [] v.a []
 have f2 := addPart_len (addPart [] v.a []) v.b [114, 50]
 have f3 := addPart_len (addPart (addPart [] v.a []) v.b [114, 50]) v.c [114, 51]
 have f4 := addPart_len (addPart (addPart (addPart [] v.a []) v.b [114, 50]) v.c [114, 51]) v.d [114, 54]
 simp only [List.length_cons, List.length_nil] at f1 f2 f3 f4
 match j with
 | 0 => simp [body]
 | 1 => simp only [body]; omega
 | 2 => simp only [body]; omega
 | 3 => simp only [body]; omega
 | n + 4 => simp only [body]; omega
theorem stext_v (hx : SQ k cs v K) (hK : K ≤ 10000000000) (C : ∀ k', Up k k' → R k' (.string (str (surdText v)))) :
   ∀ k0, Up k k0 → CallsG Tryz.prog 151 #[.agg cs] k0 R := by
 intro k0 u0
 obtain ⟨c0, c1, c2, c3, rfl, q0, q1, q2, q3⟩ := hx.up u0
 replace C := fun k' u => C k' (u0.trans u)
 refine rsText_vc q0.seg q1.seg q2.seg q3.seg ?_
 have hlen := rbody_len q0 q1 q2 q3
 refine ⟨fun m k' vs => ∃ j, j ≤ 4 ∧ m = 4 - j ∧ vs = [.string (str (body v j)), .int .i64 (j : Nat)], ⟨4, fun k' _ => ⟨0, by omega, rfl, rfl⟩⟩, ?_⟩
 rintro m k2 vs u2 ⟨j, hj, rfl, rfl⟩
 refine ⟨str (body v j), (j : Nat), rfl, ?_⟩
 replace q0 := q0.up u2
 replace q1 := q1.up u2
 replace q2 := q2.up u2
 replace q3 := q3.up u2
 replace C := fun k' u => C k' (u2.trans u)
 clear u0 u2
 refine ⟨fun hj0 => ?_, fun hj0 => ?_⟩
 · have e : j = 0 := by have := eq_of_beq hj0; omega
   subst e
   clear C hx
   refine zero_v q0 ?_
   intro k3 u3
   refine ⟨_, rfl, fun hz => ?_, fun hz => ?_⟩
   · intro k4 u4
     refine ⟨3 - 0, by omega, 0 + 1, by omega, by omega, ?_⟩
     have hz : v.a = 0 := of_decide_eq_true hz
     have e : body v (0 + 1) = body v 0 := by simp only [body]; conv => lhs; rw [addPart, if_pos hz]
     rw [e]; rfl
   · have hz : ¬ v.a = 0 := of_decide_eq_false hz
     refine ⟨fun hs => ?_, fun hs => ?_⟩
     · have hs : body v 0 ≠ [] := by
         intro h
         rw [h, nil_eq] at hs
         cases hs
       refine sign_v (q0.up u3) ?_
       intro k4 u4
       refine ⟨_, rfl, fun hp => ?_, fun hp => ?_⟩
       · have hp : 0 < (v.a).num.sign := by simpa using hp
         refine ⟨fits (by rw [str_size]; have := hlen 0; show _ + 1 ≤ _; omega), ?_⟩
         refine text_v ((q0.up u3).up u4) (by omega) ?_
         intro k5 u5
         have e : body v (0 + 1) = (body v 0 ++ [43]) ++ (ratText v.a ++ []) := by
           simp only [body]; conv => lhs; rw [addPart, if_neg hz, if_pos ⟨hs, hp⟩]
         have hl := hlen (0 + 1)
         rw [e] at hl
         simp only [List.length_append, List.length_cons, List.length_nil] at hl
         refine ⟨_, rfl, ?_, ?_, ?_⟩
         · refine fits ?_
           show (str (body v 0) ++ str [43]).size + (str (ratText v.a)).size ≤ _
           rw [str_app, str_size, str_size]; (try simp only [List.length_append, List.length_cons, List.length_nil]); omega
         · refine fits ?_
           show ((str (body v 0) ++ str [43]) ++ str (ratText v.a)).size + (str []).size ≤ _
           rw [str_app, str_app, str_size, str_size]; (try simp only [List.length_append, List.length_cons, List.length_nil]); omega
         · intro k7 u7
           refine ⟨3 - 0, by omega, 0 + 1, by omega, by omega, ?_⟩
           rw [e, ← List.append_assoc, ← str_app, ← str_app, ← str_app]; rfl
       · have hp : ¬ 0 < (v.a).num.sign := by simpa using hp
         refine text_v ((q0.up u3).up u4) (by omega) ?_
         intro k5 u5
         have e : body v (0 + 1) = body v 0 ++ (ratText v.a ++ []) := by
           simp only [body]; conv => lhs; rw [addPart, if_neg hz, if_neg (fun h => hp h.2)]
         have hl := hlen (0 + 1)
         rw [e] at hl
         simp only [List.length_append, List.length_nil] at hl
         refine ⟨_, rfl, ?_, ?_, ?_⟩
         · refine fits ?_
           show (str (body v 0)).size + (str (ratText v.a)).size ≤ _
           rw [str_size, str_size]; (try simp only [List.length_append, List.length_cons, List.length_nil]); omega
         · refine fits ?_
           show (str (body v 0) ++ str (ratText v.a)).size + (str []).size ≤ _
           rw [str_app, str_size, str_size]; (try simp only [List.length_append, List.length_nil]); omega
         · intro k7 u7
           refine ⟨3 - 0, by omega, 0 + 1, by omega, by omega, ?_⟩
           rw [e, ← List.append_assoc, ← str_app, ← str_app]; rfl
     · have hs : ¬ body v 0 ≠ [] := by
         intro h
         cases hq : ((str (body v 0)).toList == (⟨#[]⟩ : ByteArray).toList) with
         | false => rw [hq] at hs; cases hs
         | true => exact h (str_inj (toList_inj.1 hq))
       refine text_v (q0.up u3) (by omega) ?_
       intro k5 u5
       have e : body v (0 + 1) = body v 0 ++ (ratText v.a ++ []) := by
         simp only [body]; conv => lhs; rw [addPart, if_neg hz, if_neg (fun h => hs h.1)]
       have hl := hlen (0 + 1)
       rw [e] at hl
       simp only [List.length_append, List.length_nil] at hl
       refine ⟨_, rfl, ?_, ?_, ?_⟩
       · refine fits ?_
         show (str (body v 0)).size + (str (ratText v.a)).size ≤ _
         rw [str_size, str_size]; (try simp only [List.length_append, List.length_cons, List.length_nil]); omega
       · refine fits ?_
         show (str (body v 0) ++ str (ratText v.a)).size + (str []).size ≤ _
         rw [str_app, str_size, str_size]; (try simp only [List.length_append, List.length_nil]); omega
       · intro k7 u7
         refine ⟨3 - 0, by omega, 0 + 1, by omega, by omega, ?_⟩
         rw [e, ← List.append_assoc, ← str_app, ← str_app]; rfl
 refine ⟨fun hj1 => ?_, fun hj1 => ?_⟩
 · have e : j = 1 := by have := eq_of_beq hj1; omega
   subst e
   clear C hx
   refine zero_v q1 ?_
   intro k3 u3
   refine ⟨_, rfl, fun hz => ?_, fun hz => ?_⟩
   · intro k4 u4
     refine ⟨3 - 1, by omega, 1 + 1, by omega, by omega, ?_⟩
     have hz : v.b = 0 := of_decide_eq_true hz
     have e : body v (1 + 1) = body v 1 := by simp only [body]; conv => lhs; rw [addPart, if_pos hz]
     rw [e]; rfl
   · have hz : ¬ v.b = 0 := of_decide_eq_false hz
     refine ⟨fun hs => ?_, fun hs => ?_⟩
     · have hs : body v 1 ≠ [] := by
         intro h
         rw [h, nil_eq] at hs
         cases hs
       refine sign_v (q1.up u3) ?_
       intro k4 u4
       refine ⟨_, rfl, fun hp => ?_, fun hp => ?_⟩
       · have hp : 0 < (v.b).num.sign := by simpa using hp
         refine ⟨fits (by rw [str_size]; have := hlen 1; show _ + 1 ≤ _; omega), ?_⟩
         refine text_v ((q1.up u3).up u4) (by omega) ?_
         intro k5 u5
         have e : body v (1 + 1) = (body v 1 ++ [43]) ++ (ratText v.b ++ [114, 50]) := by
           simp only [body]; conv => lhs; rw [addPart, if_neg hz, if_pos ⟨hs, hp⟩]
         have hl := hlen (1 + 1)
         rw [e] at hl
         simp only [List.length_append, List.length_cons, List.length_nil] at hl
         refine ⟨_, rfl, ?_, ?_, ?_⟩
         · refine fits ?_
           show (str (body v 1) ++ str [43]).size + (str (ratText v.b)).size ≤ _
           rw [str_app, str_size, str_size]; (try simp only [List.length_append, List.length_cons, List.length_nil]); omega
         · refine fits ?_
           show ((str (body v 1) ++ str [43]) ++ str (ratText v.b)).size + (str [114, 50]).size ≤ _
           rw [str_app, str_app, str_size, str_size]; (try simp only [List.length_append, List.length_cons, List.length_nil]); omega
         · intro k7 u7
           refine ⟨3 - 1, by omega, 1 + 1, by omega, by omega, ?_⟩
           rw [e, ← List.append_assoc, ← str_app, ← str_app, ← str_app]; rfl
       · have hp : ¬ 0 < (v.b).num.sign := by simpa using hp
         refine text_v ((q1.up u3).up u4) (by omega) ?_
         intro k5 u5
         have e : body v (1 + 1) = body v 1 ++ (ratText v.b ++ [114, 50]) := by
           simp only [body]; conv => lhs; rw [addPart, if_neg hz, if_neg (fun h => hp h.2)]
         have hl := hlen (1 + 1)
         rw [e] at hl
         simp only [List.length_append, List.length_cons, List.length_nil] at hl
         refine ⟨_, rfl, ?_, ?_, ?_⟩
         · refine fits ?_
           show (str (body v 1)).size + (str (ratText v.b)).size ≤ _
           rw [str_size, str_size]; (try simp only [List.length_append, List.length_cons, List.length_nil]); omega
         · refine fits ?_
           show (str (body v 1) ++ str (ratText v.b)).size + (str [114, 50]).size ≤ _
           rw [str_app, str_size, str_size]; (try simp only [List.length_append, List.length_cons, List.length_nil]); omega
         · intro k7 u7
           refine ⟨3 - 1, by omega, 1 + 1, by omega, by omega, ?_⟩
           rw [e, ← List.append_assoc, ← str_app, ← str_app]; rfl
     · have hs : ¬ body v 1 ≠ [] := by
         intro h
         cases hq : ((str (body v 1)).toList == (⟨#[]⟩ : ByteArray).toList) with
         | false => rw [hq] at hs; cases hs
         | true => exact h (str_inj (toList_inj.1 hq))
       refine text_v (q1.up u3) (by omega) ?_
       intro k5 u5
       have e : body v (1 + 1) = body v 1 ++ (ratText v.b ++ [114, 50]) := by
         simp only [body]; conv => lhs; rw [addPart, if_neg hz, if_neg (fun h => hs h.1)]
       have hl := hlen (1 + 1)
       rw [e] at hl
       simp only [List.length_append, List.length_cons, List.length_nil] at hl
       refine ⟨_, rfl, ?_, ?_, ?_⟩
       · refine fits ?_
         show (str (body v 1)).size + (str (ratText v.b)).size ≤ _
         rw [str_size, str_size]; (try simp only [List.length_append, List.length_cons, List.length_nil]); omega
       · refine fits ?_
         show (str (body v 1) ++ str (ratText v.b)).size + (str [114, 50]).size ≤ _
         rw [str_app, str_size, str_size]; (try simp only [List.length_append, List.length_cons, List.length_nil]); omega
       · intro k7 u7
         refine ⟨3 - 1, by omega, 1 + 1, by omega, by omega, ?_⟩
         rw [e, ← List.append_assoc, ← str_app, ← str_app]; rfl
 refine ⟨fun hj2 => ?_, fun hj2 => ?_⟩
 · have e : j = 2 := by have := eq_of_beq hj2; omega
   subst e
   clear C hx
   refine zero_v q2 ?_
   intro k3 u3
   refine ⟨_, rfl, fun hz => ?_, fun hz => ?_⟩
   · intro k4 u4
     refine ⟨3 - 2, by omega, 2 + 1, by omega, by omega, ?_⟩
     have hz : v.c = 0 := of_decide_eq_true hz
     have e : body v (2 + 1) = body v 2 := by simp only [body]; conv => lhs; rw [addPart, if_pos hz]
     rw [e]; rfl
   · have hz : ¬ v.c = 0 := of_decide_eq_false hz
     refine ⟨fun hs => ?_, fun hs => ?_⟩
     · have hs : body v 2 ≠ [] := by
         intro h
         rw [h, nil_eq] at hs
         cases hs
       refine sign_v (q2.up u3) ?_
       intro k4 u4
       refine ⟨_, rfl, fun hp => ?_, fun hp => ?_⟩
       · have hp : 0 < (v.c).num.sign := by simpa using hp
         refine ⟨fits (by rw [str_size]; have := hlen 2; show _ + 1 ≤ _; omega), ?_⟩
         refine text_v ((q2.up u3).up u4) (by omega) ?_
         intro k5 u5
         have e : body v (2 + 1) = (body v 2 ++ [43]) ++ (ratText v.c ++ [114, 51]) := by
           simp only [body]; conv => lhs; rw [addPart, if_neg hz, if_pos ⟨hs, hp⟩]
         have hl := hlen (2 + 1)
         rw [e] at hl
         simp only [List.length_append, List.length_cons, List.length_nil] at hl
         refine ⟨_, rfl, ?_, ?_, ?_⟩
         · refine fits ?_
           show (str (body v 2) ++ str [43]).size + (str (ratText v.c)).size ≤ _
           rw [str_app, str_size, str_size]; (try simp only [List.length_append, List.length_cons, List.length_nil]); omega
         · refine fits ?_
           show ((str (body v 2) ++ str [43]) ++ str (ratText v.c)).size + (str [114, 51]).size ≤ _
           rw [str_app, str_app, str_size, str_size]; (try simp only [List.length_append, List.length_cons, List.length_nil]); omega
         · intro k7 u7
           refine ⟨3 - 2, by omega, 2 + 1, by omega, by omega, ?_⟩
           rw [e, ← List.append_assoc, ← str_app, ← str_app, ← str_app]; rfl
       · have hp : ¬ 0 < (v.c).num.sign := by simpa using hp
         refine text_v ((q2.up u3).up u4) (by omega) ?_
         intro k5 u5
         have e : body v (2 + 1) = body v 2 ++ (ratText v.c ++ [114, 51]) := by
           simp only [body]; conv => lhs; rw [addPart, if_neg hz, if_neg (fun h => hp h.2)]
         have hl := hlen (2 + 1)
         rw [e] at hl
         simp only [List.length_append, List.length_cons, List.length_nil] at hl
         refine ⟨_, rfl, ?_, ?_, ?_⟩
         · refine fits ?_
           show (str (body v 2)).size + (str (ratText v.c)).size ≤ _
           rw [str_size, str_size]; (try simp only [List.length_append, List.length_cons, List.length_nil]); omega
         · refine fits ?_
           show (str (body v 2) ++ str (ratText v.c)).size + (str [114, 51]).size ≤ _
           rw [str_app, str_size, str_size]; (try simp only [List.length_append, List.length_cons, List.length_nil]); omega
         · intro k7 u7
           refine ⟨3 - 2, by omega, 2 + 1, by omega, by omega, ?_⟩
           rw [e, ← List.append_assoc, ← str_app, ← str_app]; rfl
     · have hs : ¬ body v 2 ≠ [] := by
         intro h
         cases hq : ((str (body v 2)).toList == (⟨#[]⟩ : ByteArray).toList) with
         | false => rw [hq] at hs; cases hs
         | true => exact h (str_inj (toList_inj.1 hq))
       refine text_v (q2.up u3) (by omega) ?_
       intro k5 u5
       have e : body v (2 + 1) = body v 2 ++ (ratText v.c ++ [114, 51]) := by
         simp only [body]; conv => lhs; rw [addPart, if_neg hz, if_neg (fun h => hs h.1)]
       have hl := hlen (2 + 1)
       rw [e] at hl
       simp only [List.length_append, List.length_cons, List.length_nil] at hl
       refine ⟨_, rfl, ?_, ?_, ?_⟩
       · refine fits ?_
         show (str (body v 2)).size + (str (ratText v.c)).size ≤ _
         rw [str_size, str_size]; (try simp only [List.length_append, List.length_cons, List.length_nil]); omega
       · refine fits ?_
         show (str (body v 2) ++ str (ratText v.c)).size + (str [114, 51]).size ≤ _
         rw [str_app, str_size, str_size]; (try simp only [List.length_append, List.length_cons, List.length_nil]); omega
       · intro k7 u7
         refine ⟨3 - 2, by omega, 2 + 1, by omega, by omega, ?_⟩
         rw [e, ← List.append_assoc, ← str_app, ← str_app]; rfl
 refine ⟨fun hj3 => ?_, fun hj3 => ?_⟩
 · have e : j = 3 := by have := eq_of_beq hj3; omega
   subst e
   clear C hx
   refine zero_v q3 ?_
   intro k3 u3
   refine ⟨_, rfl, fun hz => ?_, fun hz => ?_⟩
   · intro k4 u4
     refine ⟨3 - 3, by omega, 3 + 1, by omega, by omega, ?_⟩
     have hz : v.d = 0 := of_decide_eq_true hz
     have e : body v (3 + 1) = body v 3 := by simp only [body]; conv => lhs; rw [addPart, if_pos hz]
     rw [e]; rfl
   · have hz : ¬ v.d = 0 := of_decide_eq_false hz
     refine ⟨fun hs => ?_, fun hs => ?_⟩
     · have hs : body v 3 ≠ [] := by
         intro h
         rw [h, nil_eq] at hs
         cases hs
       refine sign_v (q3.up u3) ?_
       intro k4 u4
       refine ⟨_, rfl, fun hp => ?_, fun hp => ?_⟩
       · have hp : 0 < (v.d).num.sign := by simpa using hp
         refine ⟨fits (by rw [str_size]; have := hlen 3; show _ + 1 ≤ _; omega), ?_⟩
         refine text_v ((q3.up u3).up u4) (by omega) ?_
         intro k5 u5
         have e : body v (3 + 1) = (body v 3 ++ [43]) ++ (ratText v.d ++ [114, 54]) := by
           simp only [body]; conv => lhs; rw [addPart, if_neg hz, if_pos ⟨hs, hp⟩]
         have hl := hlen (3 + 1)
         rw [e] at hl
         simp only [List.length_append, List.length_cons, List.length_nil] at hl
         refine ⟨_, rfl, ?_, ?_, ?_⟩
         · refine fits ?_
           show (str (body v 3) ++ str [43]).size + (str (ratText v.d)).size ≤ _
           rw [str_app, str_size, str_size]; (try simp only [List.length_append, List.length_cons, List.length_nil]); omega
         · refine fits ?_
           show ((str (body v 3) ++ str [43]) ++ str (ratText v.d)).size + (str [114, 54]).size ≤ _
           rw [str_app, str_app, str_size, str_size]; (try simp only [List.length_append, List.length_cons, List.length_nil]); omega
         · intro k7 u7
           refine ⟨3 - 3, by omega, 3 + 1, by omega, by omega, ?_⟩
           rw [e, ← List.append_assoc, ← str_app, ← str_app, ← str_app]; rfl
       · have hp : ¬ 0 < (v.d).num.sign := by simpa using hp
         refine text_v ((q3.up u3).up u4) (by omega) ?_
         intro k5 u5
         have e : body v (3 + 1) = body v 3 ++ (ratText v.d ++ [114, 54]) := by
           simp only [body]; conv => lhs; rw [addPart, if_neg hz, if_neg (fun h => hp h.2)]
         have hl := hlen (3 + 1)
         rw [e] at hl
         simp only [List.length_append, List.length_cons, List.length_nil] at hl
         refine ⟨_, rfl, ?_, ?_, ?_⟩
         · refine fits ?_
           show (str (body v 3)).size + (str (ratText v.d)).size ≤ _
           rw [str_size, str_size]; (try simp only [List.length_append, List.length_cons, List.length_nil]); omega
         · refine fits ?_
           show (str (body v 3) ++ str (ratText v.d)).size + (str [114, 54]).size ≤ _
           rw [str_app, str_size, str_size]; (try simp only [List.length_append, List.length_cons, List.length_nil]); omega
         · intro k7 u7
           refine ⟨3 - 3, by omega, 3 + 1, by omega, by omega, ?_⟩
           rw [e, ← List.append_assoc, ← str_app, ← str_app]; rfl
     · have hs : ¬ body v 3 ≠ [] := by
         intro h
         cases hq : ((str (body v 3)).toList == (⟨#[]⟩ : ByteArray).toList) with
         | false => rw [hq] at hs; cases hs
         | true => exact h (str_inj (toList_inj.1 hq))
       refine text_v (q3.up u3) (by omega) ?_
       intro k5 u5
       have e : body v (3 + 1) = body v 3 ++ (ratText v.d ++ [114, 54]) := by
         simp only [body]; conv => lhs; rw [addPart, if_neg hz, if_neg (fun h => hs h.1)]
       have hl := hlen (3 + 1)
       rw [e] at hl
       simp only [List.length_append, List.length_cons, List.length_nil] at hl
       refine ⟨_, rfl, ?_, ?_, ?_⟩
       · refine fits ?_
         show (str (body v 3)).size + (str (ratText v.d)).size ≤ _
         rw [str_size, str_size]; (try simp only [List.length_append, List.length_cons, List.length_nil]); omega
       · refine fits ?_
         show (str (body v 3) ++ str (ratText v.d)).size + (str [114, 54]).size ≤ _
         rw [str_app, str_size, str_size]; (try simp only [List.length_append, List.length_cons, List.length_nil]); omega
       · intro k7 u7
         refine ⟨3 - 3, by omega, 3 + 1, by omega, by omega, ?_⟩
         rw [e, ← List.append_assoc, ← str_app, ← str_app]; rfl
 refine ⟨fun hj4 => ?_, fun hj4 => ?_⟩
 · have e : j = 4 := by have := eq_of_beq hj4; omega
   subst e
   refine ⟨fun hs => ?_, fun hs => ?_⟩
   · have hs : body v 4 = [] := str_inj (toList_inj.1 hs)
     intro k3 u3
     have := C k3 u3
     unfold surdText at this
     rwa [if_pos hs] at this
   · have hs : ¬ body v 4 = [] := by
       intro h
       rw [h, nil_eq] at hs
       cases hs
     intro k3 u3
     have := C k3 u3
     unfold surdText at this
     rwa [if_neg hs] at this
 · exfalso
   simp only [beq_eq_false_iff_ne, ne_eq] at hj0 hj1 hj2 hj3 hj4
   omega
end
end Go.Proofs.YtpjakokgmgggiaaGreat.W32

/- What is to be shown of the calls of some functions. (Printed by gen/vc.py.) -/
namespace Go.Proofs.YtpjakokgmgggiaaGreat
open Go.RowKit
open Sy (Up Sees CallsG Seg execFn_use)
set_option maxRecDepth 100000
variable {k : World} {R : World → Value → Prop}
theorem IsSurd_vc {cs0 cs1 : Array Value} (hcs0 : Seg 9 cs0) (hcs1 : Seg 12 cs1)
    (h : ∀ k0, Up k k0 → CallsG Tryz.prog 115 #[Value.agg cs0] k0 fun k1 r0 => ∃ s2, some (Value.string s2) = some r0 ∧
 ∀ k2, Up k1 k2 → CallsG Tryz.prog 151 #[Value.agg cs1] k2 fun k3 r2 => ∃ s3, some (Value.string s3) = some r2 ∧
 ∀ k4, Up k3 k4 → R k4 (Value.bool (ByteArray.toList s2 == ByteArray.toList s3))) :
    CallsG Tryz.prog 50 #[Value.agg cs0, Value.agg cs1] k R :=
  execFn_use (cfg := { opq := [57, 62] }) (args := [.agg [.seg 0 9], .agg [.seg 1 12]]) (vals := [Value.agg cs0, Value.agg cs1]) (kinds := [.seg 9, .seg 12]) (by kernel_rfl) ⟨⟨cs0, rfl, hcs0⟩, ⟨⟨cs1, rfl, hcs1⟩, trivial⟩⟩ (by kernel_rfl) (by kernel_rfl) h
theorem IsWave_vc {cs0 cs1 cs2 : Array Value} (hcs0 : Seg 18 cs0) (hcs1 : Seg 12 cs1) (hcs2 : Seg 12 cs2)
    (h : ∀ k0, Up k k0 → CallsG Tryz.prog 149 #[Value.agg cs0] k0 fun k1 r0 => ∃ cs3, Seg 9 cs3 ∧ some (Value.agg cs3) = some r0 ∧
 ∀ k2, Up k1 k2 → CallsG Tryz.prog 50 #[Value.agg cs3, Value.agg cs1] k2 fun k3 r2 => ∃ b4, some (Value.bool b4) = some r2 ∧
 (b4 = true →
 (∀ k4, Up k3 k4 → CallsG Tryz.prog 150 #[Value.agg cs0] k4 fun k5 r4 => ∃ cs5, Seg 9 cs5 ∧ some (Value.agg cs5) = some r4 ∧
 ∀ k6, Up k5 k6 → CallsG Tryz.prog 50 #[Value.agg cs5, Value.agg cs2] k6 fun k7 r6 => ∃ b6, some (Value.bool b6) = some r6 ∧
 ∀ k8, Up k7 k8 → R k8 (Value.bool b6))) ∧
 (b4 = false →
 (∀ k9, Up k3 k9 → R k9 (Value.bool false)))) :
    CallsG Tryz.prog 39 #[Value.agg cs0, Value.agg (cs1.toList ++ (cs2.toList ++ ([]))).toArray] k R :=
  execFn_use (cfg := { opq := [59, 57, 62] }) (args := [.agg [.seg 0 18], .agg [.seg 1 12, .seg 2 12]]) (vals := [Value.agg cs0, Value.agg cs1, Value.agg cs2]) (kinds := [.seg 18, .seg 12, .seg 12]) (by kernel_rfl) ⟨⟨cs0, rfl, hcs0⟩, ⟨⟨cs1, rfl, hcs1⟩, ⟨⟨cs2, rfl, hcs2⟩, trivial⟩⟩⟩ (by kernel_rfl) (by kernel_rfl) h
end Go.Proofs.YtpjakokgmgggiaaGreat

/- What ExactWaves computes. (Printed by gen/lawz.py.) -/
namespace Go.Proofs.YtpjakokgmgggiaaGreat
open Go.RowKit Num Plain W32
open Sy (Up Sees CallsG Seg)
section
variable {k k' : World} {R : World → Value → Prop} {x q : Rat} {K L : Nat} {cs cs' : Array Value} {v : Q4} {w : W4}
theorem isSurd_s (hx : SurdV k cs v K) (hK1 : 1 ≤ K) (hK : K ≤ 268435456) (h : SQ k cs' v L) (hL : L ≤ 10000000000) (C : ∀ k', Up k k' → R k' (.bool true)) :
   ∀ k0, Up k k0 → CallsG Tryz.prog 50 #[.agg cs, .agg cs'] k0 R := by
 intro k0 u0
 refine IsSurd_vc hx.seg h.seg (SText_s (hx.up u0) hK1 hK fun k1 u1 => ⟨_, rfl, stext_v ((h.up u0).up u1) hL fun k3 u3 => ⟨_, rfl, fun k4 u4 => ?_⟩⟩)
 have := C k4 (((u0.trans u1).trans u3).trans u4)
 rw [show (ByteArray.toList (str (surdText v)) == ByteArray.toList (str (surdText v))) = true from beq_self_eq_true _]
 exact this
theorem isWave_s (hx : WaveV k cs w K) (hK1 : 1 ≤ K) (hK : K ≤ 268435456) (h : WQ k cs' w L) (hL : L ≤ 10000000000) (C : ∀ k', Up k k' → R k' (.bool true)) :
   ∀ k0, Up k k0 → CallsG Tryz.prog 39 #[.agg cs, .agg cs'] k0 R := by
 intro k0 u0
 obtain ⟨a, b, rfl, a0, b0⟩ := h
 refine IsWave_vc hx.seg a0.seg b0.seg (WRe_s (hx.up u0) fun k1 d1 u1 h1 => ⟨d1, h1.seg, rfl, ?_⟩)
 refine isSurd_s h1 hK1 hK ((a0.up u0).up u1) hL fun k2 u2 => ⟨_, rfl, fun _ => ?_, fun h => (nomatch h)⟩
 refine WIm_s (((hx.up u0).up u1).up u2) fun k3 d3 u3 h3 => ⟨d3, h3.seg, rfl, ?_⟩
 exact isSurd_s h3 hK1 hK ((((b0.up u0).up u1).up u2).up u3) hL fun k4 u4 => ⟨_, rfl, fun k5 u5 => C k5 (((((u0.trans u1).trans u2).trans u3).trans u4).trans u5)⟩
end
end Go.Proofs.YtpjakokgmgggiaaGreat

/- What ExactTurns computes. (Printed by gen/turnz.py.) -/
namespace Go.Proofs.YtpjakokgmgggiaaGreat
open Go.RowKit Num Plain W32
open Sy (Up Sees CallsG Seg)
section
variable {k k' : World} {R : World → Value → Prop} {s p x : Array Value} {a i : Nat}
theorem real_one : W4.real 1 = turnW 0 := by decide +kernel
theorem turn_step {Nx : World → Array Value → Array Value → Prop} (hi : i < 24) (ha : a < 24) (hS : WaveV k s (sumP a i) 1) (hP : WaveV k p (turnW (i * a % 24)) 1) (hX : WaveV k x (turnW a) 1)
   (C : ∀ k' s' p', Up k k' → WaveV k' s' (sumP a (i + 1)) 1 → WaveV k' p' (turnW ((i + 1) * a % 24)) 1 → Nx k' s' p') :
   ∀ k0, Up k k0 → CallsG Tryz.prog 40 #[.agg s, .agg p] k0 fun k1 r => ∃ s' : Array Value, Seg 18 s' ∧ some (Value.agg s') = some r ∧
     ∀ k2, Up k1 k2 → CallsG Tryz.prog 44 #[.agg p, .agg x] k2 fun k3 r2 => ∃ p' : Array Value, Seg 18 p' ∧ some (Value.agg p') = some r2 ∧ Nx k3 s' p' := by
 refine WAdd_s hS hP (by decide) (by decide) fun k1 s' u1 h1 => ⟨s', h1.seg, rfl, ?_⟩
 refine WMul_s (hP.up u1) (hX.up u1) (by decide) (by decide) fun k2 p' u2 h2 => ⟨p', h2.seg, rfl, ?_⟩
 rw [turn_mul _ (Nat.mod_lt _ (by decide)) _ ha, show (i * a % 24 + a) % 24 = (i + 1) * a % 24 from by rw [Nat.succ_mul]; omega] at h2
 exact C k2 s' p' (u1.trans u2) ((h1.up u2).cut (sum_small a ha (i + 1) (by omega))) (h2.cut (turn_small _ (Nat.mod_lt _ (by decide))))
theorem castW {K : Nat} {y z : W4} (h : WaveV k s y K) (e : y = z) : WaveV k s z K := e ▸ h
set_option maxRecDepth 4000 in
theorem turns_s (n0 n1 : Int) (C : ∀ k', Up k k' → R k' (.bool true)) :
   ∀ k0, Up k k0 → CallsG Tryz.prog 7 #[.int .i64 n0, .int .i64 n1] k0 R := by
 intro k0 u0
 replace C := fun k' u => C k' (u0.trans u)
 have ha := plc_lt n0
 have hb := plc_lt n1
 have eb : ∀ n : Int, (Int.tmod n 24 = n % 24) ∨ (Int.tmod n 24 = n % 24 - 24 ∧ n % 24 ≠ 0) := fun n => by
   rw [Int.tmod_eq_emod]
   split
   · left; omega
   · next h => right; exact ⟨rfl, by omega⟩
 have e1 : plc (IntKind.wrap .i64 ((Int.tmod n0 24) + (Int.tmod n1 24))) = (plc n0 + plc n1) % 24 := by
   have h0 := eb n0
   have h1 := eb n1
   have hw : IntKind.wrap .i64 ((Int.tmod n0 24) + (Int.tmod n1 24)) = (Int.tmod n0 24) + (Int.tmod n1 24) := by rw [IntKind.wrap_i64]; omega
   rw [hw]
   unfold plc
   omega
 have e2 : plc (IntKind.wrap .i64 (0 - (Int.tmod n0 24))) = (24 - plc n0) % 24 := by
   have h0 := eb n0
   have hw : IntKind.wrap .i64 (0 - (Int.tmod n0 24)) = 0 - (Int.tmod n0 24) := by rw [IntKind.wrap_i64]; omega
   rw [hw]
   unfold plc
   omega
 have e3 : Int.tmod n0 24 = 0 ↔ plc n0 = 0 := by
   have h0 := eb n0
   unfold plc
   omega
 refine turns_vc (awake_s fun k1 u1 => ⟨_, rfl, fun h => (nomatch h), fun _ => ?_⟩)
 replace C := fun k' u => C k' (u1.trans u)
 refine xturn_s fun k2 d2 u2 hX => ⟨d2, hX.seg, rfl, ?_⟩
 replace C := fun k' u => C k' (u2.trans u)
 clear u2
 refine rturn_v fun k3 d3 u3 hE => ⟨d3, hE.seg, rfl, ?_⟩
 replace hX := hX.up u3
 replace C := fun k' u => C k' (u3.trans u)
 clear u3
 refine isWave_s hX (by decide) (by decide) hE (by decide) fun k4 u4 => ⟨_, rfl, fun h => (nomatch h), fun _ => ?_⟩
 clear hX hE
 replace C := fun k' u => C k' (u4.trans u)
 clear u4
 refine QInt_s (by decide) (by decide) fun k5 d5 u5 hO => ⟨d5, hO.seg, rfl, ?_⟩
 replace C := fun k' u => C k' (u5.trans u)
 clear u5
 refine xturn_s fun k6 d6 u6 hX => ⟨d6, hX.seg, rfl, ?_⟩
 replace hO := hO.up u6
 replace C := fun k' u => C k' (u6.trans u)
 clear u6
 refine xturn_s fun k7 d7 u7 hY => ⟨d7, hY.seg, rfl, ?_⟩
 replace hO := hO.up u7
 replace hX := hX.up u7
 replace C := fun k' u => C k' (u7.trans u)
 clear u7
 refine xturn_s fun k8 d8 u8 hZ => ⟨d8, hZ.seg, rfl, ?_⟩
 replace hO := hO.up u8
 replace hX := hX.up u8
 replace hY := hY.up u8
 replace C := fun k' u => C k' (u8.trans u)
 clear u8
 refine WMul_s hX hY (by decide) (by decide) fun k9 d9 u9 hM => ⟨d9, hM.seg, rfl, ?_⟩
 clear hY
 replace hO := hO.up u9
 replace hX := hX.up u9
 replace hZ := hZ.up u9
 replace C := fun k' u => C k' (u9.trans u)
 clear u9
 refine WSame_t hM (hZ.mono (by decide)) ((turn_mul _ ha _ hb).trans (by rw [e1])) (by decide) (by decide) fun k10 u10 => ⟨_, rfl, fun h => (nomatch h), fun _ => ?_⟩
 clear hM hZ
 replace hO := hO.up u10
 replace hX := hX.up u10
 replace C := fun k' u => C k' (u10.trans u)
 clear u10
 refine WConj_s hX (by decide) fun k11 d11 u11 hM => ⟨d11, hM.seg, rfl, ?_⟩
 replace hO := hO.up u11
 replace hX := hX.up u11
 replace C := fun k' u => C k' (u11.trans u)
 clear u11
 refine xturn_s fun k12 d12 u12 hZ => ⟨d12, hZ.seg, rfl, ?_⟩
 replace hO := hO.up u12
 replace hX := hX.up u12
 replace hM := hM.up u12
 replace C := fun k' u => C k' (u12.trans u)
 clear u12
 refine WSame_t hM hZ ((turn_conj _ ha).trans (by rw [e2])) (by decide) (by decide) fun k13 u13 => ⟨_, rfl, fun h => (nomatch h), fun _ => ?_⟩
 clear hM hZ
 replace hO := hO.up u13
 replace hX := hX.up u13
 replace C := fun k' u => C k' (u13.trans u)
 clear u13
 refine WNorm_s hX (by decide) (by decide) fun k14 d14 u14 hM => ⟨d14, hM.seg, rfl, ?_⟩
 replace hO := hO.up u14
 replace hX := hX.up u14
 replace C := fun k' u => C k' (u14.trans u)
 clear u14
 refine SOf_s (L := 1) (v := Q4.zero) (SurdV.nil (Nat.zero_le _)) hO fun k15 d15 u15 hZ => ⟨d15, hZ.seg, rfl, ?_⟩
 replace hO := hO.up u15
 replace hX := hX.up u15
 replace hM := hM.up u15
 replace C := fun k' u => C k' (u15.trans u)
 clear u15
 refine SSame_t hM (hZ.mono (by decide)) (turn_norm _ ha) (by decide) (by decide) fun k16 u16 => ⟨_, rfl, fun h => (nomatch h), fun _ => ?_⟩
 clear hM hZ
 replace hO := hO.up u16
 replace hX := hX.up u16
 replace C := fun k' u => C k' (u16.trans u)
 clear u16
 refine WOf_s (K := 1) WaveV.nil hO fun k17 d17 u17 hP => ⟨d17, hP.seg, rfl, ?_⟩
 replace hO := hO.up u17
 replace hX := hX.up u17
 replace C := fun k' u => C k' (u17.trans u)
 clear u17
 have hP1 := hP
 generalize plc n0 = a at ha hX e3
 have hQ := castW hP (show _ = turnW (0 * a % 24) from by rw [Nat.zero_mul]; exact real_one)
 clear hP
 replace hP := hQ
 clear hQ
 have hS : True := trivial
 refine turn_step (i := 0) (by decide) ha (WaveV.nil) hP hX fun k18 s18 p18 u18 hS hP => ?_
 replace hX := hX.up u18
 replace hO := hO.up u18
 replace C := fun k' u => C k' (u18.trans u)
 refine turn_step (i := 1) (by decide) ha hS hP hX fun k19 s19 p19 u19 hS hP => ?_
 replace hX := hX.up u19
 replace hO := hO.up u19
 replace C := fun k' u => C k' (u19.trans u)
 refine turn_step (i := 2) (by decide) ha hS hP hX fun k20 s20 p20 u20 hS hP => ?_
 replace hX := hX.up u20
 replace hO := hO.up u20
 replace C := fun k' u => C k' (u20.trans u)
 refine turn_step (i := 3) (by decide) ha hS hP hX fun k21 s21 p21 u21 hS hP => ?_
 replace hX := hX.up u21
 replace hO := hO.up u21
 replace C := fun k' u => C k' (u21.trans u)
 refine turn_step (i := 4) (by decide) ha hS hP hX fun k22 s22 p22 u22 hS hP => ?_
 replace hX := hX.up u22
 replace hO := hO.up u22
 replace C := fun k' u => C k' (u22.trans u)
 refine turn_step (i := 5) (by decide) ha hS hP hX fun k23 s23 p23 u23 hS hP => ?_
 replace hX := hX.up u23
 replace hO := hO.up u23
 replace C := fun k' u => C k' (u23.trans u)
 refine turn_step (i := 6) (by decide) ha hS hP hX fun k24 s24 p24 u24 hS hP => ?_
 replace hX := hX.up u24
 replace hO := hO.up u24
 replace C := fun k' u => C k' (u24.trans u)
 refine turn_step (i := 7) (by decide) ha hS hP hX fun k25 s25 p25 u25 hS hP => ?_
 replace hX := hX.up u25
 replace hO := hO.up u25
 replace C := fun k' u => C k' (u25.trans u)
 refine turn_step (i := 8) (by decide) ha hS hP hX fun k26 s26 p26 u26 hS hP => ?_
 replace hX := hX.up u26
 replace hO := hO.up u26
 replace C := fun k' u => C k' (u26.trans u)
 refine turn_step (i := 9) (by decide) ha hS hP hX fun k27 s27 p27 u27 hS hP => ?_
 replace hX := hX.up u27
 replace hO := hO.up u27
 replace C := fun k' u => C k' (u27.trans u)
 refine turn_step (i := 10) (by decide) ha hS hP hX fun k28 s28 p28 u28 hS hP => ?_
 replace hX := hX.up u28
 replace hO := hO.up u28
 replace C := fun k' u => C k' (u28.trans u)
 refine turn_step (i := 11) (by decide) ha hS hP hX fun k29 s29 p29 u29 hS hP => ?_
 replace hX := hX.up u29
 replace hO := hO.up u29
 replace C := fun k' u => C k' (u29.trans u)
 refine turn_step (i := 12) (by decide) ha hS hP hX fun k30 s30 p30 u30 hS hP => ?_
 replace hX := hX.up u30
 replace hO := hO.up u30
 replace C := fun k' u => C k' (u30.trans u)
 refine turn_step (i := 13) (by decide) ha hS hP hX fun k31 s31 p31 u31 hS hP => ?_
 replace hX := hX.up u31
 replace hO := hO.up u31
 replace C := fun k' u => C k' (u31.trans u)
 refine turn_step (i := 14) (by decide) ha hS hP hX fun k32 s32 p32 u32 hS hP => ?_
 replace hX := hX.up u32
 replace hO := hO.up u32
 replace C := fun k' u => C k' (u32.trans u)
 refine turn_step (i := 15) (by decide) ha hS hP hX fun k33 s33 p33 u33 hS hP => ?_
 replace hX := hX.up u33
 replace hO := hO.up u33
 replace C := fun k' u => C k' (u33.trans u)
 refine turn_step (i := 16) (by decide) ha hS hP hX fun k34 s34 p34 u34 hS hP => ?_
 replace hX := hX.up u34
 replace hO := hO.up u34
 replace C := fun k' u => C k' (u34.trans u)
 refine turn_step (i := 17) (by decide) ha hS hP hX fun k35 s35 p35 u35 hS hP => ?_
 replace hX := hX.up u35
 replace hO := hO.up u35
 replace C := fun k' u => C k' (u35.trans u)
 refine turn_step (i := 18) (by decide) ha hS hP hX fun k36 s36 p36 u36 hS hP => ?_
 replace hX := hX.up u36
 replace hO := hO.up u36
 replace C := fun k' u => C k' (u36.trans u)
 refine turn_step (i := 19) (by decide) ha hS hP hX fun k37 s37 p37 u37 hS hP => ?_
 replace hX := hX.up u37
 replace hO := hO.up u37
 replace C := fun k' u => C k' (u37.trans u)
 refine turn_step (i := 20) (by decide) ha hS hP hX fun k38 s38 p38 u38 hS hP => ?_
 replace hX := hX.up u38
 replace hO := hO.up u38
 replace C := fun k' u => C k' (u38.trans u)
 refine turn_step (i := 21) (by decide) ha hS hP hX fun k39 s39 p39 u39 hS hP => ?_
 replace hX := hX.up u39
 replace hO := hO.up u39
 replace C := fun k' u => C k' (u39.trans u)
 refine turn_step (i := 22) (by decide) ha hS hP hX fun k40 s40 p40 u40 hS hP => ?_
 replace hX := hX.up u40
 replace hO := hO.up u40
 replace C := fun k' u => C k' (u40.trans u)
 refine turn_step (i := 23) (by decide) ha hS hP hX fun k41 s41 p41 u41 hS hP => ?_
 replace hO := hO.up u41
 replace C := fun k' u => C k' (u41.trans u)
 rw [show 23 + 1 = 24 from rfl, sum_all a ha] at hS
 replace hP := castW hP (show _ = W4.real 1 from by rw [real_one, show (23 + 1) * a % 24 = 0 from by omega])
 clear hX hP1
 refine QInt_s (z := 0) (by decide) (by decide) fun k42 d42 u42 hW => ⟨d42, hW.seg, rfl, fun hc => ?_, fun hc => ?_⟩
 · have ha0 : a = 0 := e3.1 (eq_of_beq hc)
   replace hO := hO.up u42
   replace hS := hS.up u42
   replace hP := hP.up u42
   replace C := fun k' u => C k' (u42.trans u)
   refine QInt_s (z := 24) (by decide) (by decide) fun k43 d43 u43 hV => ⟨d43, hV.seg, rfl, ?_⟩
   replace hO := hO.up u43
   replace hS := hS.up u43
   replace hP := hP.up u43
   replace hW := hW.up u43
   replace C := fun k' u => C k' (u43.trans u)
   clear u43
   refine WOf_s (K := 1) (x := W4.zero) WaveV.nil hO fun k44 d44 u44 hQ => ⟨d44, hQ.seg, rfl, ?_⟩
   replace hO := hO.up u44
   replace hS := hS.up u44
   replace hP := hP.up u44
   replace hW := hW.up u44
   replace hV := hV.up u44
   replace C := fun k' u => C k' (u44.trans u)
   clear u44
   refine WSame_t hP hQ rfl (by decide) (by decide) fun k45 u45 => ⟨_, rfl, fun _ => ?_, fun h => (nomatch h)⟩
   replace hO := hO.up u45
   replace hS := hS.up u45
   replace hP := hP.up u45
   replace hW := hW.up u45
   replace hV := hV.up u45
   replace hQ := hQ.up u45
   replace C := fun k' u => C k' (u45.trans u)
   clear u45
   refine WOf_s hS hV fun k46 d46 u46 hT => ⟨d46, hT.seg, rfl, ?_⟩
   replace hO := hO.up u46
   replace hS := hS.up u46
   replace hP := hP.up u46
   replace hW := hW.up u46
   replace hQ := hQ.up u46
   replace C := fun k' u => C k' (u46.trans u)
   clear u46
   refine WSame_t hS hT (by rw [if_pos ha0]; rfl) (by decide) (by decide) fun k47 u47 => ⟨_, rfl, fun k' u => ?_⟩
   exact C k' (u47.trans u)
 · have ha0 : ¬ a = 0 := fun h => by rw [e3.2 h] at hc; cases hc
   replace hO := hO.up u42
   replace hS := hS.up u42
   replace hP := hP.up u42
   replace C := fun k' u => C k' (u42.trans u)
   refine WOf_s (K := 1) (x := W4.zero) WaveV.nil hO fun k43 d43 u43 hQ => ⟨d43, hQ.seg, rfl, ?_⟩
   replace hS := hS.up u43
   replace hP := hP.up u43
   replace hW := hW.up u43
   replace C := fun k' u => C k' (u43.trans u)
   clear u43
   refine WSame_t hP hQ rfl (by decide) (by decide) fun k44 u44 => ⟨_, rfl, fun _ => ?_, fun h => (nomatch h)⟩
   replace hS := hS.up u44
   replace hW := hW.up u44
   replace C := fun k' u => C k' (u44.trans u)
   clear u44
   refine WOf_s hS hW fun k45 d45 u45 hT => ⟨d45, hT.seg, rfl, ?_⟩
   replace hS := hS.up u45
   replace C := fun k' u => C k' (u45.trans u)
   clear u45
   refine WSame_t hS hT (by rw [if_neg ha0]; rfl) (by decide) (by decide) fun k46 u46 => ⟨_, rfl, fun k' u => ?_⟩
   exact C k' (u46.trans u)
end
end Go.Proofs.YtpjakokgmgggiaaGreat

