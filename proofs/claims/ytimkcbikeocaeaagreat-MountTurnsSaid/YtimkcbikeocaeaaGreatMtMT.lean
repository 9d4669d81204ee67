/- Several texts in one. (Printed by prep.py.) -/
import Derived.Test.YtimkcbikeocaeaaGreatMtS4
import Derived.Test.YtimkcbikeocaeaaGreatMtS5
import Derived.Test.YtimkcbikeocaeaaGreatProg
import Derived.Test.YtimkcbikeocaeaaGreatMtSy14
import Derived.Test.YtimkcbikeocaeaaGreatMtS6
import Derived.Test.YtimkcbikeocaeaaGreatMtQ5
import Derived.Test.YtimkcbikeocaeaaGreatMtG2
/- Complex numbers of Surds, the turns by 24ths, and their sums. No program. -/
namespace Go.Proofs.YtimkcbikeocaeaaGreat
open Num Plain
structure W4 where
 (re im : Q4)
theorem W4.ext' {x y : W4} (h1 : x.re = y.re) (h2 : x.im = y.im) : x = y := by cases x; cases y; simp_all
instance : DecidableEq Q4 := fun x y => decidable_of_iff (x.a = y.a ∧ x.b = y.b ∧ x.c = y.c ∧ x.d = y.d)
 ⟨fun ⟨h1, h2, h3, h4⟩ => Q4.ext' h1 h2 h3 h4, fun h => by rw [h]; exact ⟨rfl, rfl, rfl, rfl⟩⟩
instance : DecidableEq W4 := fun x y => decidable_of_iff (x.re = y.re ∧ x.im = y.im)
 ⟨fun ⟨h1, h2⟩ => W4.ext' h1 h2, fun h => by rw [h]; exact ⟨rfl, rfl⟩⟩
def W4.add (x y : W4) : W4 := ⟨x.re.add y.re, x.im.add y.im⟩
def W4.sub (x y : W4) : W4 := ⟨x.re.sub y.re, x.im.sub y.im⟩
def W4.mul (x y : W4) : W4 := ⟨(x.re.mul y.re).sub (x.im.mul y.im), (x.re.mul y.im).add (x.im.mul y.re)⟩
def W4.neg (x : W4) : W4 := ⟨x.re.neg, x.im.neg⟩
def W4.conj (x : W4) : W4 := ⟨x.re, x.im.neg⟩
def W4.norm (x : W4) : Q4 := (x.re.mul x.re).add (x.im.mul x.im)
def W4.zero : W4 := ⟨Q4.zero, Q4.zero⟩
def W4.real (q : Rat) : W4 := ⟨Q4.real q, Q4.zero⟩
theorem Q4.sub_zero_iff {x y : Q4} : x.sub y = Q4.zero ↔ x = y := by
 constructor
 · intro h
   have ha := congrArg Q4.a h
   have hb := congrArg Q4.b h
   have hc := congrArg Q4.c h
   have hd := congrArg Q4.d h
   simp only [Q4.sub, Q4.add, Q4.neg, Q4.zero] at ha hb hc hd
   exact Q4.ext' (by grind) (by grind) (by grind) (by grind)
 · intro h
   subst h
   simp only [Q4.sub, Q4.add, Q4.neg, Q4.zero]
   exact Q4.ext' (by grind) (by grind) (by grind) (by grind)
def cosB : Nat → Q4
 | 0 => ⟨1, 0, 0, 0⟩
 | 1 => ⟨0, 1 / 4, 0, 1 / 4⟩
 | 2 => ⟨0, 0, 1 / 2, 0⟩
 | 3 => ⟨0, 1 / 2, 0, 0⟩
 | 4 => ⟨1 / 2, 0, 0, 0⟩
 | 5 => ⟨0, -1 / 4, 0, 1 / 4⟩
 | _ => ⟨0, 0, 0, 0⟩
def cosM (m : Nat) : Q4 := if 6 < m then (cosB (12 - m)).neg else cosB m
def cosQ (n : Nat) : Q4 := if 12 < n then cosM (24 - n) else cosM n
def turnW (n : Nat) : W4 := ⟨cosQ n, cosQ ((n + 18) % 24)⟩
def plc (k : Int) : Nat := (k % 24).toNat
theorem plc_lt (k : Int) : plc k < 24 := by unfold plc; omega
def sumP (k : Nat) : Nat → W4
 | 0 => W4.zero
 | j + 1 => (sumP k j).add (turnW (j * k % 24))
def q4s (q : Rat) : Bool := (4 * q).den == 1 && decide ((4 * q).num.natAbs ≤ 1000)
def Q4.small (v : Q4) : Bool := q4s v.a && q4s v.b && q4s v.c && q4s v.d
def W4.small (v : W4) : Bool := v.re.small && v.im.small
theorem turn_mul : ∀ a, a < 24 → ∀ b, b < 24 → (turnW a).mul (turnW b) = turnW ((a + b) % 24) := by decide +kernel
theorem turn_norm : ∀ a, a < 24 → (turnW a).norm = Q4.real 1 := by decide +kernel
end Go.Proofs.YtimkcbikeocaeaaGreat

/- Quotients of Surds and of complex numbers. No program. -/
namespace Go.Proofs.YtimkcbikeocaeaaGreat
open Num Plain
def Q4.t1 (y : Q4) : Q4 := ⟨y.a, -y.b, y.c, -y.d⟩
def Q4.t2 (y : Q4) : Q4 := ⟨y.a, y.b, -y.c, -y.d⟩
def Q4.cnj (y : Q4) : Q4 := (y.t1.mul y.t2).mul y.t1.t2
def Q4.div (x y : Q4) : Q4 := ⟨(x.mul y.cnj).a / (y.mul y.cnj).a, (x.mul y.cnj).b / (y.mul y.cnj).a, (x.mul y.cnj).c / (y.mul y.cnj).a, (x.mul y.cnj).d / (y.mul y.cnj).a⟩
def W4.div (x y : W4) : W4 := ⟨(x.mul y.conj).re.div y.norm, (x.mul y.conj).im.div y.norm⟩
end Go.Proofs.YtimkcbikeocaeaaGreat

/- What is to be shown of the calls of some functions. (Printed by gen/vc.py.) -/
namespace Go.Proofs.YtimkcbikeocaeaaGreat
open Go.RowKit
open Sy (Up Sees CallsG Seg execFn_use)
set_option maxRecDepth 100000
variable {k : World} {R : World → Value → Prop}
theorem wAdd_vc {cs0 cs1 cs2 cs3 : Array Value} (hcs0 : Seg 9 cs0) (hcs1 : Seg 9 cs1) (hcs2 : Seg 9 cs2) (hcs3 : Seg 9 cs3)
    (h : ∀ k0, Up k k0 → CallsG Tryz.prog 23 #[Value.agg cs0, Value.agg cs2] k0 fun k1 r0 => ∃ cs4, Seg 9 cs4 ∧ some (Value.agg cs4) = some r0 ∧
 ∀ k2, Up k1 k2 → CallsG Tryz.prog 23 #[Value.agg cs1, Value.agg cs3] k2 fun k3 r2 => ∃ cs5, Seg 9 cs5 ∧ some (Value.agg cs5) = some r2 ∧
 ∀ k4, Up k3 k4 → R k4 (Value.agg (cs4.toList ++ (cs5.toList ++ ([]))).toArray)) :
    CallsG Tryz.prog 22 #[Value.agg (cs0.toList ++ (cs1.toList ++ ([]))).toArray, Value.agg (cs2.toList ++ (cs3.toList ++ ([]))).toArray] k R :=
  execFn_use (cfg := { opq := [32] }) (args := [.agg [.seg 0 9, .seg 1 9], .agg [.seg 2 9, .seg 3 9]]) (vals := [Value.agg cs0, Value.agg cs1, Value.agg cs2, Value.agg cs3]) (kinds := [.seg 9, .seg 9, .seg 9, .seg 9]) (by kernel_rfl) ⟨⟨cs0, rfl, hcs0⟩, ⟨⟨cs1, rfl, hcs1⟩, ⟨⟨cs2, rfl, hcs2⟩, ⟨⟨cs3, rfl, hcs3⟩, trivial⟩⟩⟩⟩ (by kernel_rfl) (by kernel_rfl) h
theorem wMul_vc {cs0 cs1 cs2 cs3 : Array Value} (hcs0 : Seg 9 cs0) (hcs1 : Seg 9 cs1) (hcs2 : Seg 9 cs2) (hcs3 : Seg 9 cs3)
    (h : ∀ k0, Up k k0 → CallsG Tryz.prog 20 #[Value.agg cs0, Value.agg cs2] k0 fun k1 r0 => ∃ cs4, Seg 9 cs4 ∧ some (Value.agg cs4) = some r0 ∧
 ∀ k2, Up k1 k2 → CallsG Tryz.prog 20 #[Value.agg cs1, Value.agg cs3] k2 fun k3 r2 => ∃ cs5, Seg 9 cs5 ∧ some (Value.agg cs5) = some r2 ∧
 ∀ k4, Up k3 k4 → CallsG Tryz.prog 21 #[Value.agg cs4, Value.agg cs5] k4 fun k5 r4 => ∃ cs6, Seg 9 cs6 ∧ some (Value.agg cs6) = some r4 ∧
 ∀ k6, Up k5 k6 → CallsG Tryz.prog 20 #[Value.agg cs0, Value.agg cs3] k6 fun k7 r6 => ∃ cs7, Seg 9 cs7 ∧ some (Value.agg cs7) = some r6 ∧
 ∀ k8, Up k7 k8 → CallsG Tryz.prog 20 #[Value.agg cs1, Value.agg cs2] k8 fun k9 r8 => ∃ cs8, Seg 9 cs8 ∧ some (Value.agg cs8) = some r8 ∧
 ∀ k10, Up k9 k10 → CallsG Tryz.prog 23 #[Value.agg cs7, Value.agg cs8] k10 fun k11 r10 => ∃ cs9, Seg 9 cs9 ∧ some (Value.agg cs9) = some r10 ∧
 ∀ k12, Up k11 k12 → R k12 (Value.agg (cs6.toList ++ (cs9.toList ++ ([]))).toArray)) :
    CallsG Tryz.prog 11 #[Value.agg (cs0.toList ++ (cs1.toList ++ ([]))).toArray, Value.agg (cs2.toList ++ (cs3.toList ++ ([]))).toArray] k R :=
  execFn_use (cfg := { opq := [32] }) (args := [.agg [.seg 0 9, .seg 1 9], .agg [.seg 2 9, .seg 3 9]]) (vals := [Value.agg cs0, Value.agg cs1, Value.agg cs2, Value.agg cs3]) (kinds := [.seg 9, .seg 9, .seg 9, .seg 9]) (by kernel_rfl) ⟨⟨cs0, rfl, hcs0⟩, ⟨⟨cs1, rfl, hcs1⟩, ⟨⟨cs2, rfl, hcs2⟩, ⟨⟨cs3, rfl, hcs3⟩, trivial⟩⟩⟩⟩ (by kernel_rfl) (by kernel_rfl) h
theorem wConj_vc {cs0 cs1 : Array Value} (hcs0 : Seg 9 cs0) (hcs1 : Seg 9 cs1)
    (h : ∀ k0, Up k k0 → CallsG Tryz.prog 33 #[Value.agg cs1] k0 fun k1 r0 => ∃ cs2, Seg 9 cs2 ∧ some (Value.agg cs2) = some r0 ∧
 ∀ k2, Up k1 k2 → R k2 (Value.agg (cs0.toList ++ (cs2.toList ++ ([]))).toArray)) :
    CallsG Tryz.prog 17 #[Value.agg (cs0.toList ++ (cs1.toList ++ ([]))).toArray] k R :=
  execFn_use (cfg := { opq := [32] }) (args := [.agg [.seg 0 9, .seg 1 9]]) (vals := [Value.agg cs0, Value.agg cs1]) (kinds := [.seg 9, .seg 9]) (by kernel_rfl) ⟨⟨cs0, rfl, hcs0⟩, ⟨⟨cs1, rfl, hcs1⟩, trivial⟩⟩ (by kernel_rfl) (by kernel_rfl) h
theorem wNorm_vc {cs0 cs1 : Array Value} (hcs0 : Seg 9 cs0) (hcs1 : Seg 9 cs1)
    (h : ∀ k0, Up k k0 → CallsG Tryz.prog 20 #[Value.agg cs0, Value.agg cs0] k0 fun k1 r0 => ∃ cs2, Seg 9 cs2 ∧ some (Value.agg cs2) = some r0 ∧
 ∀ k2, Up k1 k2 → CallsG Tryz.prog 20 #[Value.agg cs1, Value.agg cs1] k2 fun k3 r2 => ∃ cs3, Seg 9 cs3 ∧ some (Value.agg cs3) = some r2 ∧
 ∀ k4, Up k3 k4 → CallsG Tryz.prog 23 #[Value.agg cs2, Value.agg cs3] k4 fun k5 r4 => ∃ cs4, Seg 9 cs4 ∧ some (Value.agg cs4) = some r4 ∧
 ∀ k6, Up k5 k6 → R k6 (Value.agg cs4)) :
    CallsG Tryz.prog 7 #[Value.agg (cs0.toList ++ (cs1.toList ++ ([]))).toArray] k R :=
  execFn_use (cfg := { opq := [32] }) (args := [.agg [.seg 0 9, .seg 1 9]]) (vals := [Value.agg cs0, Value.agg cs1]) (kinds := [.seg 9, .seg 9]) (by kernel_rfl) ⟨⟨cs0, rfl, hcs0⟩, ⟨⟨cs1, rfl, hcs1⟩, trivial⟩⟩ (by kernel_rfl) (by kernel_rfl) h
theorem wRe_vc {cs0 cs1 : Array Value} (hcs0 : Seg 9 cs0) (hcs1 : Seg 9 cs1)
   (h : ∀ k0, Up k k0 → R k0 (Value.agg cs0)) :
   CallsG Tryz.prog 18 #[Value.agg (cs0.toList ++ (cs1.toList ++ ([]))).toArray] k R :=
 execFn_use (cfg := { opq := [32] }) (args := [.agg [.seg 0 9, .seg 1 9]]) (vals := [Value.agg cs0, Value.agg cs1]) (kinds := [.seg 9, .seg 9]) (by kernel_rfl) ⟨⟨cs0, rfl, hcs0⟩, ⟨⟨cs1, rfl, hcs1⟩, trivial⟩⟩ (by kernel_rfl) (by kernel_rfl) h
theorem pair_vc {cs0 cs1 : Array Value} (hcs0 : Seg 9 cs0) (hcs1 : Seg 9 cs1)
   (h : ∀ k0, Up k k0 → R k0 (Value.agg (cs0.toList ++ (cs1.toList ++ ([]))).toArray)) :
   CallsG Tryz.prog 30 #[Value.agg cs0, Value.agg cs1] k R :=
 execFn_use (cfg := { opq := [32] }) (args := [.agg [.seg 0 9], .agg [.seg 1 9]]) (vals := [Value.agg cs0, Value.agg cs1]) (kinds := [.seg 9, .seg 9]) (by kernel_rfl) ⟨⟨cs0, rfl, hcs0⟩, ⟨⟨cs1, rfl, hcs1⟩, trivial⟩⟩ (by kernel_rfl) (by kernel_rfl) h
end Go.Proofs.YtimkcbikeocaeaaGreat

/- Waves of the program. (Printed by gen/waves.py.) -/
namespace Go.Proofs.YtimkcbikeocaeaaGreat
open Go.RowKit Num Plain
open Sy (Up Sees CallsG Seg)
def cat2 (c0 c1 : Array Value) : Array Value := (c0.toList ++ (c1.toList ++ ([]))).toArray
theorem seg_cat2 {m n : Nat} {c0 c1 : Array Value} (h0 : Seg m c0) (h1 : Seg n c1) : Seg (m + n) (cat2 c0 c1) := by
 obtain ⟨a0, b0⟩ := h0
 obtain ⟨a1, b1⟩ := h1
 refine ⟨by simp [cat2, a0, a1], fun u hu => ?_⟩
 simp only [cat2, List.append_nil, List.mem_append] at hu
 rcases hu with hu | hu
 · exact b0 u hu
 · exact b1 u hu
def WaveV (k : World) (cs : Array Value) (w : W4) (K : Nat) : Prop := ∃ c0 c1 : Array Value, cs = cat2 c0 c1 ∧ SurdV k c0 w.re K ∧ SurdV k c1 w.im K
section
variable {k k' : World} {cs cs' c0 c1 : Array Value} {R : World → Value → Prop} {v v' : Q4} {x y : W4} {K L : Nat}
theorem WaveV.up (h : WaveV k cs x K) (u : Up k k') : WaveV k' cs x K := by
 obtain ⟨c0, c1, e, h0, h1⟩ := h
 exact ⟨c0, c1, e, h0.up u, h1.up u⟩
theorem WaveV.mono (h : WaveV k cs x K) (hL : K ≤ L) : WaveV k cs x L := by
 obtain ⟨c0, c1, e, h0, h1⟩ := h
 exact ⟨c0, c1, e, h0.mono hL, h1.mono hL⟩
theorem WaveV.seg (h : WaveV k cs x K) : Seg 18 cs := by
 obtain ⟨c0, c1, rfl, h0, h1⟩ := h
 exact seg_cat2 h0.seg h1.seg
theorem WAdd_s (hx : WaveV k cs x K) (hy : WaveV k cs' y K) (hK1 : 1 ≤ K) (hK : K ≤ 134217727) (C : ∀ k' ds, Up k k' → WaveV k' ds (x.add y) (2 * K + 1) → R k' (.agg ds)) :
   ∀ k0, Up k k0 → CallsG Tryz.prog 22 #[.agg cs, .agg cs'] k0 R := by
 intro k0 u0
 obtain ⟨a, b, rfl, a0, b0⟩ := hx.up u0
 obtain ⟨c, d, rfl, c0, d0⟩ := hy.up u0
 refine wAdd_vc a0.seg b0.seg c0.seg d0.seg ?_
 refine SAdd_s a0 c0 hK1 (by omega) fun k1 e1 u1 h1 => ⟨e1, h1.seg, rfl, ?_⟩
 refine SAdd_s (b0.up u1) (d0.up u1) hK1 (by omega) fun k3 e3 u3 h3 => ⟨e3, h3.seg, rfl, fun k4 u4 => ?_⟩
 exact C k4 _ (((u0.trans u1).trans u3).trans u4) ⟨e1, e3, rfl, (h1.up u3).up u4, h3.up u4⟩
theorem WMul_s (hx : WaveV k cs x K) (hy : WaveV k cs' y K) (hK1 : 1 ≤ K) (hK : K ≤ 33554431) (C : ∀ k' ds, Up k k' → WaveV k' ds (x.mul y) (4 * K + 9) → R k' (.agg ds)) :
   ∀ k0, Up k k0 → CallsG Tryz.prog 11 #[.agg cs, .agg cs'] k0 R := by
 intro k0 u0
 obtain ⟨a, b, rfl, a0, b0⟩ := hx.up u0
 obtain ⟨c, d, rfl, c0, d0⟩ := hy.up u0
 refine wMul_vc a0.seg b0.seg c0.seg d0.seg ?_
 refine SMul_s a0 c0 hK1 (by omega) fun k1 e1 u1 h1 => ⟨e1, h1.seg, rfl, ?_⟩
 refine SMul_s (b0.up u1) (d0.up u1) hK1 (by omega) fun k2 e2 u2 h2 => ⟨e2, h2.seg, rfl, ?_⟩
 refine SSub_s (h1.up u2) h2 (by omega) (by omega) fun k3 e3 u3 h3 => ⟨e3, h3.seg, rfl, ?_⟩
 have u123 := (u1.trans u2).trans u3
 refine SMul_s (a0.up u123) (d0.up u123) hK1 (by omega) fun k4 e4 u4 h4 => ⟨e4, h4.seg, rfl, ?_⟩
 refine SMul_s (b0.up (u123.trans u4)) (c0.up (u123.trans u4)) hK1 (by omega) fun k5 e5 u5 h5 => ⟨e5, h5.seg, rfl, ?_⟩
 refine SAdd_s (h4.up u5) h5 (by omega) (by omega) fun k6 e6 u6 h6 => ⟨e6, h6.seg, rfl, fun k7 u7 => ?_⟩
 exact C k7 _ (((((u0.trans u123).trans u4).trans u5).trans u6).trans u7) ⟨e3, e6, rfl, ((((h3.up u4).up u5).up u6).up u7).mono (by omega), (h6.up u7).mono (by omega)⟩
theorem WConj_s (hx : WaveV k cs x K) (hK : K ≤ 268435456) (C : ∀ k' ds, Up k k' → WaveV k' ds x.conj K → R k' (.agg ds)) :
   ∀ k0, Up k k0 → CallsG Tryz.prog 17 #[.agg cs] k0 R := by
 intro k0 u0
 obtain ⟨a, b, rfl, a0, b0⟩ := hx.up u0
 refine wConj_vc a0.seg b0.seg ?_
 refine SNeg_s b0 hK fun k2 e2 u2 h2 => ⟨e2, h2.seg, rfl, fun k4 u4 => ?_⟩
 exact C k4 _ ((u0.trans u2).trans u4) ⟨a, e2, rfl, (a0.up u2).up u4, h2.up u4⟩
theorem WNorm_s (hx : WaveV k cs x K) (hK1 : 1 ≤ K) (hK : K ≤ 33554431) (C : ∀ k' ds, Up k k' → SurdV k' ds x.norm (4 * K + 9) → R k' (.agg ds)) :
   ∀ k0, Up k k0 → CallsG Tryz.prog 7 #[.agg cs] k0 R := by
 intro k0 u0
 obtain ⟨a, b, rfl, a0, b0⟩ := hx.up u0
 refine wNorm_vc a0.seg b0.seg ?_
 refine SMul_s a0 a0 hK1 (by omega) fun k1 e1 u1 h1 => ⟨e1, h1.seg, rfl, ?_⟩
 refine SMul_s (b0.up u1) (b0.up u1) hK1 (by omega) fun k2 e2 u2 h2 => ⟨e2, h2.seg, rfl, ?_⟩
 refine SAdd_s (h1.up u2) h2 (by omega) (by omega) fun k3 e3 u3 h3 => ⟨e3, h3.seg, rfl, fun k4 u4 => ?_⟩
 exact C k4 _ ((((u0.trans u1).trans u2).trans u3).trans u4) ((h3.up u4).mono (by omega))
theorem WRe_s (hx : WaveV k cs x K) (C : ∀ k' ds, Up k k' → SurdV k' ds x.re K → R k' (.agg ds)) :
   ∀ k0, Up k k0 → CallsG Tryz.prog 18 #[.agg cs] k0 R := by
 intro k0 u0
 obtain ⟨a, b, rfl, a0, b0⟩ := hx.up u0
 exact wRe_vc a0.seg b0.seg fun k1 u1 => C k1 _ (u0.trans u1) (a0.up u1)
theorem pair_s (hx : SurdV k cs v K) (hy : SurdV k cs' v' K) (C : ∀ k' ds, Up k k' → WaveV k' ds ⟨v, v'⟩ K → R k' (.agg ds)) :
   ∀ k0, Up k k0 → CallsG Tryz.prog 30 #[.agg cs, .agg cs'] k0 R :=
 fun _ u0 => pair_vc hx.seg hy.seg fun k1 u1 => C k1 _ (u0.trans u1) ⟨cs, cs', rfl, (hx.up u0).up u1, (hy.up u0).up u1⟩
end
end Go.Proofs.YtimkcbikeocaeaaGreat

/- What is to be shown of the calls of some functions. (Printed by gen/vc.py.) -/
namespace Go.Proofs.YtimkcbikeocaeaaGreat
open Go.RowKit
open Sy (Up Sees CallsG Seg execFn_use)
set_option maxRecDepth 100000
variable {k : World} {R : World → Value → Prop}
theorem Of_vc {n0 n1 : Int}
    (h : (((n1 : Int) == 0) = true →
 (∀ k0, Up k k0 → CallsG Tryz.prog 72 #[Value.int .i64 n0] k0 fun k1 r0 => ∃ cs2, Seg 3 cs2 ∧ some (Value.agg cs2) = some r0 ∧
 ∀ k2, Up k1 k2 → R k2 (Value.agg cs2))) ∧
 (((n1 : Int) == 0) = false →
 (∀ k3, Up k k3 → CallsG Tryz.prog 73 #[Value.int .i64 n0, Value.int .i64 n1] k3 fun k4 r3 => ∃ cs2, Seg 3 cs2 ∧ ∃ n3, some (Value.tuple #[Value.agg cs2, Value.int .i64 n3]) = some r3 ∧
 ∀ k5, Up k4 k5 → R k5 (Value.agg cs2)))) :
    CallsG Tryz.prog 55 #[Value.agg #[Value.int .i64 n0, Value.int .i64 n1]] k R :=
  execFn_use (cfg := { opq := [89] }) (args := [.agg [.var 0, .var 1]]) (vals := [Value.int .i64 n0, Value.int .i64 n1]) (kinds := [.int .i64, .int .i64]) (by kernel_rfl) ⟨⟨_, rfl⟩, ⟨⟨_, rfl⟩, trivial⟩⟩ (by kernel_rfl) (by kernel_rfl) h
end Go.Proofs.YtimkcbikeocaeaaGreat

/- What is to be shown of the calls of some functions. (Printed by gen/vc.py.) -/
namespace Go.Proofs.YtimkcbikeocaeaaGreat
open Go.RowKit
open Sy (Up Sees CallsG Seg execFn_use)
set_option maxRecDepth 100000
variable {k : World} {R : World → Value → Prop}
theorem OfQuad_vc {n0 n1 n2 n3 n4 n5 n6 n7 : Int}
    (h : ∀ k0, Up k k0 → CallsG Tryz.prog 55 #[Value.agg #[Value.int .i64 n0, Value.int .i64 n1]] k0 fun k1 r0 => ∃ cs8, Seg 3 cs8 ∧ some (Value.agg cs8) = some r0 ∧
 ∀ k2, Up k1 k2 → CallsG Tryz.prog 55 #[Value.agg #[Value.int .i64 n2, Value.int .i64 n3]] k2 fun k3 r2 => ∃ cs9, Seg 3 cs9 ∧ some (Value.agg cs9) = some r2 ∧
 ∀ k4, Up k3 k4 → CallsG Tryz.prog 55 #[Value.agg #[Value.int .i64 n4, Value.int .i64 n5]] k4 fun k5 r4 => ∃ cs10, Seg 3 cs10 ∧ some (Value.agg cs10) = some r4 ∧
 ∀ k6, Up k5 k6 → CallsG Tryz.prog 55 #[Value.agg #[Value.int .i64 n6, Value.int .i64 n7]] k6 fun k7 r6 => ∃ cs11, Seg 3 cs11 ∧ some (Value.agg cs11) = some r6 ∧
 ∀ k8, Up k7 k8 → CallsG Tryz.prog 54 #[Value.agg (cs8.toList ++ (cs9.toList ++ (cs10.toList ++ (cs11.toList ++ ([]))))).toArray] k8 fun k9 r8 => ∃ cs12, Seg 9 cs12 ∧ some (Value.agg cs12) = some r8 ∧
 ∀ k10, Up k9 k10 → R k10 (Value.agg cs12)) :
    CallsG Tryz.prog 31 #[Value.agg #[Value.int .i64 n0, Value.int .i64 n1, Value.int .i64 n2, Value.int .i64 n3, Value.int .i64 n4, Value.int .i64 n5, Value.int .i64 n6, Value.int .i64 n7]] k R :=
  execFn_use (cfg := { opq := [89, 32] }) (args := [.agg [.var 0, .var 1, .var 2, .var 3, .var 4, .var 5, .var 6, .var 7]]) (vals := [Value.int .i64 n0, Value.int .i64 n1, Value.int .i64 n2, Value.int .i64 n3, Value.int .i64 n4, Value.int .i64 n5, Value.int .i64 n6, Value.int .i64 n7]) (kinds := [.int .i64, .int .i64, .int .i64, .int .i64, .int .i64, .int .i64, .int .i64, .int .i64]) (by kernel_rfl) ⟨⟨_, rfl⟩, ⟨⟨_, rfl⟩, ⟨⟨_, rfl⟩, ⟨⟨_, rfl⟩, ⟨⟨_, rfl⟩, ⟨⟨_, rfl⟩, ⟨⟨_, rfl⟩, ⟨⟨_, rfl⟩, trivial⟩⟩⟩⟩⟩⟩⟩⟩ (by kernel_rfl) (by kernel_rfl) h
theorem OfWave_vc {n0 n1 n2 n3 n4 n5 n6 n7 n8 n9 n10 n11 n12 n13 n14 n15 : Int}
    (h : ∀ k0, Up k k0 → CallsG Tryz.prog 31 #[Value.agg #[Value.int .i64 n0, Value.int .i64 n1, Value.int .i64 n2, Value.int .i64 n3, Value.int .i64 n4, Value.int .i64 n5, Value.int .i64 n6, Value.int .i64 n7]] k0 fun k1 r0 => ∃ cs16, Seg 9 cs16 ∧ some (Value.agg cs16) = some r0 ∧
 ∀ k2, Up k1 k2 → CallsG Tryz.prog 31 #[Value.agg #[Value.int .i64 n8, Value.int .i64 n9, Value.int .i64 n10, Value.int .i64 n11, Value.int .i64 n12, Value.int .i64 n13, Value.int .i64 n14, Value.int .i64 n15]] k2 fun k3 r2 => ∃ cs17, Seg 9 cs17 ∧ some (Value.agg cs17) = some r2 ∧
 ∀ k4, Up k3 k4 → CallsG Tryz.prog 30 #[Value.agg cs16, Value.agg cs17] k4 fun k5 r4 => ∃ cs18, Seg 9 cs18 ∧ ∃ cs19, Seg 9 cs19 ∧ some (Value.agg (cs18.toList ++ (cs19.toList ++ ([]))).toArray) = some r4 ∧
 ∀ k6, Up k5 k6 → R k6 (Value.agg (cs18.toList ++ (cs19.toList ++ ([]))).toArray)) :
    CallsG Tryz.prog 15 #[Value.agg #[Value.int .i64 n0, Value.int .i64 n1, Value.int .i64 n2, Value.int .i64 n3, Value.int .i64 n4, Value.int .i64 n5, Value.int .i64 n6, Value.int .i64 n7, Value.int .i64 n8, Value.int .i64 n9, Value.int .i64 n10, Value.int .i64 n11, Value.int .i64 n12, Value.int .i64 n13, Value.int .i64 n14, Value.int .i64 n15]] k R :=
  execFn_use (cfg := { opq := [32] }) (args := [.agg [.var 0, .var 1, .var 2, .var 3, .var 4, .var 5, .var 6, .var 7, .var 8, .var 9, .var 10, .var 11, .var 12, .var 13, .var 14, .var 15]]) (vals := [Value.int .i64 n0, Value.int .i64 n1, Value.int .i64 n2, Value.int .i64 n3, Value.int .i64 n4, Value.int .i64 n5, Value.int .i64 n6, Value.int .i64 n7, Value.int .i64 n8, Value.int .i64 n9, Value.int .i64 n10, Value.int .i64 n11, Value.int .i64 n12, Value.int .i64 n13, Value.int .i64 n14, Value.int .i64 n15]) (kinds := [.int .i64, .int .i64, .int .i64, .int .i64, .int .i64, .int .i64, .int .i64, .int .i64, .int .i64, .int .i64, .int .i64, .int .i64, .int .i64, .int .i64, .int .i64, .int .i64]) (by kernel_rfl) ⟨⟨_, rfl⟩, ⟨⟨_, rfl⟩, ⟨⟨_, rfl⟩, ⟨⟨_, rfl⟩, ⟨⟨_, rfl⟩, ⟨⟨_, rfl⟩, ⟨⟨_, rfl⟩, ⟨⟨_, rfl⟩, ⟨⟨_, rfl⟩, ⟨⟨_, rfl⟩, ⟨⟨_, rfl⟩, ⟨⟨_, rfl⟩, ⟨⟨_, rfl⟩, ⟨⟨_, rfl⟩, ⟨⟨_, rfl⟩, ⟨⟨_, rfl⟩, trivial⟩⟩⟩⟩⟩⟩⟩⟩⟩⟩⟩⟩⟩⟩⟩⟩ (by kernel_rfl) (by kernel_rfl) h
end Go.Proofs.YtimkcbikeocaeaaGreat

/- Plain data of the program. -/
namespace Go.Proofs.YtimkcbikeocaeaaGreat
open Go.RowKit Num
open Sy (Up Sees CallsG Seg)
section
variable {k k' : World} {R : World → Value → Prop} {K L : Nat} {cs cs' : Array Value}
theorem Of_s {n d : Int} (hn : In64 n) (hd : In64 d) (C : ∀ k' ds, Up k k' → RatV k' ds (ofQ n d) 1 → R k' (.agg ds)) : ∀ k0, Up k k0 → CallsG Tryz.prog 55 #[.agg #[.int .i64 n, .int .i64 d]] k0 R := by
 intro k0 u0
 refine Of_vc ⟨fun hb => ?_, fun hb => ?_⟩
 · have e : d = 0 := eq_of_beq hb
   refine QInt_s hn.1 hn.2 ?_
   intro k1 c1 u1 h1
   refine ⟨c1, h1.seg, rfl, ?_⟩
   intro k2 u2
   refine C k2 c1 (u0.trans (u1.trans u2)) ?_
   unfold ofQ
   rw [if_pos e]
   exact h1.up u2
 · have e : ¬ d = 0 := by simpa using hb
   refine QNew_s hn.1 hn.2 hd.1 hd.2 ?_
   intro k1 c1 u1 h1
   refine ⟨c1, h1.seg, _, rfl, ?_⟩
   intro k2 u2
   refine C k2 c1 (u0.trans (u1.trans u2)) ?_
   unfold ofQ
   rw [if_neg e]
   exact h1.up u2
theorem OfQuad_s {n0 n1 n2 n3 n4 n5 n6 n7 : Int} (h0 : In64 n0) (h1 : In64 n1) (h2 : In64 n2) (h3 : In64 n3) (h4 : In64 n4) (h5 : In64 n5) (h6 : In64 n6) (h7 : In64 n7) (C : ∀ k' ds, Up k k' → SurdV k' ds ⟨ofQ n0 n1, ofQ n2 n3, ofQ n4 n5, ofQ n6 n7⟩ 6 → R k' (.agg ds)) :
   ∀ k0, Up k k0 → CallsG Tryz.prog 31 #[.agg #[.int .i64 n0, .int .i64 n1, .int .i64 n2, .int .i64 n3, .int .i64 n4, .int .i64 n5, .int .i64 n6, .int .i64 n7]] k0 R := by
 intro k0 u0
 replace C := fun k' ds u => C k' ds (u0.trans u)
 refine OfQuad_vc ?_
 refine Of_s h0 h1 ?_
 intro k1 c1 u1 q1
 refine ⟨c1, q1.seg, rfl, ?_⟩
 refine Of_s h2 h3 ?_
 intro k2 c2 u2 q2
 refine ⟨c2, q2.seg, rfl, ?_⟩
 refine Of_s h4 h5 ?_
 intro k3 c3 u3 q3
 refine ⟨c3, q3.seg, rfl, ?_⟩
 refine Of_s h6 h7 ?_
 intro k4 c4 u4 q4
 refine ⟨c4, q4.seg, rfl, ?_⟩
 refine Make_s (((q1.up u2).up u3).up u4) ((q2.up u3).up u4) (q3.up u4) q4 (by omega) (by omega) ?_
 intro k5 c5 u5 h5
 refine ⟨c5, h5.seg, rfl, ?_⟩
 intro k6 u6
 exact C k6 c5 (((((u1.trans u2).trans u3).trans u4).trans u5).trans u6) (h5.up u6)
theorem OfWave_s {n0 n1 n2 n3 n4 n5 n6 n7 n8 n9 n10 n11 n12 n13 n14 n15 : Int} (h0 : In64 n0) (h1 : In64 n1) (h2 : In64 n2) (h3 : In64 n3) (h4 : In64 n4) (h5 : In64 n5) (h6 : In64 n6) (h7 : In64 n7) (h8 : In64 n8) (h9 : In64 n9) (h10 : In64 n10) (h11 : In64 n11) (h12 : In64 n12) (h13 : In64 n13) (h14 : In64 n14) (h15 : In64 n15) (C : ∀ k' ds, Up k k' → WaveV k' ds ⟨⟨ofQ n0 n1, ofQ n2 n3, ofQ n4 n5, ofQ n6 n7⟩, ⟨ofQ n8 n9, ofQ n10 n11, ofQ n12 n13, ofQ n14 n15⟩⟩ 6 → R k' (.agg ds)) :
   ∀ k0, Up k k0 → CallsG Tryz.prog 15 #[.agg #[.int .i64 n0, .int .i64 n1, .int .i64 n2, .int .i64 n3, .int .i64 n4, .int .i64 n5, .int .i64 n6, .int .i64 n7, .int .i64 n8, .int .i64 n9, .int .i64 n10, .int .i64 n11, .int .i64 n12, .int .i64 n13, .int .i64 n14, .int .i64 n15]] k0 R := by
 intro k0 u0
 refine OfWave_vc (OfQuad_s h0 h1 h2 h3 h4 h5 h6 h7 fun k1 d1 u1 q1 => ⟨d1, q1.seg, rfl, ?_⟩)
 refine OfQuad_s h8 h9 h10 h11 h12 h13 h14 h15 fun k3 d3 u3 q3 => ⟨d3, q3.seg, rfl, ?_⟩
 refine pair_s (q1.up u3) q3 fun k5 d5 u5 q5 => ?_
 have q5' := q5
 obtain ⟨a, b, rfl, a0, b0⟩ := q5'
 exact ⟨a, a0.seg, b, b0.seg, rfl, fun k6 u6 => C k6 _ ((((u0.trans u1).trans u3).trans u5).trans u6) (q5.up u6)⟩
end
end Go.Proofs.YtimkcbikeocaeaaGreat

/- The laws of a field, for the parts of Surds and of Waves. No program. (Printed by gen/fieldz.py.) -/
namespace Go.Proofs.YtimkcbikeocaeaaGreat
open Num Plain
namespace Q23L
theorem add_comm (a b : Q23) : a + b = b + a := by (refine Q23.ext' (Q2.ext' ?_ ?_) (Q2.ext' ?_ ?_) <;> (simp only [Q23.add_re, Q23.add_im, Q2.add_re, Q2.add_im]; grind))
theorem add_assoc (a b c : Q23) : a + b + c = a + (b + c) := by (refine Q23.ext' (Q2.ext' ?_ ?_) (Q2.ext' ?_ ?_) <;> (simp only [Q23.add_re, Q23.add_im, Q2.add_re, Q2.add_im]; grind))
theorem mul_comm (a b : Q23) : a * b = b * a := by (refine Q23.ext' (Q2.ext' ?_ ?_) (Q2.ext' ?_ ?_) <;> (simp only [Q23.mul_re, Q23.mul_im, Q2.add_re, Q2.add_im, Q2.mul_re, Q2.mul_im, Q2.three_re, Q2.three_im]; grind))
theorem mul_assoc (a b c : Q23) : a * b * c = a * (b * c) := by (refine Q23.ext' (Q2.ext' ?_ ?_) (Q2.ext' ?_ ?_) <;> (simp only [Q23.mul_re, Q23.mul_im, Q2.add_re, Q2.add_im, Q2.mul_re, Q2.mul_im, Q2.three_re, Q2.three_im]; grind))
theorem add_mul (a b c : Q23) : (a + b) * c = a * c + b * c := by (refine Q23.ext' (Q2.ext' ?_ ?_) (Q2.ext' ?_ ?_) <;> (simp only [Q23.add_re, Q23.add_im, Q23.mul_re, Q23.mul_im, Q2.add_re, Q2.add_im, Q2.mul_re, Q2.mul_im, Q2.three_re, Q2.three_im]; grind))
theorem mul_add (a b c : Q23) : a * (b + c) = a * b + a * c := by (refine Q23.ext' (Q2.ext' ?_ ?_) (Q2.ext' ?_ ?_) <;> (simp only [Q23.add_re, Q23.add_im, Q23.mul_re, Q23.mul_im, Q2.add_re, Q2.add_im, Q2.mul_re, Q2.mul_im, Q2.three_re, Q2.three_im]; grind))
theorem sub_eq (a b : Q23) : a - b = a + -b := by (refine Q23.ext' (Q2.ext' ?_ ?_) (Q2.ext' ?_ ?_) <;> (simp only [Q23.add_re, Q23.add_im, Q23.neg_re, Q23.neg_im, Q23.sub_re, Q23.sub_im, Q2.add_re, Q2.add_im, Q2.neg_re, Q2.neg_im, Q2.sub_re, Q2.sub_im]; grind))
theorem neg_add (a b : Q23) : -(a + b) = -a + -b := by (refine Q23.ext' (Q2.ext' ?_ ?_) (Q2.ext' ?_ ?_) <;> (simp only [Q23.add_re, Q23.add_im, Q23.neg_re, Q23.neg_im, Q2.add_re, Q2.add_im, Q2.neg_re, Q2.neg_im]; grind))
theorem neg_mul (a b : Q23) : -a * b = -(a * b) := by (refine Q23.ext' (Q2.ext' ?_ ?_) (Q2.ext' ?_ ?_) <;> (simp only [Q23.mul_re, Q23.mul_im, Q23.neg_re, Q23.neg_im, Q2.add_re, Q2.add_im, Q2.mul_re, Q2.mul_im, Q2.neg_re, Q2.neg_im, Q2.three_re, Q2.three_im]; grind))
theorem mul_neg (a b : Q23) : a * -b = -(a * b) := by (refine Q23.ext' (Q2.ext' ?_ ?_) (Q2.ext' ?_ ?_) <;> (simp only [Q23.mul_re, Q23.mul_im, Q23.neg_re, Q23.neg_im, Q2.add_re, Q2.add_im, Q2.mul_re, Q2.mul_im, Q2.neg_re, Q2.neg_im, Q2.three_re, Q2.three_im]; grind))
theorem add_left (a b c : Q23) : a + (b + c) = b + (a + c) := by (refine Q23.ext' (Q2.ext' ?_ ?_) (Q2.ext' ?_ ?_) <;> (simp only [Q23.add_re, Q23.add_im, Q2.add_re, Q2.add_im]; grind))
theorem mul_left (a b c : Q23) : a * (b * c) = b * (a * c) := by (refine Q23.ext' (Q2.ext' ?_ ?_) (Q2.ext' ?_ ?_) <;> (simp only [Q23.mul_re, Q23.mul_im, Q2.add_re, Q2.add_im, Q2.mul_re, Q2.mul_im, Q2.three_re, Q2.three_im]; grind))
end Q23L
open Q23L
theorem W4.mul_assoc (x y z : W4) : (x.mul y).mul z = x.mul (y.mul z) := by
 refine W4.ext' (toQ_inj ?_) (toQ_inj ?_)
 · simp only [W4.mul, toQ_sub, toQ_mul, toQ_add, Q23L.sub_eq, Q23L.add_mul, Q23L.mul_add, Q23L.neg_mul, Q23L.mul_neg, Q23L.neg_add, Q23L.mul_assoc, Q23L.add_assoc]
   simp only [Q23L.add_assoc, Q23L.add_comm]
 · simp only [W4.mul, toQ_sub, toQ_mul, toQ_add, Q23L.sub_eq, Q23L.add_mul, Q23L.mul_add, Q23L.neg_mul, Q23L.mul_neg, Q23L.mul_assoc, Q23L.add_assoc]
   simp only [Q23L.add_assoc, Q23L.add_comm, Q23L.add_left]
theorem W4.add_mul (x y z : W4) : (x.add y).mul z = (x.mul z).add (y.mul z) := by
 refine W4.ext' (toQ_inj ?_) (toQ_inj ?_)
 · simp only [W4.mul, W4.add, toQ_sub, toQ_mul, toQ_add, Q23L.sub_eq, Q23L.add_mul, Q23L.neg_add, Q23L.add_assoc]
   simp only [Q23L.add_left]
 · simp only [W4.mul, W4.add, toQ_mul, toQ_add, Q23L.add_mul, Q23L.add_assoc]
   simp only [Q23L.add_assoc, Q23L.add_comm, Q23L.add_left]
end Go.Proofs.YtimkcbikeocaeaaGreat

/- The greatest of all places, and Norms. No program. (Printed by gen/sizez.py.) -/
namespace Go.Proofs.YtimkcbikeocaeaaGreat
open Num Plain Q23L
noncomputable def sgd (a b : Q4) : Int := C.sg (a.sub b).toQ
theorem sgd_zero {a b : Q4} : sgd a b = 0 ↔ a = b := by
 unfold sgd
 rw [C.sg_eq_zero]
 constructor
 · intro h; exact Q4.sub_zero_iff.1 (toQ_inj (h.trans toQ_zero.symm))
 · intro h; rw [Q4.sub_zero_iff.2 h, toQ_zero]
theorem sgd_self (a : Q4) : sgd a a = 0 := sgd_zero.2 rfl
theorem sgd_neg (a b : Q4) : sgd b a = - sgd a b := by
 unfold sgd
 rw [← C.sg_minus, toQ_sub, toQ_sub]
 congr 1
 generalize a.toQ = p
 generalize b.toQ = q
 (refine Q23.ext' (Q2.ext' ?_ ?_) (Q2.ext' ?_ ?_) <;> (simp only [Q23.neg_re, Q23.neg_im, Q23.sub_re, Q23.sub_im, Q2.neg_re, Q2.neg_im, Q2.sub_re, Q2.sub_im]; grind))
theorem sgd_trans {a b c : Q4} (h : sgd a b ≤ 0) (h' : sgd b c ≤ 0) : sgd a c ≤ 0 := by
 unfold sgd at *
 rw [toQ_sub] at *
 exact C.ord6 h h'
theorem sgd_strict {a b c : Q4} (h : sgd a b ≤ 0) (h' : sgd b c < 0) : sgd a c < 0 := by
 have h1 := sgd_trans h (Int.le_of_lt h')
 have hne : sgd a c ≠ 0 := fun e => by
   have := sgd_zero.1 e
   subst this
   rw [sgd_neg] at h'
   omega
 omega
theorem turn_zero : turnW 0 = W4.real 1 := by decide +kernel
theorem W4.mul_one (x : W4) : x.mul (W4.real 1) = x := by
 refine W4.ext' (toQ_inj ?_) (toQ_inj ?_)
 · show ((x.re.mul (Q4.real 1)).sub (x.im.mul Q4.zero)).toQ = _
   rw [toQ_sub, toQ_mul, toQ_mul, toQ_zero, show (Q4.real 1).toQ = 1 from rfl]
   generalize x.re.toQ = p
   generalize x.im.toQ = q
   (refine Q23.ext' (Q2.ext' ?_ ?_) (Q2.ext' ?_ ?_) <;> (simp only [Q23.mul_re, Q23.mul_im, Q23.sub_re, Q23.sub_im, Q23.one_re, Q23.one_im, Q23.zero_re, Q23.zero_im, Q2.add_re, Q2.add_im, Q2.mul_re, Q2.mul_im, Q2.sub_re, Q2.sub_im, Q2.one_re, Q2.one_im, Q2.zero_re, Q2.zero_im, Q2.three_re, Q2.three_im]; grind))
 · show ((x.re.mul Q4.zero).add (x.im.mul (Q4.real 1))).toQ = _
   rw [toQ_add, toQ_mul, toQ_mul, toQ_zero, show (Q4.real 1).toQ = 1 from rfl]
   generalize x.re.toQ = p
   generalize x.im.toQ = q
   (refine Q23.ext' (Q2.ext' ?_ ?_) (Q2.ext' ?_ ?_) <;> (simp only [Q23.add_re, Q23.add_im, Q23.mul_re, Q23.mul_im, Q23.one_re, Q23.one_im, Q23.zero_re, Q23.zero_im, Q2.add_re, Q2.add_im, Q2.mul_re, Q2.mul_im, Q2.one_re, Q2.one_im, Q2.zero_re, Q2.zero_im, Q2.three_re, Q2.three_im]; grind))
def fAt (x : W4) (k : Nat) : Q4 := (x.mul (turnW ((24 - k) % 24))).re
theorem fAt_zero (x : W4) : fAt x 0 = x.re := by
 unfold fAt
 rw [show (24 - 0) % 24 = 0 from rfl, turn_zero, W4.mul_one]
noncomputable def hi (x : W4) : Nat → Nat × Q4
 | 0 => (0, x.re)
 | j + 1 => if 0 < sgd (fAt x (j + 1)) (hi x j).2 then (j + 1, fAt x (j + 1)) else hi x j
theorem hi_spec (x : W4) (j : Nat) : (hi x j).1 ≤ j ∧ (hi x j).2 = fAt x (hi x j).1 ∧ (∀ i, i ≤ j → sgd (fAt x i) (hi x j).2 ≤ 0) ∧ ∀ i, i < (hi x j).1 → sgd (fAt x i) (hi x j).2 < 0 := by
 induction j with
 | zero =>
   refine ⟨Nat.le_refl _, (fAt_zero x).symm, fun i hi => ?_, fun i hi => absurd hi (Nat.not_lt_zero _)⟩
   have : i = 0 := by omega
   subst this
   rw [fAt_zero]
   show sgd x.re x.re ≤ 0
   rw [sgd_self]
   decide
 | succ j ih =>
   obtain ⟨h1, h2, h3, h4⟩ := ih
   by_cases hc : 0 < sgd (fAt x (j + 1)) (hi x j).2
   · have e : hi x (j + 1) = (j + 1, fAt x (j + 1)) := by show (if _ then _ else _) = _; rw [if_pos hc]
     rw [e]
     have hb : sgd (hi x j).2 (fAt x (j + 1)) < 0 := by rw [sgd_neg]; omega
     have hs : ∀ i, i ≤ j → sgd (fAt x i) (fAt x (j + 1)) < 0 := fun i hi => sgd_strict (h3 i hi) hb
     refine ⟨Nat.le_refl _, rfl, fun i hi => ?_, fun i hi => hs i (by have : i < j + 1 := hi; omega)⟩
     by_cases e2 : i = j + 1
     · subst e2
       show sgd (fAt x (j + 1)) (fAt x (j + 1)) ≤ 0
       rw [sgd_self]
       decide
     · exact Int.le_of_lt (hs i (by omega))
   · have e : hi x (j + 1) = hi x j := by show (if _ then _ else _) = _; rw [if_neg hc]
     rw [e]
     refine ⟨by omega, h2, fun i hi => ?_, h4⟩
     by_cases e2 : i = j + 1
     · subst e2; omega
     · exact h3 i (by omega)
noncomputable def cnt (x : W4) (s : Q4) (k : Nat) : Nat := ((List.range k).filter fun i => decide (sgd (fAt x i) s = 0)).length
theorem W4.norm_mul (x y : W4) : (x.mul y).norm = x.norm.mul y.norm := by
 refine toQ_inj ?_
 simp only [W4.norm, W4.mul, toQ_add, toQ_mul, toQ_sub]
 generalize x.re.toQ = a
 generalize x.im.toQ = b
 generalize y.re.toQ = c
 generalize y.im.toQ = d
 have k1 : ∀ p q r t : Q23, (p - q) * (p - q) + (r + t) * (r + t) = (p * p + q * q + (r * r + t * t)) + ((r * t + t * r) - (p * q + q * p)) := by
   intro p q r t
   (refine Q23.ext' (Q2.ext' ?_ ?_) (Q2.ext' ?_ ?_) <;> (simp only [Q23.add_re, Q23.add_im, Q23.mul_re, Q23.mul_im, Q23.sub_re, Q23.sub_im, Q2.add_re, Q2.add_im, Q2.mul_re, Q2.mul_im, Q2.sub_re, Q2.sub_im, Q2.three_re, Q2.three_im]; grind))
 have k2 : a * d * (b * c) + b * c * (a * d) - (a * c * (b * d) + b * d * (a * c)) = 0 := by
   have s1 : a * d * (b * c) = a * c * (b * d) := by rw [Q23L.mul_assoc, Q23L.mul_assoc, Q23L.mul_left d, Q23L.mul_comm d c, Q23L.mul_left b c]
   have s2 : b * c * (a * d) = b * d * (a * c) := by rw [Q23L.mul_assoc, Q23L.mul_assoc, Q23L.mul_left c, Q23L.mul_comm c d, Q23L.mul_left a d]
   rw [s1, s2]
   generalize a * c * (b * d) = p
   generalize b * d * (a * c) = q
   (refine Q23.ext' (Q2.ext' ?_ ?_) (Q2.ext' ?_ ?_) <;> (simp only [Q23.add_re, Q23.add_im, Q23.sub_re, Q23.sub_im, Q23.zero_re, Q23.zero_im, Q2.add_re, Q2.add_im, Q2.sub_re, Q2.sub_im, Q2.zero_re, Q2.zero_im]; grind))
 rw [k1, k2]
 have sq : ∀ p q : Q23, p * q * (p * q) = p * p * (q * q) := fun p q => by rw [Q23L.mul_assoc, Q23L.mul_left q, ← Q23L.mul_assoc]
 rw [sq, sq, sq, sq]
 generalize a * a = p
 generalize b * b = q
 generalize c * c = r
 generalize d * d = t
 (refine Q23.ext' (Q2.ext' ?_ ?_) (Q2.ext' ?_ ?_) <;> (simp only [Q23.add_re, Q23.add_im, Q23.mul_re, Q23.mul_im, Q23.zero_re, Q23.zero_im, Q2.add_re, Q2.add_im, Q2.mul_re, Q2.mul_im, Q2.zero_re, Q2.zero_im, Q2.three_re, Q2.three_im]; grind))
def sg2F (a b : Rat) : Int := weighI a.num.sign b.num.sign (a * a - 2 * (b * b)).num.sign
theorem sg2_eq (a b : Rat) : B.sg (⟨a, b⟩ : Q2) = sg2F a b := by rw [← sg_q2, sgRat, sgRat, sgRat]; rfl
def sgF (v : Q4) : Int := weighI (sg2F v.a v.b) (sg2F v.c v.d) (sg2F (v.a * v.a + 2 * (v.b * v.b) - 3 * (v.c * v.c + 2 * (v.d * v.d))) (v.a * v.b + v.b * v.a - 3 * (v.c * v.d + v.d * v.c)))
theorem sgF_eq (v : Q4) : C.sg v.toQ = sgF v := by
 show C.sg (⟨⟨v.a, v.b⟩, ⟨v.c, v.d⟩⟩ : Q23) = _
 rw [← sg_q23, sg2_eq, sg2_eq]
 unfold sgF
 rw [← sg2_eq (v.a * v.a + 2 * (v.b * v.b) - 3 * (v.c * v.c + 2 * (v.d * v.d)))]
 congr 1
 congr 1
 refine Q2.ext' ?_ ?_ <;> (simp only [Q2.mul_re, Q2.mul_im, Q2.sub_re, Q2.sub_im, Q2.three_re, Q2.three_im]; grind)
theorem mul_one' (a : Q23) : a * 1 = a := by (refine Q23.ext' (Q2.ext' ?_ ?_) (Q2.ext' ?_ ?_) <;> (simp only [Q23.mul_re, Q23.mul_im, Q23.one_re, Q23.one_im, Q2.add_re, Q2.add_im, Q2.mul_re, Q2.mul_im, Q2.one_re, Q2.one_im, Q2.zero_re, Q2.zero_im, Q2.three_re, Q2.three_im]; grind))
end Go.Proofs.YtimkcbikeocaeaaGreat

/- What is to be shown of the calls of some functions. (Printed by gen/vc.py.) -/
namespace Go.Proofs.YtimkcbikeocaeaaGreat
open Go.RowKit
open Sy (Up Sees CallsG Seg execFn_use)
set_option maxRecDepth 100000
variable {k : World} {R : World → Value → Prop}
theorem wHigh_vc {cs0 cs1 : Array Value} (hcs0 : Seg 9 cs0) (hcs1 : Seg 9 cs1)
    (h : ∃ I0 : Nat → World → List Value → Prop, (∃ m0, ∀ k0, Up k k0 → I0 m0 k0 [Value.int .i64 0, Value.int .i64 1, Value.agg cs0]) ∧
 ∀ m0 k0 vs0, Up k k0 → I0 m0 k0 vs0 → ∃ n2, ∃ n3, ∃ cs4, Seg 9 cs4 ∧ some [Value.int .i64 n2, Value.int .i64 n3, Value.agg cs4] = some vs0 ∧
 ((decide ((n3 : Int) < 24)) = true →
 (∀ k1, Up k0 k1 → CallsG Tryz.prog 12 #[Value.int .i64 (IntKind.wrap .i64 (0 - n3))] k1 fun k2 r1 => ∃ cs5, Seg 9 cs5 ∧ ∃ cs6, Seg 9 cs6 ∧ some (Value.agg (cs5.toList ++ (cs6.toList ++ ([]))).toArray) = some r1 ∧
 ∀ k3, Up k2 k3 → CallsG Tryz.prog 11 #[Value.agg (cs0.toList ++ (cs1.toList ++ ([]))).toArray, Value.agg (cs5.toList ++ (cs6.toList ++ ([]))).toArray] k3 fun k4 r3 => ∃ cs7, Seg 9 cs7 ∧ ∃ cs8, Seg 9 cs8 ∧ some (Value.agg (cs7.toList ++ (cs8.toList ++ ([]))).toArray) = some r3 ∧
 ∀ k5, Up k4 k5 → CallsG Tryz.prog 9 #[Value.agg cs7, Value.agg cs4] k5 fun k6 r5 => ∃ n9, some (Value.int .i64 n9) = some r5 ∧
 ((decide ((n9 : Int) > 0)) = true →
 (∀ k7, Up k6 k7 → ∃ m, m < m0 ∧ I0 m k7 [Value.int .i64 n3, Value.int .i64 (IntKind.wrap .i64 (n3 + 1)), Value.agg cs7])) ∧
 ((decide ((n9 : Int) > 0)) = false →
 (∀ k8, Up k6 k8 → ∃ m, m < m0 ∧ I0 m k8 [Value.int .i64 n2, Value.int .i64 (IntKind.wrap .i64 (n3 + 1)), Value.agg cs4])))) ∧
 ((decide ((n3 : Int) < 24)) = false →
 (∀ k9, Up k0 k9 → R k9 (Value.tuple #[Value.int .i64 n2, Value.agg cs4])))) :
    CallsG Tryz.prog 26 #[Value.agg (cs0.toList ++ (cs1.toList ++ ([]))).toArray] k R :=
  execFn_use (cfg := { opq := [32], loops := [(0, [.tmp 5 false [.int .i64], .tmp 6 false [.int .i64], .blk 2 [.seg 9]])] }) (args := [.agg [.seg 0 9, .seg 1 9]]) (vals := [Value.agg cs0, Value.agg cs1]) (kinds := [.seg 9, .seg 9]) (by kernel_rfl) ⟨⟨cs0, rfl, hcs0⟩, ⟨⟨cs1, rfl, hcs1⟩, trivial⟩⟩ (by kernel_rfl) (by kernel_rfl) h
theorem place_vc {n0 : Int}
   (h : ∀ k0, Up k k0 → R k0 (Value.int .i64 (Int.tmod (IntKind.wrap .i64 ((Int.tmod n0 24) + 24)) 24))) :
   CallsG Tryz.prog 27 #[Value.int .i64 n0] k R :=
 execFn_use (cfg := { opq := [] }) (args := [.one (.var 0)]) (vals := [Value.int .i64 n0]) (kinds := [.int .i64]) (by kernel_rfl) ⟨⟨_, rfl⟩, trivial⟩ (by kernel_rfl) (by kernel_rfl) h
theorem xTurn_vc {n0 : Int}
    (h : ∀ k0, Up k k0 → CallsG Tryz.prog 27 #[Value.int .i64 n0] k0 fun k1 r0 => ∃ n1, some (Value.int .i64 n1) = some r0 ∧
 ∀ k2, Up k1 k2 → CallsG Tryz.prog 28 #[Value.int .i64 n1] k2 fun k3 r2 => ∃ cs2, Seg 9 cs2 ∧ some (Value.agg cs2) = some r2 ∧
 ∀ k4, Up k3 k4 → CallsG Tryz.prog 27 #[Value.int .i64 (IntKind.wrap .i64 (n1 - 6))] k4 fun k5 r4 => ∃ n3, some (Value.int .i64 n3) = some r4 ∧
 ∀ k6, Up k5 k6 → CallsG Tryz.prog 28 #[Value.int .i64 n3] k6 fun k7 r6 => ∃ cs4, Seg 9 cs4 ∧ some (Value.agg cs4) = some r6 ∧
 ∀ k8, Up k7 k8 → R k8 (Value.agg (cs2.toList ++ (cs4.toList ++ ([]))).toArray)) :
    CallsG Tryz.prog 12 #[Value.int .i64 n0] k R :=
  execFn_use (cfg := { opq := [32] }) (args := [.one (.var 0)]) (vals := [Value.int .i64 n0]) (kinds := [.int .i64]) (by kernel_rfl) ⟨⟨_, rfl⟩, trivial⟩ (by kernel_rfl) (by kernel_rfl) h
theorem xcos_vc {n0 : Int}
    (h : ((decide ((n0 : Int) > 12)) = true →
 (((decide (((IntKind.wrap .i64 (24 - n0)) : Int) > 6)) = true →
 (∀ k0, Up k k0 → CallsG Tryz.prog 28 #[Value.int .i64 (IntKind.wrap .i64 (12 - (IntKind.wrap .i64 (24 - n0))))] k0 fun k1 r0 => ∃ cs1, Seg 9 cs1 ∧ some (Value.agg cs1) = some r0 ∧
 ∀ k2, Up k1 k2 → CallsG Tryz.prog 33 #[Value.agg cs1] k2 fun k3 r2 => ∃ cs2, Seg 9 cs2 ∧ some (Value.agg cs2) = some r2 ∧
 ∀ k4, Up k3 k4 → R k4 (Value.agg cs2))) ∧
 ((decide (((IntKind.wrap .i64 (24 - n0)) : Int) > 6)) = false →
 (((((IntKind.wrap .i64 (24 - n0)) : Int) == 0) = true →
 (∀ k5, Up k k5 → CallsG Tryz.prog 47 #[Value.int .i64 1] k5 fun k6 r5 => ∃ cs1, Seg 2 cs1 ∧ some (Value.agg cs1) = some r5 ∧
 ∀ k7, Up k6 k7 → R k7 (Value.agg (cs1.toList ++ ((Value.bool false) :: ((Value.slice none 0 0) :: ((Value.bool false) :: ((Value.slice none 0 0) :: ((Value.bool false) :: ((Value.slice none 0 0) :: ((Value.slice none 0 0) :: ([]))))))))).toArray))) ∧
 ((((IntKind.wrap .i64 (24 - n0)) : Int) == 0) = false →
 (((((IntKind.wrap .i64 (24 - n0)) : Int) == 1) = true →
 (∀ k8, Up k k8 → CallsG Tryz.prog 46 #[Value.int .i64 1, Value.int .u64 4] k8 fun k9 r8 => ∃ cs1, Seg 9 cs1 ∧ some (Value.agg cs1) = some r8 ∧
 ∀ k10, Up k9 k10 → CallsG Tryz.prog 46 #[Value.int .i64 3, Value.int .u64 4] k10 fun k11 r10 => ∃ cs2, Seg 9 cs2 ∧ some (Value.agg cs2) = some r10 ∧
 ∀ k12, Up k11 k12 → CallsG Tryz.prog 23 #[Value.agg cs1, Value.agg cs2] k12 fun k13 r12 => ∃ cs3, Seg 9 cs3 ∧ some (Value.agg cs3) = some r12 ∧
 ∀ k14, Up k13 k14 → R k14 (Value.agg cs3))) ∧
 ((((IntKind.wrap .i64 (24 - n0)) : Int) == 1) = false →
 (((((IntKind.wrap .i64 (24 - n0)) : Int) == 2) = true →
 (∀ k15, Up k k15 → CallsG Tryz.prog 46 #[Value.int .i64 2, Value.int .u64 2] k15 fun k16 r15 => ∃ cs1, Seg 9 cs1 ∧ some (Value.agg cs1) = some r15 ∧
 ∀ k17, Up k16 k17 → R k17 (Value.agg cs1))) ∧
 ((((IntKind.wrap .i64 (24 - n0)) : Int) == 2) = false →
 (((((IntKind.wrap .i64 (24 - n0)) : Int) == 3) = true →
 (∀ k18, Up k k18 → CallsG Tryz.prog 46 #[Value.int .i64 1, Value.int .u64 2] k18 fun k19 r18 => ∃ cs1, Seg 9 cs1 ∧ some (Value.agg cs1) = some r18 ∧
 ∀ k20, Up k19 k20 → R k20 (Value.agg cs1))) ∧
 ((((IntKind.wrap .i64 (24 - n0)) : Int) == 3) = false →
 (((((IntKind.wrap .i64 (24 - n0)) : Int) == 4) = true →
 (∀ k21, Up k k21 → CallsG Tryz.prog 46 #[Value.int .i64 0, Value.int .u64 2] k21 fun k22 r21 => ∃ cs1, Seg 9 cs1 ∧ some (Value.agg cs1) = some r21 ∧
 ∀ k23, Up k22 k23 → R k23 (Value.agg cs1))) ∧
 ((((IntKind.wrap .i64 (24 - n0)) : Int) == 4) = false →
 (((((IntKind.wrap .i64 (24 - n0)) : Int) == 5) = true →
 (∀ k24, Up k k24 → CallsG Tryz.prog 46 #[Value.int .i64 3, Value.int .u64 4] k24 fun k25 r24 => ∃ cs1, Seg 9 cs1 ∧ some (Value.agg cs1) = some r24 ∧
 ∀ k26, Up k25 k26 → CallsG Tryz.prog 46 #[Value.int .i64 1, Value.int .u64 4] k26 fun k27 r26 => ∃ cs2, Seg 9 cs2 ∧ some (Value.agg cs2) = some r26 ∧
 ∀ k28, Up k27 k28 → CallsG Tryz.prog 21 #[Value.agg cs1, Value.agg cs2] k28 fun k29 r28 => ∃ cs3, Seg 9 cs3 ∧ some (Value.agg cs3) = some r28 ∧
 ∀ k30, Up k29 k30 → R k30 (Value.agg cs3))) ∧
 ((((IntKind.wrap .i64 (24 - n0)) : Int) == 5) = false →
 (∀ k31, Up k k31 → R k31 (Value.agg #[Value.bool false, Value.slice none 0 0, Value.bool false, Value.slice none 0 0, Value.bool false, Value.slice none 0 0, Value.bool false, Value.slice none 0 0, Value.slice none 0 0]))))))))))))))))) ∧
 ((decide ((n0 : Int) > 12)) = false →
 (((decide ((n0 : Int) > 6)) = true →
 (∀ k32, Up k k32 → CallsG Tryz.prog 28 #[Value.int .i64 (IntKind.wrap .i64 (12 - n0))] k32 fun k33 r32 => ∃ cs1, Seg 9 cs1 ∧ some (Value.agg cs1) = some r32 ∧
 ∀ k34, Up k33 k34 → CallsG Tryz.prog 33 #[Value.agg cs1] k34 fun k35 r34 => ∃ cs2, Seg 9 cs2 ∧ some (Value.agg cs2) = some r34 ∧
 ∀ k36, Up k35 k36 → R k36 (Value.agg cs2))) ∧
 ((decide ((n0 : Int) > 6)) = false →
 ((((n0 : Int) == 0) = true →
 (∀ k37, Up k k37 → CallsG Tryz.prog 47 #[Value.int .i64 1] k37 fun k38 r37 => ∃ cs1, Seg 2 cs1 ∧ some (Value.agg cs1) = some r37 ∧
 ∀ k39, Up k38 k39 → R k39 (Value.agg (cs1.toList ++ ((Value.bool false) :: ((Value.slice none 0 0) :: ((Value.bool false) :: ((Value.slice none 0 0) :: ((Value.bool false) :: ((Value.slice none 0 0) :: ((Value.slice none 0 0) :: ([]))))))))).toArray))) ∧
 (((n0 : Int) == 0) = false →
 ((((n0 : Int) == 1) = true →
 (∀ k40, Up k k40 → CallsG Tryz.prog 46 #[Value.int .i64 1, Value.int .u64 4] k40 fun k41 r40 => ∃ cs1, Seg 9 cs1 ∧ some (Value.agg cs1) = some r40 ∧
 ∀ k42, Up k41 k42 → CallsG Tryz.prog 46 #[Value.int .i64 3, Value.int .u64 4] k42 fun k43 r42 => ∃ cs2, Seg 9 cs2 ∧ some (Value.agg cs2) = some r42 ∧
 ∀ k44, Up k43 k44 → CallsG Tryz.prog 23 #[Value.agg cs1, Value.agg cs2] k44 fun k45 r44 => ∃ cs3, Seg 9 cs3 ∧ some (Value.agg cs3) = some r44 ∧
 ∀ k46, Up k45 k46 → R k46 (Value.agg cs3))) ∧
 (((n0 : Int) == 1) = false →
 ((((n0 : Int) == 2) = true →
 (∀ k47, Up k k47 → CallsG Tryz.prog 46 #[Value.int .i64 2, Value.int .u64 2] k47 fun k48 r47 => ∃ cs1, Seg 9 cs1 ∧ some (Value.agg cs1) = some r47 ∧
 ∀ k49, Up k48 k49 → R k49 (Value.agg cs1))) ∧
 (((n0 : Int) == 2) = false →
 ((((n0 : Int) == 3) = true →
 (∀ k50, Up k k50 → CallsG Tryz.prog 46 #[Value.int .i64 1, Value.int .u64 2] k50 fun k51 r50 => ∃ cs1, Seg 9 cs1 ∧ some (Value.agg cs1) = some r50 ∧
 ∀ k52, Up k51 k52 → R k52 (Value.agg cs1))) ∧
 (((n0 : Int) == 3) = false →
 ((((n0 : Int) == 4) = true →
 (∀ k53, Up k k53 → CallsG Tryz.prog 46 #[Value.int .i64 0, Value.int .u64 2] k53 fun k54 r53 => ∃ cs1, Seg 9 cs1 ∧ some (Value.agg cs1) = some r53 ∧
 ∀ k55, Up k54 k55 → R k55 (Value.agg cs1))) ∧
 (((n0 : Int) == 4) = false →
 ((((n0 : Int) == 5) = true →
 (∀ k56, Up k k56 → CallsG Tryz.prog 46 #[Value.int .i64 3, Value.int .u64 4] k56 fun k57 r56 => ∃ cs1, Seg 9 cs1 ∧ some (Value.agg cs1) = some r56 ∧
 ∀ k58, Up k57 k58 → CallsG Tryz.prog 46 #[Value.int .i64 1, Value.int .u64 4] k58 fun k59 r58 => ∃ cs2, Seg 9 cs2 ∧ some (Value.agg cs2) = some r58 ∧
 ∀ k60, Up k59 k60 → CallsG Tryz.prog 21 #[Value.agg cs1, Value.agg cs2] k60 fun k61 r60 => ∃ cs3, Seg 9 cs3 ∧ some (Value.agg cs3) = some r60 ∧
 ∀ k62, Up k61 k62 → R k62 (Value.agg cs3))) ∧
 (((n0 : Int) == 5) = false →
 (∀ k63, Up k k63 → R k63 (Value.agg #[Value.bool false, Value.slice none 0 0, Value.bool false, Value.slice none 0 0, Value.bool false, Value.slice none 0 0, Value.bool false, Value.slice none 0 0, Value.slice none 0 0])))))))))))))))))) :
    CallsG Tryz.prog 28 #[Value.int .i64 n0] k R :=
  execFn_use (cfg := { opq := [32, 29] }) (args := [.one (.var 0)]) (vals := [Value.int .i64 n0]) (kinds := [.int .i64]) (by kernel_rfl) ⟨⟨_, rfl⟩, trivial⟩ (by kernel_rfl) (by kernel_rfl) h
theorem part14_vc
    (h : ∀ k0, Up k k0 → CallsG Tryz.prog 47 #[Value.int .i64 1] k0 fun k1 r0 => ∃ cs0, Seg 2 cs0 ∧ some (Value.agg cs0) = some r0 ∧
 ∀ k2, Up k1 k2 → CallsG Tryz.prog 48 #[Value.int .u64 4] k2 fun k3 r2 => ∃ A1 l1 c1, some (Value.slice A1 l1 c1) = some r2 ∧
 ∀ k4, Up k3 k4 → R k4 (Value.agg ((Value.bool false) :: ((Value.slice none 0 0) :: (cs0.toList ++ ((Value.bool false) :: ((Value.slice none 0 0) :: ((Value.bool false) :: ((Value.slice none 0 0) :: ((Value.slice A1 l1 c1) :: ([]))))))))).toArray)) :
    CallsG Tryz.prog 46 #[Value.int .i64 1, Value.int .u64 4] k R :=
  Sy.execFn_use_heap (cfg := { opq := [29] }) (args := [.one (.lit (.int .i64 (1))), .one (.lit (.int .u64 (4)))]) (vals := []) (kinds := []) (blks := []) (heap := []) (by kernel_rfl) trivial (by kernel_rfl) trivial (by kernel_rfl) h
theorem part34_vc
    (h : ∀ k0, Up k k0 → CallsG Tryz.prog 47 #[Value.int .i64 1] k0 fun k1 r0 => ∃ cs0, Seg 2 cs0 ∧ some (Value.agg cs0) = some r0 ∧
 ∀ k2, Up k1 k2 → CallsG Tryz.prog 48 #[Value.int .u64 4] k2 fun k3 r2 => ∃ A1 l1 c1, some (Value.slice A1 l1 c1) = some r2 ∧
 ∀ k4, Up k3 k4 → R k4 (Value.agg ((Value.bool false) :: ((Value.slice none 0 0) :: ((Value.bool false) :: ((Value.slice none 0 0) :: ((Value.bool false) :: ((Value.slice none 0 0) :: (cs0.toList ++ ((Value.slice A1 l1 c1) :: ([]))))))))).toArray)) :
    CallsG Tryz.prog 46 #[Value.int .i64 3, Value.int .u64 4] k R :=
  Sy.execFn_use_heap (cfg := { opq := [29] }) (args := [.one (.lit (.int .i64 (3))), .one (.lit (.int .u64 (4)))]) (vals := []) (kinds := []) (blks := []) (heap := []) (by kernel_rfl) trivial (by kernel_rfl) trivial (by kernel_rfl) h
theorem part22_vc
    (h : ∀ k0, Up k k0 → CallsG Tryz.prog 47 #[Value.int .i64 1] k0 fun k1 r0 => ∃ cs0, Seg 2 cs0 ∧ some (Value.agg cs0) = some r0 ∧
 ∀ k2, Up k1 k2 → CallsG Tryz.prog 48 #[Value.int .u64 2] k2 fun k3 r2 => ∃ A1 l1 c1, some (Value.slice A1 l1 c1) = some r2 ∧
 ∀ k4, Up k3 k4 → R k4 (Value.agg ((Value.bool false) :: ((Value.slice none 0 0) :: ((Value.bool false) :: ((Value.slice none 0 0) :: (cs0.toList ++ ((Value.bool false) :: ((Value.slice none 0 0) :: ((Value.slice A1 l1 c1) :: ([]))))))))).toArray)) :
    CallsG Tryz.prog 46 #[Value.int .i64 2, Value.int .u64 2] k R :=
  Sy.execFn_use_heap (cfg := { opq := [29] }) (args := [.one (.lit (.int .i64 (2))), .one (.lit (.int .u64 (2)))]) (vals := []) (kinds := []) (blks := []) (heap := []) (by kernel_rfl) trivial (by kernel_rfl) trivial (by kernel_rfl) h
theorem part12_vc
    (h : ∀ k0, Up k k0 → CallsG Tryz.prog 47 #[Value.int .i64 1] k0 fun k1 r0 => ∃ cs0, Seg 2 cs0 ∧ some (Value.agg cs0) = some r0 ∧
 ∀ k2, Up k1 k2 → CallsG Tryz.prog 48 #[Value.int .u64 2] k2 fun k3 r2 => ∃ A1 l1 c1, some (Value.slice A1 l1 c1) = some r2 ∧
 ∀ k4, Up k3 k4 → R k4 (Value.agg ((Value.bool false) :: ((Value.slice none 0 0) :: (cs0.toList ++ ((Value.bool false) :: ((Value.slice none 0 0) :: ((Value.bool false) :: ((Value.slice none 0 0) :: ((Value.slice A1 l1 c1) :: ([]))))))))).toArray)) :
    CallsG Tryz.prog 46 #[Value.int .i64 1, Value.int .u64 2] k R :=
  Sy.execFn_use_heap (cfg := { opq := [29] }) (args := [.one (.lit (.int .i64 (1))), .one (.lit (.int .u64 (2)))]) (vals := []) (kinds := []) (blks := []) (heap := []) (by kernel_rfl) trivial (by kernel_rfl) trivial (by kernel_rfl) h
theorem part02_vc
    (h : ∀ k0, Up k k0 → CallsG Tryz.prog 47 #[Value.int .i64 1] k0 fun k1 r0 => ∃ cs0, Seg 2 cs0 ∧ some (Value.agg cs0) = some r0 ∧
 ∀ k2, Up k1 k2 → CallsG Tryz.prog 48 #[Value.int .u64 2] k2 fun k3 r2 => ∃ A1 l1 c1, some (Value.slice A1 l1 c1) = some r2 ∧
 ∀ k4, Up k3 k4 → R k4 (Value.agg (cs0.toList ++ ((Value.bool false) :: ((Value.slice none 0 0) :: ((Value.bool false) :: ((Value.slice none 0 0) :: ((Value.bool false) :: ((Value.slice none 0 0) :: ((Value.slice A1 l1 c1) :: ([]))))))))).toArray)) :
    CallsG Tryz.prog 46 #[Value.int .i64 0, Value.int .u64 2] k R :=
  Sy.execFn_use_heap (cfg := { opq := [29] }) (args := [.one (.lit (.int .i64 (0))), .one (.lit (.int .u64 (2)))]) (vals := []) (kinds := []) (blks := []) (heap := []) (by kernel_rfl) trivial (by kernel_rfl) trivial (by kernel_rfl) h
end Go.Proofs.YtimkcbikeocaeaaGreat

/- Turns of the program. (Printed by gen/turnz.py.) -/
namespace Go.Proofs.YtimkcbikeocaeaaGreat
open Go.RowKit Num
open Sy (Up Sees CallsG Seg)
section
variable {k k' : World} {cs cs' c0 c1 : Array Value} {R : World → Value → Prop} {v v' : Q4} {x y : W4} {K L : Nat}
theorem IntV.cut {z : Int} (h : IntV k cs z K) (hz : z.natAbs ≤ 1000) : IntV k cs z 1 := by
 obtain ⟨b, A, n, c, e, h1, h2⟩ := h
 refine ⟨b, A, n, c, e, h1, ?_⟩
 rw [h1.lim.len]
 exact nw_le_of (by unfold B64; omega)
theorem small_part {z : Int} {m : Nat} (hm : 0 < m) (h : q4s (mkRat z m) = true) : m ∣ 4 * z.natAbs ∧ 4 * z.natAbs ≤ 1000 * m := by
 unfold q4s at h
 rw [Bool.and_eq_true, beq_iff_eq, decide_eq_true_iff] at h
 have e : (4 : Rat) * mkRat z m = mkRat (z * (4 : Nat)) m := by rw [mkRat_scale z 4 hm]; rfl
 rw [e, mkRat_dn _ hm, mkRat_abs _ hm] at h
 obtain ⟨h1, h2⟩ := h
 have hz : (z * ((4 : Nat) : Int)).natAbs = 4 * z.natAbs := by rw [Int.natAbs_mul, Int.natAbs_natCast, Nat.mul_comm]
 rw [hz] at h1 h2
 generalize hg : Nat.gcd (4 * z.natAbs) m = g at h1 h2
 have d1 : g ∣ m := hg ▸ Nat.gcd_dvd_right _ _
 have d2 : g ∣ 4 * z.natAbs := hg ▸ Nat.gcd_dvd_left _ _
 have em : m = g := by have := Nat.div_mul_cancel d1; rw [h1, Nat.one_mul] at this; exact this.symm
 have hle := Nat.mul_le_mul_right g h2
 rw [Nat.div_mul_cancel d2] at hle
 rw [em]
 exact ⟨d2, hle⟩
theorem SurdV.cut (h : SurdV k cs v K) (hs : v.small = true) : SurdV k cs v 1 := by
 obtain ⟨c0, c1, c2, c3, D, d, e, y0, y1, y2, y3, m, h1, hm, hg, rfl, i0, i1, i2, i3, l, hd⟩ := h
 unfold Q4.small mkQ at hs
 rw [Bool.and_eq_true, Bool.and_eq_true, Bool.and_eq_true] at hs
 obtain ⟨⟨⟨s0, s1⟩, s2⟩, s3⟩ := hs
 obtain ⟨d0, b0⟩ := small_part hm s0
 obtain ⟨d1, b1⟩ := small_part hm s1
 obtain ⟨d2, b2⟩ := small_part hm s2
 obtain ⟨d3, b3⟩ := small_part hm s3
 have hm4 : m ∣ 4 := by
   have dm : m ∣ 4 * m := Nat.dvd_mul_left m 4
   have := Nat.dvd_gcd (Nat.dvd_gcd (Nat.dvd_gcd (Nat.dvd_gcd dm d0) d1) d2) d3
   rw [Nat.gcd_mul_left, Nat.gcd_mul_left, Nat.gcd_mul_left, Nat.gcd_mul_left] at this
   unfold gcd5 at hg
   rw [hg] at this
   exact this
 have hm4 := Nat.le_of_dvd (by decide) hm4
 refine ⟨c0, c1, c2, c3, D, d, e, y0, y1, y2, y3, m, h1, hm, hg, rfl, i0.cut (by omega), i1.cut (by omega), i2.cut (by omega), i3.cut (by omega), l, ?_⟩
 rw [l.len]
 refine nw_le_of ?_
 unfold B64
 split <;> omega
theorem part14_s (C : ∀ k' ds, Up k k' → SurdV k' ds ⟨0, 1 / 4, 0, 0⟩ 1 → R k' (.agg ds)) :
   ∀ k0, Up k k0 → CallsG Tryz.prog 46 #[.int .i64 1, .int .u64 4] k0 R := by
 intro k0 u0
 refine part14_vc ?_
 refine of_s (by decide) (by decide) fun k1 d1 u1 i1 => ⟨d1, i1.seg, rfl, ?_⟩
 refine word_s (x := 4) (by decide) fun k2 A l c u2 l2 hl => ⟨A, l, c, rfl, fun k3 u3 => ?_⟩
 exact C k3 _ (((u0.trans u1).trans u2).trans u3) ⟨#[.bool false, .slice none 0 0], d1, #[.bool false, .slice none 0 0], #[.bool false, .slice none 0 0], A, l, c, 0, 1, 0, 0, 4, rfl, by decide, by decide, by decide +kernel, IntV.nil, (i1.up u2).up u3, IntV.nil, IntV.nil, (by rw [if_neg (by decide)]; exact l2.up u3), hl⟩
theorem part34_s (C : ∀ k' ds, Up k k' → SurdV k' ds ⟨0, 0, 0, 1 / 4⟩ 1 → R k' (.agg ds)) :
   ∀ k0, Up k k0 → CallsG Tryz.prog 46 #[.int .i64 3, .int .u64 4] k0 R := by
 intro k0 u0
 refine part34_vc ?_
 refine of_s (by decide) (by decide) fun k1 d1 u1 i1 => ⟨d1, i1.seg, rfl, ?_⟩
 refine word_s (x := 4) (by decide) fun k2 A l c u2 l2 hl => ⟨A, l, c, rfl, fun k3 u3 => ?_⟩
 exact C k3 _ (((u0.trans u1).trans u2).trans u3) ⟨#[.bool false, .slice none 0 0], #[.bool false, .slice none 0 0], #[.bool false, .slice none 0 0], d1, A, l, c, 0, 0, 0, 1, 4, rfl, by decide, by decide, by decide +kernel, IntV.nil, IntV.nil, IntV.nil, (i1.up u2).up u3, (by rw [if_neg (by decide)]; exact l2.up u3), hl⟩
theorem part22_s (C : ∀ k' ds, Up k k' → SurdV k' ds ⟨0, 0, 1 / 2, 0⟩ 1 → R k' (.agg ds)) :
   ∀ k0, Up k k0 → CallsG Tryz.prog 46 #[.int .i64 2, .int .u64 2] k0 R := by
 intro k0 u0
 refine part22_vc ?_
 refine of_s (by decide) (by decide) fun k1 d1 u1 i1 => ⟨d1, i1.seg, rfl, ?_⟩
 refine word_s (x := 2) (by decide) fun k2 A l c u2 l2 hl => ⟨A, l, c, rfl, fun k3 u3 => ?_⟩
 exact C k3 _ (((u0.trans u1).trans u2).trans u3) ⟨#[.bool false, .slice none 0 0], #[.bool false, .slice none 0 0], d1, #[.bool false, .slice none 0 0], A, l, c, 0, 0, 1, 0, 2, rfl, by decide, by decide, by decide +kernel, IntV.nil, IntV.nil, (i1.up u2).up u3, IntV.nil, (by rw [if_neg (by decide)]; exact l2.up u3), hl⟩
theorem part12_s (C : ∀ k' ds, Up k k' → SurdV k' ds ⟨0, 1 / 2, 0, 0⟩ 1 → R k' (.agg ds)) :
   ∀ k0, Up k k0 → CallsG Tryz.prog 46 #[.int .i64 1, .int .u64 2] k0 R := by
 intro k0 u0
 refine part12_vc ?_
 refine of_s (by decide) (by decide) fun k1 d1 u1 i1 => ⟨d1, i1.seg, rfl, ?_⟩
 refine word_s (x := 2) (by decide) fun k2 A l c u2 l2 hl => ⟨A, l, c, rfl, fun k3 u3 => ?_⟩
 exact C k3 _ (((u0.trans u1).trans u2).trans u3) ⟨#[.bool false, .slice none 0 0], d1, #[.bool false, .slice none 0 0], #[.bool false, .slice none 0 0], A, l, c, 0, 1, 0, 0, 2, rfl, by decide, by decide, by decide +kernel, IntV.nil, (i1.up u2).up u3, IntV.nil, IntV.nil, (by rw [if_neg (by decide)]; exact l2.up u3), hl⟩
theorem part02_s (C : ∀ k' ds, Up k k' → SurdV k' ds ⟨1 / 2, 0, 0, 0⟩ 1 → R k' (.agg ds)) :
   ∀ k0, Up k k0 → CallsG Tryz.prog 46 #[.int .i64 0, .int .u64 2] k0 R := by
 intro k0 u0
 refine part02_vc ?_
 refine of_s (by decide) (by decide) fun k1 d1 u1 i1 => ⟨d1, i1.seg, rfl, ?_⟩
 refine word_s (x := 2) (by decide) fun k2 A l c u2 l2 hl => ⟨A, l, c, rfl, fun k3 u3 => ?_⟩
 exact C k3 _ (((u0.trans u1).trans u2).trans u3) ⟨d1, #[.bool false, .slice none 0 0], #[.bool false, .slice none 0 0], #[.bool false, .slice none 0 0], A, l, c, 1, 0, 0, 0, 2, rfl, by decide, by decide, by decide +kernel, (i1.up u2).up u3, IntV.nil, IntV.nil, IntV.nil, (by rw [if_neg (by decide)]; exact l2.up u3), hl⟩
theorem cast4 (h : SurdV k cs v K) (e : v = v') : SurdV k cs v' K := e ▸ h
theorem xcos0_s (C : ∀ k' ds, Up k k' → SurdV k' ds (cosQ 0) 1 → R k' (.agg ds)) :
   ∀ k0, Up k k0 → CallsG Tryz.prog 28 #[.int .i64 0] k0 R := by
 intro k0 u0
 refine xcos_vc ⟨fun h => absurd h (by decide +kernel), fun _ => ⟨fun h => absurd h (by decide +kernel), fun _ => ⟨fun _ => ?_, fun h => absurd h (by decide +kernel)⟩⟩⟩
 refine of_s (by decide) (by decide) fun k1 d1 u1 i1 => ⟨d1, i1.seg, rfl, fun k2 u2 => ?_⟩
 exact C k2 _ ((u0.trans u1).trans u2) ⟨d1, #[.bool false, .slice none 0 0], #[.bool false, .slice none 0 0], #[.bool false, .slice none 0 0], none, 0, 0, 1, 0, 0, 0, 1, rfl, by decide, by decide, by decide +kernel, i1.up u2, IntV.nil, IntV.nil, IntV.nil, (by rw [if_pos rfl]; exact LimR.nil), Nat.zero_le _⟩
theorem xcos1_s (C : ∀ k' ds, Up k k' → SurdV k' ds (cosQ 1) 1 → R k' (.agg ds)) :
   ∀ k0, Up k k0 → CallsG Tryz.prog 28 #[.int .i64 1] k0 R := by
 intro k0 u0
 refine xcos_vc ⟨fun h => absurd h (by decide +kernel), fun _ => ⟨fun h => absurd h (by decide +kernel), fun _ => ⟨fun h => absurd h (by decide +kernel), fun _ => ⟨fun _ => ?_, fun h => absurd h (by decide +kernel)⟩⟩⟩⟩
 refine part14_s fun k1 d1 u1 h1 => ⟨d1, h1.seg, rfl, ?_⟩
 refine part34_s fun k2 d2 u2 h2 => ⟨d2, h2.seg, rfl, ?_⟩
 refine SAdd_s (h1.up u2) h2 (by decide) (by decide) fun k3 d3 u3 h3 => ⟨d3, h3.seg, rfl, fun k4 u4 => ?_⟩
 refine C k4 d3 ((((u0.trans u1).trans u2).trans u3).trans u4) (SurdV.cut (K := 2 * 1 + 1) (cast4 (h3.up u4) (by decide +kernel)) (by decide +kernel))
theorem xcos2_s (C : ∀ k' ds, Up k k' → SurdV k' ds (cosQ 2) 1 → R k' (.agg ds)) :
   ∀ k0, Up k k0 → CallsG Tryz.prog 28 #[.int .i64 2] k0 R := by
 intro k0 u0
 refine xcos_vc ⟨fun h => absurd h (by decide +kernel), fun _ => ⟨fun h => absurd h (by decide +kernel), fun _ => ⟨fun h => absurd h (by decide +kernel), fun _ => ⟨fun h => absurd h (by decide +kernel), fun _ => ⟨fun _ => ?_, fun h => absurd h (by decide +kernel)⟩⟩⟩⟩⟩
 exact part22_s fun k1 d1 u1 h1 => ⟨d1, h1.seg, rfl, fun k2 u2 => C k2 d1 ((u0.trans u1).trans u2) (h1.up u2)⟩
theorem xcos3_s (C : ∀ k' ds, Up k k' → SurdV k' ds (cosQ 3) 1 → R k' (.agg ds)) :
   ∀ k0, Up k k0 → CallsG Tryz.prog 28 #[.int .i64 3] k0 R := by
 intro k0 u0
 refine xcos_vc ⟨fun h => absurd h (by decide +kernel), fun _ => ⟨fun h => absurd h (by decide +kernel), fun _ => ⟨fun h => absurd h (by decide +kernel), fun _ => ⟨fun h => absurd h (by decide +kernel), fun _ => ⟨fun h => absurd h (by decide +kernel), fun _ => ⟨fun _ => ?_, fun h => absurd h (by decide +kernel)⟩⟩⟩⟩⟩⟩
 exact part12_s fun k1 d1 u1 h1 => ⟨d1, h1.seg, rfl, fun k2 u2 => C k2 d1 ((u0.trans u1).trans u2) (h1.up u2)⟩
theorem xcos4_s (C : ∀ k' ds, Up k k' → SurdV k' ds (cosQ 4) 1 → R k' (.agg ds)) :
   ∀ k0, Up k k0 → CallsG Tryz.prog 28 #[.int .i64 4] k0 R := by
 intro k0 u0
 refine xcos_vc ⟨fun h => absurd h (by decide +kernel), fun _ => ⟨fun h => absurd h (by decide +kernel), fun _ => ⟨fun h => absurd h (by decide +kernel), fun _ => ⟨fun h => absurd h (by decide +kernel), fun _ => ⟨fun h => absurd h (by decide +kernel), fun _ => ⟨fun h => absurd h (by decide +kernel), fun _ => ⟨fun _ => ?_, fun h => absurd h (by decide +kernel)⟩⟩⟩⟩⟩⟩⟩
 exact part02_s fun k1 d1 u1 h1 => ⟨d1, h1.seg, rfl, fun k2 u2 => C k2 d1 ((u0.trans u1).trans u2) (h1.up u2)⟩
theorem xcos5_s (C : ∀ k' ds, Up k k' → SurdV k' ds (cosQ 5) 1 → R k' (.agg ds)) :
   ∀ k0, Up k k0 → CallsG Tryz.prog 28 #[.int .i64 5] k0 R := by
 intro k0 u0
 refine xcos_vc ⟨fun h => absurd h (by decide +kernel), fun _ => ⟨fun h => absurd h (by decide +kernel), fun _ => ⟨fun h => absurd h (by decide +kernel), fun _ => ⟨fun h => absurd h (by decide +kernel), fun _ => ⟨fun h => absurd h (by decide +kernel), fun _ => ⟨fun h => absurd h (by decide +kernel), fun _ => ⟨fun h => absurd h (by decide +kernel), fun _ => ⟨fun _ => ?_, fun h => absurd h (by decide +kernel)⟩⟩⟩⟩⟩⟩⟩⟩
 refine part34_s fun k1 d1 u1 h1 => ⟨d1, h1.seg, rfl, ?_⟩
 refine part14_s fun k2 d2 u2 h2 => ⟨d2, h2.seg, rfl, ?_⟩
 refine SSub_s (h1.up u2) h2 (by decide) (by decide) fun k3 d3 u3 h3 => ⟨d3, h3.seg, rfl, fun k4 u4 => ?_⟩
 refine C k4 d3 ((((u0.trans u1).trans u2).trans u3).trans u4) (SurdV.cut (K := 2 * 1 + 1) (cast4 (h3.up u4) (by decide +kernel)) (by decide +kernel))
theorem xcos6_s (C : ∀ k' ds, Up k k' → SurdV k' ds (cosQ 6) 1 → R k' (.agg ds)) :
   ∀ k0, Up k k0 → CallsG Tryz.prog 28 #[.int .i64 6] k0 R := by
 intro k0 u0
 refine xcos_vc ⟨fun h => absurd h (by decide +kernel), fun _ => ⟨fun h => absurd h (by decide +kernel), fun _ => ⟨fun h => absurd h (by decide +kernel), fun _ => ⟨fun h => absurd h (by decide +kernel), fun _ => ⟨fun h => absurd h (by decide +kernel), fun _ => ⟨fun h => absurd h (by decide +kernel), fun _ => ⟨fun h => absurd h (by decide +kernel), fun _ => ⟨fun h => absurd h (by decide +kernel), fun _ => ?_⟩⟩⟩⟩⟩⟩⟩⟩
 intro k1 u1
 exact C k1 _ (u0.trans u1) (SurdV.nil (Nat.zero_le _))
theorem xcos7_s (C : ∀ k' ds, Up k k' → SurdV k' ds (cosQ 7) 1 → R k' (.agg ds)) :
   ∀ k0, Up k k0 → CallsG Tryz.prog 28 #[.int .i64 7] k0 R := by
 intro k0 u0
 refine xcos_vc ⟨fun h => absurd h (by decide +kernel), fun _ => ⟨fun _ => ?_, fun h => absurd h (by decide +kernel)⟩⟩
 rw [show IntKind.wrap .i64 (12 - 7) = (5 : Int) from by decide +kernel]
 refine xcos5_s fun k1 d1 u1 h1 => ⟨d1, h1.seg, rfl, ?_⟩
 refine SNeg_s h1 (by decide) fun k3 d3 u3 h3 => ⟨d3, h3.seg, rfl, fun k4 u4 => ?_⟩
 exact C k4 d3 (((u0.trans u1).trans u3).trans u4) (h3.up u4)
theorem xcos8_s (C : ∀ k' ds, Up k k' → SurdV k' ds (cosQ 8) 1 → R k' (.agg ds)) :
   ∀ k0, Up k k0 → CallsG Tryz.prog 28 #[.int .i64 8] k0 R := by
 intro k0 u0
 refine xcos_vc ⟨fun h => absurd h (by decide +kernel), fun _ => ⟨fun _ => ?_, fun h => absurd h (by decide +kernel)⟩⟩
 rw [show IntKind.wrap .i64 (12 - 8) = (4 : Int) from by decide +kernel]
 refine xcos4_s fun k1 d1 u1 h1 => ⟨d1, h1.seg, rfl, ?_⟩
 refine SNeg_s h1 (by decide) fun k3 d3 u3 h3 => ⟨d3, h3.seg, rfl, fun k4 u4 => ?_⟩
 exact C k4 d3 (((u0.trans u1).trans u3).trans u4) (h3.up u4)
theorem xcos9_s (C : ∀ k' ds, Up k k' → SurdV k' ds (cosQ 9) 1 → R k' (.agg ds)) :
   ∀ k0, Up k k0 → CallsG Tryz.prog 28 #[.int .i64 9] k0 R := by
 intro k0 u0
 refine xcos_vc ⟨fun h => absurd h (by decide +kernel), fun _ => ⟨fun _ => ?_, fun h => absurd h (by decide +kernel)⟩⟩
 rw [show IntKind.wrap .i64 (12 - 9) = (3 : Int) from by decide +kernel]
 refine xcos3_s fun k1 d1 u1 h1 => ⟨d1, h1.seg, rfl, ?_⟩
 refine SNeg_s h1 (by decide) fun k3 d3 u3 h3 => ⟨d3, h3.seg, rfl, fun k4 u4 => ?_⟩
 exact C k4 d3 (((u0.trans u1).trans u3).trans u4) (h3.up u4)
theorem xcos10_s (C : ∀ k' ds, Up k k' → SurdV k' ds (cosQ 10) 1 → R k' (.agg ds)) :
   ∀ k0, Up k k0 → CallsG Tryz.prog 28 #[.int .i64 10] k0 R := by
 intro k0 u0
 refine xcos_vc ⟨fun h => absurd h (by decide +kernel), fun _ => ⟨fun _ => ?_, fun h => absurd h (by decide +kernel)⟩⟩
 rw [show IntKind.wrap .i64 (12 - 10) = (2 : Int) from by decide +kernel]
 refine xcos2_s fun k1 d1 u1 h1 => ⟨d1, h1.seg, rfl, ?_⟩
 refine SNeg_s h1 (by decide) fun k3 d3 u3 h3 => ⟨d3, h3.seg, rfl, fun k4 u4 => ?_⟩
 exact C k4 d3 (((u0.trans u1).trans u3).trans u4) (h3.up u4)
theorem xcos11_s (C : ∀ k' ds, Up k k' → SurdV k' ds (cosQ 11) 1 → R k' (.agg ds)) :
   ∀ k0, Up k k0 → CallsG Tryz.prog 28 #[.int .i64 11] k0 R := by
 intro k0 u0
 refine xcos_vc ⟨fun h => absurd h (by decide +kernel), fun _ => ⟨fun _ => ?_, fun h => absurd h (by decide +kernel)⟩⟩
 rw [show IntKind.wrap .i64 (12 - 11) = (1 : Int) from by decide +kernel]
 refine xcos1_s fun k1 d1 u1 h1 => ⟨d1, h1.seg, rfl, ?_⟩
 refine SNeg_s h1 (by decide) fun k3 d3 u3 h3 => ⟨d3, h3.seg, rfl, fun k4 u4 => ?_⟩
 exact C k4 d3 (((u0.trans u1).trans u3).trans u4) (h3.up u4)
theorem xcos12_s (C : ∀ k' ds, Up k k' → SurdV k' ds (cosQ 12) 1 → R k' (.agg ds)) :
   ∀ k0, Up k k0 → CallsG Tryz.prog 28 #[.int .i64 12] k0 R := by
 intro k0 u0
 refine xcos_vc ⟨fun h => absurd h (by decide +kernel), fun _ => ⟨fun _ => ?_, fun h => absurd h (by decide +kernel)⟩⟩
 rw [show IntKind.wrap .i64 (12 - 12) = (0 : Int) from by decide +kernel]
 refine xcos0_s fun k1 d1 u1 h1 => ⟨d1, h1.seg, rfl, ?_⟩
 refine SNeg_s h1 (by decide) fun k3 d3 u3 h3 => ⟨d3, h3.seg, rfl, fun k4 u4 => ?_⟩
 exact C k4 d3 (((u0.trans u1).trans u3).trans u4) (h3.up u4)
theorem xcos13_s (C : ∀ k' ds, Up k k' → SurdV k' ds (cosQ 13) 1 → R k' (.agg ds)) :
   ∀ k0, Up k k0 → CallsG Tryz.prog 28 #[.int .i64 13] k0 R := by
 intro k0 u0
 refine xcos_vc ⟨fun _ => ⟨fun _ => ?_, fun h => absurd h (by decide +kernel)⟩, fun h => absurd h (by decide +kernel)⟩
 rw [show IntKind.wrap .i64 (12 - (IntKind.wrap .i64 (24 - 13))) = (1 : Int) from by decide +kernel]
 refine xcos1_s fun k1 d1 u1 h1 => ⟨d1, h1.seg, rfl, ?_⟩
 refine SNeg_s h1 (by decide) fun k3 d3 u3 h3 => ⟨d3, h3.seg, rfl, fun k4 u4 => ?_⟩
 exact C k4 d3 (((u0.trans u1).trans u3).trans u4) (h3.up u4)
theorem xcos14_s (C : ∀ k' ds, Up k k' → SurdV k' ds (cosQ 14) 1 → R k' (.agg ds)) :
   ∀ k0, Up k k0 → CallsG Tryz.prog 28 #[.int .i64 14] k0 R := by
 intro k0 u0
 refine xcos_vc ⟨fun _ => ⟨fun _ => ?_, fun h => absurd h (by decide +kernel)⟩, fun h => absurd h (by decide +kernel)⟩
 rw [show IntKind.wrap .i64 (12 - (IntKind.wrap .i64 (24 - 14))) = (2 : Int) from by decide +kernel]
 refine xcos2_s fun k1 d1 u1 h1 => ⟨d1, h1.seg, rfl, ?_⟩
 refine SNeg_s h1 (by decide) fun k3 d3 u3 h3 => ⟨d3, h3.seg, rfl, fun k4 u4 => ?_⟩
 exact C k4 d3 (((u0.trans u1).trans u3).trans u4) (h3.up u4)
theorem xcos15_s (C : ∀ k' ds, Up k k' → SurdV k' ds (cosQ 15) 1 → R k' (.agg ds)) :
   ∀ k0, Up k k0 → CallsG Tryz.prog 28 #[.int .i64 15] k0 R := by
 intro k0 u0
 refine xcos_vc ⟨fun _ => ⟨fun _ => ?_, fun h => absurd h (by decide +kernel)⟩, fun h => absurd h (by decide +kernel)⟩
 rw [show IntKind.wrap .i64 (12 - (IntKind.wrap .i64 (24 - 15))) = (3 : Int) from by decide +kernel]
 refine xcos3_s fun k1 d1 u1 h1 => ⟨d1, h1.seg, rfl, ?_⟩
 refine SNeg_s h1 (by decide) fun k3 d3 u3 h3 => ⟨d3, h3.seg, rfl, fun k4 u4 => ?_⟩
 exact C k4 d3 (((u0.trans u1).trans u3).trans u4) (h3.up u4)
theorem xcos16_s (C : ∀ k' ds, Up k k' → SurdV k' ds (cosQ 16) 1 → R k' (.agg ds)) :
   ∀ k0, Up k k0 → CallsG Tryz.prog 28 #[.int .i64 16] k0 R := by
 intro k0 u0
 refine xcos_vc ⟨fun _ => ⟨fun _ => ?_, fun h => absurd h (by decide +kernel)⟩, fun h => absurd h (by decide +kernel)⟩
 rw [show IntKind.wrap .i64 (12 - (IntKind.wrap .i64 (24 - 16))) = (4 : Int) from by decide +kernel]
 refine xcos4_s fun k1 d1 u1 h1 => ⟨d1, h1.seg, rfl, ?_⟩
 refine SNeg_s h1 (by decide) fun k3 d3 u3 h3 => ⟨d3, h3.seg, rfl, fun k4 u4 => ?_⟩
 exact C k4 d3 (((u0.trans u1).trans u3).trans u4) (h3.up u4)
theorem xcos17_s (C : ∀ k' ds, Up k k' → SurdV k' ds (cosQ 17) 1 → R k' (.agg ds)) :
   ∀ k0, Up k k0 → CallsG Tryz.prog 28 #[.int .i64 17] k0 R := by
 intro k0 u0
 refine xcos_vc ⟨fun _ => ⟨fun _ => ?_, fun h => absurd h (by decide +kernel)⟩, fun h => absurd h (by decide +kernel)⟩
 rw [show IntKind.wrap .i64 (12 - (IntKind.wrap .i64 (24 - 17))) = (5 : Int) from by decide +kernel]
 refine xcos5_s fun k1 d1 u1 h1 => ⟨d1, h1.seg, rfl, ?_⟩
 refine SNeg_s h1 (by decide) fun k3 d3 u3 h3 => ⟨d3, h3.seg, rfl, fun k4 u4 => ?_⟩
 exact C k4 d3 (((u0.trans u1).trans u3).trans u4) (h3.up u4)
theorem xcos18_s (C : ∀ k' ds, Up k k' → SurdV k' ds (cosQ 18) 1 → R k' (.agg ds)) :
   ∀ k0, Up k k0 → CallsG Tryz.prog 28 #[.int .i64 18] k0 R := by
 intro k0 u0
 refine xcos_vc ⟨fun _ => ⟨fun h => absurd h (by decide +kernel), fun _ => ⟨fun h => absurd h (by decide +kernel), fun _ => ⟨fun h => absurd h (by decide +kernel), fun _ => ⟨fun h => absurd h (by decide +kernel), fun _ => ⟨fun h => absurd h (by decide +kernel), fun _ => ⟨fun h => absurd h (by decide +kernel), fun _ => ⟨fun h => absurd h (by decide +kernel), fun _ => ?_⟩⟩⟩⟩⟩⟩⟩, fun h => absurd h (by decide +kernel)⟩
 intro k1 u1
 exact C k1 _ (u0.trans u1) (SurdV.nil (Nat.zero_le _))
theorem xcos19_s (C : ∀ k' ds, Up k k' → SurdV k' ds (cosQ 19) 1 → R k' (.agg ds)) :
   ∀ k0, Up k k0 → CallsG Tryz.prog 28 #[.int .i64 19] k0 R := by
 intro k0 u0
 refine xcos_vc ⟨fun _ => ⟨fun h => absurd h (by decide +kernel), fun _ => ⟨fun h => absurd h (by decide +kernel), fun _ => ⟨fun h => absurd h (by decide +kernel), fun _ => ⟨fun h => absurd h (by decide +kernel), fun _ => ⟨fun h => absurd h (by decide +kernel), fun _ => ⟨fun h => absurd h (by decide +kernel), fun _ => ⟨fun _ => ?_, fun h => absurd h (by decide +kernel)⟩⟩⟩⟩⟩⟩⟩, fun h => absurd h (by decide +kernel)⟩
 refine part34_s fun k1 d1 u1 h1 => ⟨d1, h1.seg, rfl, ?_⟩
 refine part14_s fun k2 d2 u2 h2 => ⟨d2, h2.seg, rfl, ?_⟩
 refine SSub_s (h1.up u2) h2 (by decide) (by decide) fun k3 d3 u3 h3 => ⟨d3, h3.seg, rfl, fun k4 u4 => ?_⟩
 refine C k4 d3 ((((u0.trans u1).trans u2).trans u3).trans u4) (SurdV.cut (K := 2 * 1 + 1) (cast4 (h3.up u4) (by decide +kernel)) (by decide +kernel))
theorem xcos20_s (C : ∀ k' ds, Up k k' → SurdV k' ds (cosQ 20) 1 → R k' (.agg ds)) :
   ∀ k0, Up k k0 → CallsG Tryz.prog 28 #[.int .i64 20] k0 R := by
 intro k0 u0
 refine xcos_vc ⟨fun _ => ⟨fun h => absurd h (by decide +kernel), fun _ => ⟨fun h => absurd h (by decide +kernel), fun _ => ⟨fun h => absurd h (by decide +kernel), fun _ => ⟨fun h => absurd h (by decide +kernel), fun _ => ⟨fun h => absurd h (by decide +kernel), fun _ => ⟨fun _ => ?_, fun h => absurd h (by decide +kernel)⟩⟩⟩⟩⟩⟩, fun h => absurd h (by decide +kernel)⟩
 exact part02_s fun k1 d1 u1 h1 => ⟨d1, h1.seg, rfl, fun k2 u2 => C k2 d1 ((u0.trans u1).trans u2) (h1.up u2)⟩
theorem xcos21_s (C : ∀ k' ds, Up k k' → SurdV k' ds (cosQ 21) 1 → R k' (.agg ds)) :
   ∀ k0, Up k k0 → CallsG Tryz.prog 28 #[.int .i64 21] k0 R := by
 intro k0 u0
 refine xcos_vc ⟨fun _ => ⟨fun h => absurd h (by decide +kernel), fun _ => ⟨fun h => absurd h (by decide +kernel), fun _ => ⟨fun h => absurd h (by decide +kernel), fun _ => ⟨fun h => absurd h (by decide +kernel), fun _ => ⟨fun _ => ?_, fun h => absurd h (by decide +kernel)⟩⟩⟩⟩⟩, fun h => absurd h (by decide +kernel)⟩
 exact part12_s fun k1 d1 u1 h1 => ⟨d1, h1.seg, rfl, fun k2 u2 => C k2 d1 ((u0.trans u1).trans u2) (h1.up u2)⟩
theorem xcos22_s (C : ∀ k' ds, Up k k' → SurdV k' ds (cosQ 22) 1 → R k' (.agg ds)) :
   ∀ k0, Up k k0 → CallsG Tryz.prog 28 #[.int .i64 22] k0 R := by
 intro k0 u0
 refine xcos_vc ⟨fun _ => ⟨fun h => absurd h (by decide +kernel), fun _ => ⟨fun h => absurd h (by decide +kernel), fun _ => ⟨fun h => absurd h (by decide +kernel), fun _ => ⟨fun _ => ?_, fun h => absurd h (by decide +kernel)⟩⟩⟩⟩, fun h => absurd h (by decide +kernel)⟩
 exact part22_s fun k1 d1 u1 h1 => ⟨d1, h1.seg, rfl, fun k2 u2 => C k2 d1 ((u0.trans u1).trans u2) (h1.up u2)⟩
theorem xcos23_s (C : ∀ k' ds, Up k k' → SurdV k' ds (cosQ 23) 1 → R k' (.agg ds)) :
   ∀ k0, Up k k0 → CallsG Tryz.prog 28 #[.int .i64 23] k0 R := by
 intro k0 u0
 refine xcos_vc ⟨fun _ => ⟨fun h => absurd h (by decide +kernel), fun _ => ⟨fun h => absurd h (by decide +kernel), fun _ => ⟨fun _ => ?_, fun h => absurd h (by decide +kernel)⟩⟩⟩, fun h => absurd h (by decide +kernel)⟩
 refine part14_s fun k1 d1 u1 h1 => ⟨d1, h1.seg, rfl, ?_⟩
 refine part34_s fun k2 d2 u2 h2 => ⟨d2, h2.seg, rfl, ?_⟩
 refine SAdd_s (h1.up u2) h2 (by decide) (by decide) fun k3 d3 u3 h3 => ⟨d3, h3.seg, rfl, fun k4 u4 => ?_⟩
 refine C k4 d3 ((((u0.trans u1).trans u2).trans u3).trans u4) (SurdV.cut (K := 2 * 1 + 1) (cast4 (h3.up u4) (by decide +kernel)) (by decide +kernel))
theorem xcos_s {n : Nat} (hn : n < 24) (C : ∀ k' ds, Up k k' → SurdV k' ds (cosQ n) 1 → R k' (.agg ds)) :
   ∀ k0, Up k k0 → CallsG Tryz.prog 28 #[.int .i64 (n : Int)] k0 R := by
 match n, hn with
 | 0, _ => exact xcos0_s C
 | 1, _ => exact xcos1_s C
 | 2, _ => exact xcos2_s C
 | 3, _ => exact xcos3_s C
 | 4, _ => exact xcos4_s C
 | 5, _ => exact xcos5_s C
 | 6, _ => exact xcos6_s C
 | 7, _ => exact xcos7_s C
 | 8, _ => exact xcos8_s C
 | 9, _ => exact xcos9_s C
 | 10, _ => exact xcos10_s C
 | 11, _ => exact xcos11_s C
 | 12, _ => exact xcos12_s C
 | 13, _ => exact xcos13_s C
 | 14, _ => exact xcos14_s C
 | 15, _ => exact xcos15_s C
 | 16, _ => exact xcos16_s C
 | 17, _ => exact xcos17_s C
 | 18, _ => exact xcos18_s C
 | 19, _ => exact xcos19_s C
 | 20, _ => exact xcos20_s C
 | 21, _ => exact xcos21_s C
 | 22, _ => exact xcos22_s C
 | 23, _ => exact xcos23_s C
 | n + 24, h => exact absurd h (by omega)
theorem plc_eq {n : Int} : Int.tmod (IntKind.wrap .i64 ((Int.tmod n 24) + 24)) 24 = (plc n : Int) := by
 have h : Int.tmod n 24 = n % 24 ∨ Int.tmod n 24 = n % 24 - 24 := by
   rw [Int.tmod_eq_emod]
   split
   · left; omega
   · right; rfl
 have hw : IntKind.wrap .i64 ((Int.tmod n 24) + 24) = Int.tmod n 24 + 24 := by rw [IntKind.wrap_i64]; omega
 rw [hw, Int.tmod_eq_emod_of_nonneg (by omega)]
 unfold plc
 omega
theorem place_s {n : Int} (C : ∀ k', Up k k' → R k' (.int .i64 (plc n : Int))) :
   ∀ k0, Up k k0 → CallsG Tryz.prog 27 #[.int .i64 n] k0 R := by
 intro k0 u0
 refine place_vc fun k1 u1 => ?_
 rw [plc_eq]
 exact C k1 (u0.trans u1)
theorem plc_back {m : Nat} (h : m < 24) : plc (IntKind.wrap .i64 ((m : Int) - 6)) = (m + 18) % 24 := by
 have hw : IntKind.wrap .i64 ((m : Int) - 6) = (m : Int) - 6 := by rw [IntKind.wrap_i64]; omega
 rw [hw]
 unfold plc
 omega
theorem xturn_s {n : Int} (C : ∀ k' ds, Up k k' → WaveV k' ds (turnW (plc n)) 1 → R k' (.agg ds)) :
   ∀ k0, Up k k0 → CallsG Tryz.prog 12 #[.int .i64 n] k0 R := by
 intro k0 u0
 have hl := plc_lt n
 refine xTurn_vc (place_s fun k1 u1 => ⟨_, rfl, ?_⟩)
 refine xcos_s hl fun k2 d2 u2 h2 => ⟨d2, h2.seg, rfl, ?_⟩
 have e := plc_back hl
 refine place_s fun k3 u3 => ⟨_, rfl, ?_⟩
 rw [e]
 refine xcos_s (Nat.mod_lt _ (by decide)) fun k4 d4 u4 h4 => ⟨d4, h4.seg, rfl, fun k5 u5 => ?_⟩
 exact C k5 _ (((((u0.trans u1).trans u2).trans u3).trans u4).trans u5) ⟨d2, d4, rfl, ((h2.up u3).up u4).up u5, h4.up u5⟩
end
end Go.Proofs.YtimkcbikeocaeaaGreat

/- High. -/
namespace Go.Proofs.YtimkcbikeocaeaaGreat
open Go.RowKit Num Plain
open Sy (Up Sees CallsG Seg)
section
variable {k k' : World} {R : World → Value → Prop} {K L : Nat} {cs cs' : Array Value} {x y : W4} {v v' : Q4}
theorem plc_down {j : Nat} (hj : j < 24) : plc (IntKind.wrap .i64 (0 - (j : Int))) = (24 - j) % 24 := by
 have hw : IntKind.wrap .i64 (0 - (j : Int)) = 0 - (j : Int) := by rw [IntKind.wrap_i64]; omega
 rw [hw]
 unfold plc
 omega
theorem wrap_up {j : Nat} (hj : j < 100) : IntKind.wrap .i64 ((j : Int) + 1) = ((j + 1 : Nat) : Int) := by rw [IntKind.wrap_i64]; omega
theorem high_s (hx : WaveV k cs x K) (hK1 : 1 ≤ K) (hK : K ≤ 1000000) (C : ∀ k' ds, Up k k' → SurdV k' ds (hi x 23).2 (4 * K + 9) → R k' (.tuple #[.int .i64 ((hi x 23).1 : Int), .agg ds])) :
   ∀ k0, Up k k0 → CallsG Tryz.prog 26 #[.agg cs] k0 R := by
 intro k0 u0
 replace hx := hx.up u0
 replace C := fun k' ds u => C k' ds (u0.trans u)
 have hx' := hx
 obtain ⟨a, b, rfl, a0, b0⟩ := hx'
 refine wHigh_vc a0.seg b0.seg ⟨fun m k' vs => ∃ j c, j ≤ 23 ∧ m = 23 - j ∧ vs = [.int .i64 ((hi x j).1 : Int), .int .i64 ((j + 1 : Nat) : Int), .agg c] ∧ SurdV k' c (hi x j).2 (4 * K + 9), ⟨23, fun k' u => ⟨0, a, by omega, rfl, rfl, (a0.up u).mono (by omega)⟩⟩, ?_⟩
 rintro m k1 vs u1 ⟨j, c, hj, rfl, rfl, hb⟩
 refine ⟨_, _, c, hb.seg, rfl, fun hlt => ?_, fun hge k9 u9 => ?_⟩
 · have hlt := of_decide_eq_true hlt
   refine xturn_s fun k2 d2 u2 hT => ?_
   rw [plc_down (j := j + 1) (by omega)] at hT
   have hT' := hT
   obtain ⟨p, q, rfl, p0, q0⟩ := hT'
   refine ⟨p, p0.seg, q, q0.seg, rfl, ?_⟩
   refine WMul_s ((hx.up u1).up u2) (hT.mono hK1) hK1 (by omega) fun k4 d4 u4 hM => ?_
   obtain ⟨r, s, rfl, r0, s0⟩ := hM
   refine ⟨r, r0.seg, s, s0.seg, rfl, ?_⟩
   refine SCmp_s r0 ((hb.up u2).up u4) (by omega) (by omega) fun k6 u6 => ⟨_, rfl, fun hc => ?_, fun hc => ?_⟩
   · have hc : 0 < sgd (fAt x (j + 1)) (hi x j).2 := of_decide_eq_true hc
     have e : hi x (j + 1) = (j + 1, fAt x (j + 1)) := by show (if _ then _ else _) = _; rw [if_pos hc]
     intro k7 u7
     refine ⟨23 - (j + 1), by omega, j + 1, r, by omega, rfl, ?_, ?_⟩
     · rw [e, wrap_up (by omega)]
     · rw [e]; exact (r0.up u6).up u7
   · have hc : ¬ 0 < sgd (fAt x (j + 1)) (hi x j).2 := of_decide_eq_false hc
     have e : hi x (j + 1) = hi x j := by show (if _ then _ else _) = _; rw [if_neg hc]
     intro k7 u7
     refine ⟨23 - (j + 1), by omega, j + 1, c, by omega, rfl, ?_, ?_⟩
     · rw [e, wrap_up (by omega)]
     · rw [e]; exact (((hb.up u2).up u4).up u6).up u7
 · have hge := of_decide_eq_false hge
   have e : j = 23 := by omega
   subst e
   exact C k9 c (u1.trans u9) (hb.up u9)
end
end Go.Proofs.YtimkcbikeocaeaaGreat

/- Mounting: the least Norm of all turns. No program. -/
namespace Go.Proofs.YtimkcbikeocaeaaGreat
open Num Plain Q23L
def gAt (p : W4) (k : Nat) : Q4 := (p.mul (turnW k)).re
noncomputable def lo (p : W4) : Nat → Nat × Q4
 | 0 => (0, p.re)
 | j + 1 => if sgd (gAt p (j + 1)) (lo p j).2 < 0 then (j + 1, gAt p (j + 1)) else lo p j
theorem gAt_zero (p : W4) : gAt p 0 = p.re := by
 unfold gAt
 rw [turn_zero, W4.mul_one]
theorem lo_spec (p : W4) (j : Nat) : (lo p j).1 ≤ j ∧ (lo p j).2 = gAt p (lo p j).1 ∧ ∀ i, i ≤ j → sgd (lo p j).2 (gAt p i) ≤ 0 := by
 induction j with
 | zero =>
   refine ⟨Nat.le_refl _, (gAt_zero p).symm, fun i hi => ?_⟩
   have : i = 0 := by omega
   subst this
   rw [gAt_zero]
   show sgd p.re p.re ≤ 0
   rw [sgd_self]
   decide
 | succ j ih =>
   obtain ⟨h1, h2, h3⟩ := ih
   by_cases hc : sgd (gAt p (j + 1)) (lo p j).2 < 0
   · have e : lo p (j + 1) = (j + 1, gAt p (j + 1)) := by show (if _ then _ else _) = _; rw [if_pos hc]
     rw [e]
     refine ⟨Nat.le_refl _, rfl, fun i hi => ?_⟩
     by_cases e2 : i = j + 1
     · subst e2
       show sgd (gAt p (j + 1)) (gAt p (j + 1)) ≤ 0
       rw [sgd_self]
       decide
     · exact sgd_trans (Int.le_of_lt hc) (h3 i (by omega))
   · have e : lo p (j + 1) = lo p j := by show (if _ then _ else _) = _; rw [if_neg hc]
     rw [e]
     refine ⟨by omega, h2, fun i hi => ?_⟩
     by_cases e2 : i = j + 1
     · subst e2
       rw [sgd_neg]
       omega
     · exact h3 i (by omega)
def resW (a b : W4) (k : Nat) : W4 := a.add (b.mul (turnW k))
theorem sum_norm (a b c d : Q23) : (a + c) * (a + c) + (b + d) * (b + d) = ((a * a + b * b) + (c * c + d * d)) + ((a * c - -b * d) + (a * c - -b * d)) := by (refine Q23.ext' (Q2.ext' ?_ ?_) (Q2.ext' ?_ ?_) <;> (simp only [Q23.add_re, Q23.add_im, Q23.mul_re, Q23.mul_im, Q23.neg_re, Q23.neg_im, Q23.sub_re, Q23.sub_im, Q2.add_re, Q2.add_im, Q2.mul_re, Q2.mul_im, Q2.neg_re, Q2.neg_im, Q2.sub_re, Q2.sub_im, Q2.three_re, Q2.three_im]; grind))
theorem W4.norm_add (a b : W4) : (a.add b).norm.toQ = (a.norm.toQ + b.norm.toQ) + ((a.conj.mul b).re.toQ + (a.conj.mul b).re.toQ) := by
 unfold W4.norm W4.add W4.conj W4.mul
 simp only [toQ_add, toQ_mul, toQ_sub, toQ_neg]
 exact sum_norm _ _ _ _
theorem norm_turn (b : W4) {k : Nat} (hk : k < 24) : (b.mul (turnW k)).norm = b.norm := by
 rw [W4.norm_mul, turn_norm _ hk]
 refine toQ_inj ?_
 rw [toQ_mul, show (Q4.real 1).toQ = 1 from rfl, mul_one']
theorem res_norm (a b : W4) {k : Nat} (hk : k < 24) : (resW a b k).norm.toQ = (a.norm.toQ + b.norm.toQ) + ((gAt (a.conj.mul b) k).toQ + (gAt (a.conj.mul b) k).toQ) := by
 unfold resW gAt
 rw [W4.norm_add, norm_turn b hk, ← W4.mul_assoc]
theorem two_diff (s p q : Q23) : (s + (p + p)) - (s + (q + q)) = (p - q) + (p - q) := by (refine Q23.ext' (Q2.ext' ?_ ?_) (Q2.ext' ?_ ?_) <;> (simp only [Q23.add_re, Q23.add_im, Q23.sub_re, Q23.sub_im, Q2.add_re, Q2.add_im, Q2.sub_re, Q2.sub_im]; grind))
theorem res_le (a b : W4) {j k : Nat} (hj : j < 24) (hk : k < 24) (h : sgd (gAt (a.conj.mul b) j) (gAt (a.conj.mul b) k) ≤ 0) : sgd (resW a b j).norm (resW a b k).norm ≤ 0 := by
 unfold sgd at *
 rw [toQ_sub, res_norm a b hj, res_norm a b hk, two_diff, ← toQ_sub]
 exact C.sg_trans h h
noncomputable def bestK (a b : W4) : Nat := (lo (a.conj.mul b) 23).1
noncomputable def bestN (a b : W4) : Q4 := (resW a b (bestK a b)).norm
theorem bestK_lt (a b : W4) : bestK a b < 24 := by
 have := (lo_spec (a.conj.mul b) 23).1
 unfold bestK
 omega
theorem best_le (a b : W4) {k : Nat} (hk : k < 24) : sgd (bestN a b) (resW a b k).norm ≤ 0 := by
 obtain ⟨h1, h2, h3⟩ := lo_spec (a.conj.mul b) 23
 refine res_le a b (bestK_lt a b) hk ?_
 unfold bestK
 rw [← h2]
 exact h3 k (by omega)
theorem sgd_le_anti {x y : Q4} (h : sgd x y ≤ 0) (h' : sgd y x ≤ 0) : x = y := by
 rw [sgd_neg] at h'
 exact sgd_zero.1 (by omega)
theorem res_turned (a b : W4) {m n k : Nat} (hm : m < 24) (hn : n < 24) (hk : k < 24) : (resW (a.mul (turnW m)) (b.mul (turnW n)) k).norm = (resW a b ((k + n + 24 - m) % 24)).norm := by
 have e : resW (a.mul (turnW m)) (b.mul (turnW n)) k = (resW a b ((k + n + 24 - m) % 24)).mul (turnW m) := by
   unfold resW
   rw [W4.add_mul, W4.mul_assoc b, W4.mul_assoc b, turn_mul _ hn _ hk, turn_mul _ (Nat.mod_lt _ (by decide)) _ hm]
   congr 3
   omega
 rw [e, norm_turn _ hm]
theorem best_turned (a b : W4) {m n : Nat} (hm : m < 24) (hn : n < 24) : bestN (a.mul (turnW m)) (b.mul (turnW n)) = bestN a b := by
 refine sgd_le_anti ?_ ?_
 · have h := best_le (a.mul (turnW m)) (b.mul (turnW n)) (k := (bestK a b + 48 + m - n) % 24) (Nat.mod_lt _ (by decide))
   rw [res_turned a b hm hn (Nat.mod_lt _ (by decide))] at h
   have e : ((bestK a b + 48 + m - n) % 24 + n + 24 - m) % 24 = bestK a b := by
     have := bestK_lt a b
     omega
   rw [e] at h
   exact h
 · have h := best_le a b (k := (bestK (a.mul (turnW m)) (b.mul (turnW n)) + n + 24 - m) % 24) (Nat.mod_lt _ (by decide))
   rw [← res_turned a b hm hn (bestK_lt _ _)] at h
   exact h
def sgdF (a b : Q4) : Int := sgF (a.sub b)
theorem sgdF_eq (a b : Q4) : sgd a b = sgdF a b := sgF_eq _
def loF (p : W4) : Nat → Nat × Q4
 | 0 => (0, p.re)
 | j + 1 => if sgdF (gAt p (j + 1)) (loF p j).2 < 0 then (j + 1, gAt p (j + 1)) else loF p j
theorem loF_eq (p : W4) (j : Nat) : lo p j = loF p j := by
 induction j with
 | zero => rfl
 | succ j ih =>
   show (if _ then _ else _) = (if _ then _ else _)
   rw [ih, sgdF_eq]
def hiF (x : W4) : Nat → Nat × Q4
 | 0 => (0, x.re)
 | j + 1 => if 0 < sgdF (fAt x (j + 1)) (hiF x j).2 then (j + 1, fAt x (j + 1)) else hiF x j
theorem hiF_eq (x : W4) (j : Nat) : hi x j = hiF x j := by
 induction j with
 | zero => rfl
 | succ j ih =>
   show (if _ then _ else _) = (if _ then _ else _)
   rw [ih, sgdF_eq]
theorem best_example : bestK ⟨⟨3, 0, 0, 0⟩, Q4.zero⟩ ⟨Q4.zero, ⟨2, 0, 0, 0⟩⟩ = 6 := by
 unfold bestK
 rw [loF_eq]
 decide +kernel
theorem high_example1 : (hi ⟨⟨3, 0, 0, 0⟩, Q4.zero⟩ 23).1 = 0 := by rw [hiF_eq]; decide +kernel
theorem high_example2 : (hi ⟨Q4.zero, ⟨2, 0, 0, 0⟩⟩ 23).1 = 6 := by rw [hiF_eq]; decide +kernel
theorem norm_example : (resW ⟨⟨3, 0, 0, 0⟩, Q4.zero⟩ ⟨Q4.zero, ⟨2, 0, 0, 0⟩⟩ 6).norm = ⟨1, 0, 0, 0⟩ := by decide +kernel
end Go.Proofs.YtimkcbikeocaeaaGreat

/- What is to be shown of the calls of some functions. (Printed by gen/vc.py.) -/
namespace Go.Proofs.YtimkcbikeocaeaaGreat
open Go.RowKit
open Sy (Up Sees CallsG Seg execFn_use)
set_option maxRecDepth 100000
variable {k : World} {R : World → Value → Prop}
theorem sOfQuad_vc {n0 n1 n2 n3 n4 n5 n6 n7 : Int}
    (h : ∀ k0, Up k k0 → CallsG Tryz.prog 56 #[Value.agg #[Value.int .i64 n0, Value.int .i64 n1]] k0 fun k1 r0 => ∃ cs8, Seg 3 cs8 ∧ some (Value.agg cs8) = some r0 ∧
 ∀ k2, Up k1 k2 → CallsG Tryz.prog 56 #[Value.agg #[Value.int .i64 n2, Value.int .i64 n3]] k2 fun k3 r2 => ∃ cs9, Seg 3 cs9 ∧ some (Value.agg cs9) = some r2 ∧
 ∀ k4, Up k3 k4 → CallsG Tryz.prog 56 #[Value.agg #[Value.int .i64 n4, Value.int .i64 n5]] k4 fun k5 r4 => ∃ cs10, Seg 3 cs10 ∧ some (Value.agg cs10) = some r4 ∧
 ∀ k6, Up k5 k6 → CallsG Tryz.prog 56 #[Value.agg #[Value.int .i64 n6, Value.int .i64 n7]] k6 fun k7 r6 => ∃ cs11, Seg 3 cs11 ∧ some (Value.agg cs11) = some r6 ∧
 ∀ k8, Up k7 k8 → R k8 (Value.agg (cs8.toList ++ (cs9.toList ++ (cs10.toList ++ (cs11.toList ++ ([]))))).toArray)) :
    CallsG Tryz.prog 32 #[Value.agg #[Value.int .i64 n0, Value.int .i64 n1, Value.int .i64 n2, Value.int .i64 n3, Value.int .i64 n4, Value.int .i64 n5, Value.int .i64 n6, Value.int .i64 n7]] k R :=
  execFn_use (cfg := { opq := [37] }) (args := [.agg [.var 0, .var 1, .var 2, .var 3, .var 4, .var 5, .var 6, .var 7]]) (vals := [Value.int .i64 n0, Value.int .i64 n1, Value.int .i64 n2, Value.int .i64 n3, Value.int .i64 n4, Value.int .i64 n5, Value.int .i64 n6, Value.int .i64 n7]) (kinds := [.int .i64, .int .i64, .int .i64, .int .i64, .int .i64, .int .i64, .int .i64, .int .i64]) (by kernel_rfl) ⟨⟨_, rfl⟩, ⟨⟨_, rfl⟩, ⟨⟨_, rfl⟩, ⟨⟨_, rfl⟩, ⟨⟨_, rfl⟩, ⟨⟨_, rfl⟩, ⟨⟨_, rfl⟩, ⟨⟨_, rfl⟩, trivial⟩⟩⟩⟩⟩⟩⟩⟩ (by kernel_rfl) (by kernel_rfl) h
theorem wOfWave_vc {n0 n1 n2 n3 n4 n5 n6 n7 n8 n9 n10 n11 n12 n13 n14 n15 : Int}
    (h : ∀ k0, Up k k0 → CallsG Tryz.prog 32 #[Value.agg #[Value.int .i64 n0, Value.int .i64 n1, Value.int .i64 n2, Value.int .i64 n3, Value.int .i64 n4, Value.int .i64 n5, Value.int .i64 n6, Value.int .i64 n7]] k0 fun k1 r0 => ∃ cs16, Seg 12 cs16 ∧ some (Value.agg cs16) = some r0 ∧
 ∀ k2, Up k1 k2 → CallsG Tryz.prog 32 #[Value.agg #[Value.int .i64 n8, Value.int .i64 n9, Value.int .i64 n10, Value.int .i64 n11, Value.int .i64 n12, Value.int .i64 n13, Value.int .i64 n14, Value.int .i64 n15]] k2 fun k3 r2 => ∃ cs17, Seg 12 cs17 ∧ some (Value.agg cs17) = some r2 ∧
 ∀ k4, Up k3 k4 → R k4 (Value.agg (cs16.toList ++ (cs17.toList ++ ([]))).toArray)) :
    CallsG Tryz.prog 16 #[Value.agg #[Value.int .i64 n0, Value.int .i64 n1, Value.int .i64 n2, Value.int .i64 n3, Value.int .i64 n4, Value.int .i64 n5, Value.int .i64 n6, Value.int .i64 n7, Value.int .i64 n8, Value.int .i64 n9, Value.int .i64 n10, Value.int .i64 n11, Value.int .i64 n12, Value.int .i64 n13, Value.int .i64 n14, Value.int .i64 n15]] k R :=
  execFn_use (cfg := { opq := [39] }) (args := [.agg [.var 0, .var 1, .var 2, .var 3, .var 4, .var 5, .var 6, .var 7, .var 8, .var 9, .var 10, .var 11, .var 12, .var 13, .var 14, .var 15]]) (vals := [Value.int .i64 n0, Value.int .i64 n1, Value.int .i64 n2, Value.int .i64 n3, Value.int .i64 n4, Value.int .i64 n5, Value.int .i64 n6, Value.int .i64 n7, Value.int .i64 n8, Value.int .i64 n9, Value.int .i64 n10, Value.int .i64 n11, Value.int .i64 n12, Value.int .i64 n13, Value.int .i64 n14, Value.int .i64 n15]) (kinds := [.int .i64, .int .i64, .int .i64, .int .i64, .int .i64, .int .i64, .int .i64, .int .i64, .int .i64, .int .i64, .int .i64, .int .i64, .int .i64, .int .i64, .int .i64, .int .i64]) (by kernel_rfl) ⟨⟨_, rfl⟩, ⟨⟨_, rfl⟩, ⟨⟨_, rfl⟩, ⟨⟨_, rfl⟩, ⟨⟨_, rfl⟩, ⟨⟨_, rfl⟩, ⟨⟨_, rfl⟩, ⟨⟨_, rfl⟩, ⟨⟨_, rfl⟩, ⟨⟨_, rfl⟩, ⟨⟨_, rfl⟩, ⟨⟨_, rfl⟩, ⟨⟨_, rfl⟩, ⟨⟨_, rfl⟩, ⟨⟨_, rfl⟩, ⟨⟨_, rfl⟩, trivial⟩⟩⟩⟩⟩⟩⟩⟩⟩⟩⟩⟩⟩⟩⟩⟩ (by kernel_rfl) (by kernel_rfl) h
end Go.Proofs.YtimkcbikeocaeaaGreat

/- The reference's Surds: sums, products, quotients. (Printed by gen/refs.py.) -/
namespace Go.Proofs.YtimkcbikeocaeaaGreat.W32
open Go.RowKit Num
open Sy (Up Sees CallsG Seg)
def cat4 (c0 c1 c2 c3 : Array Value) : Array Value := (c0.toList ++ (c1.toList ++ (c2.toList ++ (c3.toList ++ ([]))))).toArray
def SQ (k : World) (cs : Array Value) (v : Q4) (K : Nat) : Prop := ∃ c0 c1 c2 c3 : Array Value, cs = cat4 c0 c1 c2 c3 ∧ QV k c0 v.a K ∧ QV k c1 v.b K ∧ QV k c2 v.c K ∧ QV k c3 v.d K
section
variable {k k' : World} {cs cs' c0 c1 c2 c3 : Array Value} {R : World → Value → Prop} {x y q q' : Rat} {v v' : Q4} {K L : Nat}
theorem SQ.up (h : SQ k cs v K) (u : Up k k') : SQ k' cs v K := by
 obtain ⟨c0, c1, c2, c3, e, h0, h1, h2, h3⟩ := h
 exact ⟨c0, c1, c2, c3, e, h0.up u, h1.up u, h2.up u, h3.up u⟩
theorem seg_cat4 (h0 : Seg 3 c0) (h1 : Seg 3 c1) (h2 : Seg 3 c2) (h3 : Seg 3 c3) : Seg 12 (cat4 c0 c1 c2 c3) := by
 obtain ⟨a0, b0⟩ := h0
 obtain ⟨a1, b1⟩ := h1
 obtain ⟨a2, b2⟩ := h2
 obtain ⟨a3, b3⟩ := h3
 refine ⟨by simp [cat4, a0, a1, a2, a3], fun u hu => ?_⟩
 simp only [cat4, List.append_nil, List.mem_append] at hu
 rcases hu with hu | hu | hu | hu
 · exact b0 u hu
 · exact b1 u hu
 · exact b2 u hu
 · exact b3 u hu
theorem SQ.seg (h : SQ k cs v K) : Seg 12 cs := by
 obtain ⟨c0, c1, c2, c3, rfl, h0, h1, h2, h3⟩ := h
 exact seg_cat4 h0.seg h1.seg h2.seg h3.seg
end
end Go.Proofs.YtimkcbikeocaeaaGreat.W32

/- The reference's Surds: zero, quotients, plain data. (Printed by gen/refs2.py.) -/
namespace Go.Proofs.YtimkcbikeocaeaaGreat.W32
open Go.RowKit Num
open Sy (Up Sees CallsG Seg)
section
variable {k k' : World} {cs cs' c0 c1 c2 c3 : Array Value} {R : World → Value → Prop} {x y q q' : Rat} {v v' : Q4} {K L : Nat}
theorem squad_v {n0 n1 n2 n3 n4 n5 n6 n7 : Int} (h0 : In64 n0) (h1 : In64 n1) (h2 : In64 n2) (h3 : In64 n3) (h4 : In64 n4) (h5 : In64 n5) (h6 : In64 n6) (h7 : In64 n7) (C : ∀ k' ds, Up k k' → SQ k' ds ⟨ofQ n0 n1, ofQ n2 n3, ofQ n4 n5, ofQ n6 n7⟩ 2 → R k' (.agg ds)) :
   ∀ k0, Up k k0 → CallsG Tryz.prog 32 #[.agg #[.int .i64 n0, .int .i64 n1, .int .i64 n2, .int .i64 n3, .int .i64 n4, .int .i64 n5, .int .i64 n6, .int .i64 n7]] k0 R := by
 intro k0 u0
 refine sOfQuad_vc (of_v h0 h1 fun k1 d1 u1 q1 => ⟨d1, q1.seg, rfl, ?_⟩)
 refine of_v h2 h3 fun k3 d3 u3 q3 => ⟨d3, q3.seg, rfl, ?_⟩
 refine of_v h4 h5 fun k5 d5 u5 q5 => ⟨d5, q5.seg, rfl, ?_⟩
 refine of_v h6 h7 fun k7 d7 u7 q7 => ⟨d7, q7.seg, rfl, fun k8 u8 => ?_⟩
 exact C k8 _ (((((u0.trans u1).trans u3).trans u5).trans u7).trans u8) ⟨d1, d3, d5, d7, rfl, (((q1.up u3).up u5).up u7).up u8, ((q3.up u5).up u7).up u8, (q5.up u7).up u8, q7.up u8⟩
end
end Go.Proofs.YtimkcbikeocaeaaGreat.W32

/- Waves of the reference. (Printed by gen/waves.py.) -/
namespace Go.Proofs.YtimkcbikeocaeaaGreat.W32
open Go.RowKit Num
open Sy (Up Sees CallsG Seg)
def WQ (k : World) (cs : Array Value) (w : W4) (K : Nat) : Prop := ∃ c0 c1 : Array Value, cs = cat2 c0 c1 ∧ SQ k c0 w.re K ∧ SQ k c1 w.im K
section
variable {k k' : World} {cs cs' c0 c1 : Array Value} {R : World → Value → Prop} {v v' : Q4} {x y : W4} {q : Rat} {K L : Nat}
theorem WQ.seg (h : WQ k cs x K) : Seg 24 cs := by
 obtain ⟨c0, c1, rfl, h0, h1⟩ := h
 exact seg_cat2 h0.seg h1.seg
theorem wofwave_v {n0 n1 n2 n3 n4 n5 n6 n7 n8 n9 n10 n11 n12 n13 n14 n15 : Int} (h0 : In64 n0) (h1 : In64 n1) (h2 : In64 n2) (h3 : In64 n3) (h4 : In64 n4) (h5 : In64 n5) (h6 : In64 n6) (h7 : In64 n7) (h8 : In64 n8) (h9 : In64 n9) (h10 : In64 n10) (h11 : In64 n11) (h12 : In64 n12) (h13 : In64 n13) (h14 : In64 n14) (h15 : In64 n15) (C : ∀ k' ds, Up k k' → WQ k' ds ⟨⟨ofQ n0 n1, ofQ n2 n3, ofQ n4 n5, ofQ n6 n7⟩, ⟨ofQ n8 n9, ofQ n10 n11, ofQ n12 n13, ofQ n14 n15⟩⟩ 2 → R k' (.agg ds)) :
   ∀ k0, Up k k0 → CallsG Tryz.prog 16 #[.agg #[.int .i64 n0, .int .i64 n1, .int .i64 n2, .int .i64 n3, .int .i64 n4, .int .i64 n5, .int .i64 n6, .int .i64 n7, .int .i64 n8, .int .i64 n9, .int .i64 n10, .int .i64 n11, .int .i64 n12, .int .i64 n13, .int .i64 n14, .int .i64 n15]] k0 R := by
 intro k0 u0
 refine wOfWave_vc (squad_v h0 h1 h2 h3 h4 h5 h6 h7 fun k1 d1 u1 q1 => ⟨d1, q1.seg, rfl, ?_⟩)
 refine squad_v h8 h9 h10 h11 h12 h13 h14 h15 fun k3 d3 u3 q3 => ⟨d3, q3.seg, rfl, fun k4 u4 => ?_⟩
 exact C k4 _ (((u0.trans u1).trans u3).trans u4) ⟨d1, d3, rfl, (q1.up u3).up u4, q3.up u4⟩
end
end Go.Proofs.YtimkcbikeocaeaaGreat.W32

/- What is to be shown of the calls of some functions. (Printed by gen/vc.py.) -/
namespace Go.Proofs.YtimkcbikeocaeaaGreat
open Go.RowKit
open Sy (Up Sees CallsG Seg execFn_use)
set_option maxRecDepth 100000
variable {k : World} {R : World → Value → Prop}
theorem mRes_vc {cs0 cs1 : Array Value} {n2 : Int} (hcs0 : Seg 18 cs0) (hcs1 : Seg 18 cs1)
    (h : ∀ k0, Up k k0 → CallsG Tryz.prog 12 #[Value.int .i64 n2] k0 fun k1 r0 => ∃ cs3, Seg 18 cs3 ∧ some (Value.agg cs3) = some r0 ∧
 ∀ k2, Up k1 k2 → CallsG Tryz.prog 11 #[Value.agg cs1, Value.agg cs3] k2 fun k3 r2 => ∃ cs4, Seg 18 cs4 ∧ some (Value.agg cs4) = some r2 ∧
 ∀ k4, Up k3 k4 → CallsG Tryz.prog 22 #[Value.agg cs0, Value.agg cs4] k4 fun k5 r4 => ∃ cs5, Seg 18 cs5 ∧ some (Value.agg cs5) = some r4 ∧
 ∀ k6, Up k5 k6 → R k6 (Value.agg cs5)) :
    CallsG Tryz.prog 6 #[Value.agg cs0, Value.agg cs1, Value.int .i64 n2] k R :=
  execFn_use (cfg := { opq := [34] }) (args := [.agg [.seg 0 18], .agg [.seg 1 18], .one (.var 2)]) (vals := [Value.agg cs0, Value.agg cs1, Value.int .i64 n2]) (kinds := [.seg 18, .seg 18, .int .i64]) (by kernel_rfl) ⟨⟨cs0, rfl, hcs0⟩, ⟨⟨cs1, rfl, hcs1⟩, ⟨⟨_, rfl⟩, trivial⟩⟩⟩ (by kernel_rfl) (by kernel_rfl) h
theorem mBest_vc {cs0 cs1 : Array Value} (hcs0 : Seg 18 cs0) (hcs1 : Seg 18 cs1)
    (h : ∀ k0, Up k k0 → CallsG Tryz.prog 17 #[Value.agg cs0] k0 fun k1 r0 => ∃ cs2, Seg 18 cs2 ∧ some (Value.agg cs2) = some r0 ∧
 ∀ k2, Up k1 k2 → CallsG Tryz.prog 11 #[Value.agg cs2, Value.agg cs1] k2 fun k3 r2 => ∃ cs3, Seg 18 cs3 ∧ some (Value.agg cs3) = some r2 ∧
 ∀ k4, Up k3 k4 → CallsG Tryz.prog 18 #[Value.agg cs3] k4 fun k5 r4 => ∃ cs4, Seg 9 cs4 ∧ some (Value.agg cs4) = some r4 ∧
 ∀ k6, Up k5 k6 → CallsG Tryz.prog 19 #[Value.agg cs3] k6 fun k7 r6 => ∃ cs5, Seg 9 cs5 ∧ some (Value.agg cs5) = some r6 ∧
 ∃ I8 : Nat → World → List Value → Prop, (∃ m8, ∀ k8, Up k7 k8 → I8 m8 k8 [Value.int .i64 0, Value.int .i64 1, Value.agg cs4]) ∧
 ∀ m8 k8 vs8, Up k7 k8 → I8 m8 k8 vs8 → ∃ n6, ∃ n7, ∃ cs8, Seg 9 cs8 ∧ some [Value.int .i64 n6, Value.int .i64 n7, Value.agg cs8] = some vs8 ∧
 ((decide ((n7 : Int) < 24)) = true →
 (∀ k9, Up k8 k9 → CallsG Tryz.prog 12 #[Value.int .i64 n7] k9 fun k10 r9 => ∃ cs9, Seg 18 cs9 ∧ some (Value.agg cs9) = some r9 ∧
 ∀ k11, Up k10 k11 → CallsG Tryz.prog 18 #[Value.agg cs9] k11 fun k12 r11 => ∃ cs10, Seg 9 cs10 ∧ some (Value.agg cs10) = some r11 ∧
 ∀ k13, Up k12 k13 → CallsG Tryz.prog 20 #[Value.agg cs4, Value.agg cs10] k13 fun k14 r13 => ∃ cs11, Seg 9 cs11 ∧ some (Value.agg cs11) = some r13 ∧
 ∀ k15, Up k14 k15 → CallsG Tryz.prog 19 #[Value.agg cs9] k15 fun k16 r15 => ∃ cs12, Seg 9 cs12 ∧ some (Value.agg cs12) = some r15 ∧
 ∀ k17, Up k16 k17 → CallsG Tryz.prog 20 #[Value.agg cs5, Value.agg cs12] k17 fun k18 r17 => ∃ cs13, Seg 9 cs13 ∧ some (Value.agg cs13) = some r17 ∧
 ∀ k19, Up k18 k19 → CallsG Tryz.prog 21 #[Value.agg cs11, Value.agg cs13] k19 fun k20 r19 => ∃ cs14, Seg 9 cs14 ∧ some (Value.agg cs14) = some r19 ∧
 ∀ k21, Up k20 k21 → CallsG Tryz.prog 9 #[Value.agg cs14, Value.agg cs8] k21 fun k22 r21 => ∃ n15, some (Value.int .i64 n15) = some r21 ∧
 ((decide ((n15 : Int) < 0)) = true →
 (∀ k23, Up k22 k23 → ∃ m, m < m8 ∧ I8 m k23 [Value.int .i64 n7, Value.int .i64 (IntKind.wrap .i64 (n7 + 1)), Value.agg cs14])) ∧
 ((decide ((n15 : Int) < 0)) = false →
 (∀ k24, Up k22 k24 → ∃ m, m < m8 ∧ I8 m k24 [Value.int .i64 n6, Value.int .i64 (IntKind.wrap .i64 (n7 + 1)), Value.agg cs8])))) ∧
 ((decide ((n7 : Int) < 24)) = false →
 (∀ k25, Up k8 k25 → CallsG Tryz.prog 6 #[Value.agg cs0, Value.agg cs1, Value.int .i64 n6] k25 fun k26 r25 => ∃ cs9, Seg 18 cs9 ∧ some (Value.agg cs9) = some r25 ∧
 ∀ k27, Up k26 k27 → CallsG Tryz.prog 7 #[Value.agg cs9] k27 fun k28 r27 => ∃ cs10, Seg 9 cs10 ∧ some (Value.agg cs10) = some r27 ∧
 ∀ k29, Up k28 k29 → R k29 (Value.agg ((Value.int .i64 n6) :: (cs10.toList ++ ([]))).toArray)))) :
    CallsG Tryz.prog 5 #[Value.agg cs0, Value.agg cs1] k R :=
  execFn_use (cfg := { opq := [34, 32], loops := [(0, [.tmp 8 false [.int .i64], .tmp 10 false [.int .i64], .blk 6 [.seg 9]])] }) (args := [.agg [.seg 0 18], .agg [.seg 1 18]]) (vals := [Value.agg cs0, Value.agg cs1]) (kinds := [.seg 18, .seg 18]) (by kernel_rfl) ⟨⟨cs0, rfl, hcs0⟩, ⟨⟨cs1, rfl, hcs1⟩, trivial⟩⟩ (by kernel_rfl) (by kernel_rfl) h
theorem mDot_vc {cs0 cs1 : Array Value} (hcs0 : Seg 18 cs0) (hcs1 : Seg 18 cs1)
    (h : ∀ k0, Up k k0 → CallsG Tryz.prog 26 #[Value.agg cs0] k0 fun k1 r0 => ∃ n2, ∃ cs3, Seg 9 cs3 ∧ some (Value.tuple #[Value.int .i64 n2, Value.agg cs3]) = some r0 ∧
 ∀ k2, Up k1 k2 → CallsG Tryz.prog 26 #[Value.agg cs1] k2 fun k3 r2 => ∃ n4, ∃ cs5, Seg 9 cs5 ∧ some (Value.tuple #[Value.int .i64 n4, Value.agg cs5]) = some r2 ∧
 ∀ k4, Up k3 k4 → R k4 (Value.int .i64 (Int.tmod (IntKind.wrap .i64 ((IntKind.wrap .i64 ((IntKind.wrap .i64 (n2 + 12)) - n4)) + 24)) 24))) :
    CallsG Tryz.prog 10 #[Value.agg cs0, Value.agg cs1] k R :=
  execFn_use (cfg := { opq := [34, 32] }) (args := [.agg [.seg 0 18], .agg [.seg 1 18]]) (vals := [Value.agg cs0, Value.agg cs1]) (kinds := [.seg 18, .seg 18]) (by kernel_rfl) ⟨⟨cs0, rfl, hcs0⟩, ⟨⟨cs1, rfl, hcs1⟩, trivial⟩⟩ (by kernel_rfl) (by kernel_rfl) h
theorem quad_vc {n0 n1 n2 : Int}
   (h : ∀ k0, Up k k0 → R k0 (Value.agg #[Value.int .i64 (IntKind.wrap .i64 n0), Value.int .i64 4, Value.int .i64 (IntKind.wrap .i64 n1), Value.int .i64 4, Value.int .i64 (IntKind.wrap .i64 n2), Value.int .i64 4, Value.int .i64 0, Value.int .i64 0])) :
   CallsG Tryz.prog 14 #[Value.agg #[Value.int .i8 n0, Value.int .i8 n1, Value.int .i8 n2]] k R :=
 execFn_use (cfg := { opq := [] }) (args := [.agg [.var 0, .var 1, .var 2]]) (vals := [Value.int .i8 n0, Value.int .i8 n1, Value.int .i8 n2]) (kinds := [.int .i8, .int .i8, .int .i8]) (by kernel_rfl) ⟨⟨_, rfl⟩, ⟨⟨_, rfl⟩, ⟨⟨_, rfl⟩, trivial⟩⟩⟩ (by kernel_rfl) (by kernel_rfl) h
theorem mOf_vc {n0 n1 n2 n3 n4 n5 : Int}
    (h : ∀ k0, Up k k0 → CallsG Tryz.prog 14 #[Value.agg #[Value.int .i8 n0, Value.int .i8 n1, Value.int .i8 n2]] k0 fun k1 r0 => ∃ n6, ∃ n7, ∃ n8, ∃ n9, ∃ n10, ∃ n11, ∃ n12, ∃ n13, some (Value.agg #[Value.int .i64 n6, Value.int .i64 n7, Value.int .i64 n8, Value.int .i64 n9, Value.int .i64 n10, Value.int .i64 n11, Value.int .i64 n12, Value.int .i64 n13]) = some r0 ∧
 ∀ k2, Up k1 k2 → CallsG Tryz.prog 14 #[Value.agg #[Value.int .i8 n3, Value.int .i8 n4, Value.int .i8 n5]] k2 fun k3 r2 => ∃ n14, ∃ n15, ∃ n16, ∃ n17, ∃ n18, ∃ n19, ∃ n20, ∃ n21, some (Value.agg #[Value.int .i64 n14, Value.int .i64 n15, Value.int .i64 n16, Value.int .i64 n17, Value.int .i64 n18, Value.int .i64 n19, Value.int .i64 n20, Value.int .i64 n21]) = some r2 ∧
 ∀ k4, Up k3 k4 → CallsG Tryz.prog 15 #[Value.agg #[Value.int .i64 n6, Value.int .i64 n7, Value.int .i64 n8, Value.int .i64 n9, Value.int .i64 n10, Value.int .i64 n11, Value.int .i64 n12, Value.int .i64 n13, Value.int .i64 n14, Value.int .i64 n15, Value.int .i64 n16, Value.int .i64 n17, Value.int .i64 n18, Value.int .i64 n19, Value.int .i64 n20, Value.int .i64 n21]] k4 fun k5 r4 => ∃ cs22, Seg 18 cs22 ∧ some (Value.agg cs22) = some r4 ∧
 ∀ k6, Up k5 k6 → CallsG Tryz.prog 16 #[Value.agg #[Value.int .i64 n6, Value.int .i64 n7, Value.int .i64 n8, Value.int .i64 n9, Value.int .i64 n10, Value.int .i64 n11, Value.int .i64 n12, Value.int .i64 n13, Value.int .i64 n14, Value.int .i64 n15, Value.int .i64 n16, Value.int .i64 n17, Value.int .i64 n18, Value.int .i64 n19, Value.int .i64 n20, Value.int .i64 n21]] k6 fun k7 r6 => ∃ cs23, Seg 24 cs23 ∧ some (Value.agg cs23) = some r6 ∧
 ∀ k8, Up k7 k8 → R k8 (Value.tuple #[Value.agg cs22, Value.agg cs23])) :
    CallsG Tryz.prog 4 #[Value.agg #[Value.int .i8 n0, Value.int .i8 n1, Value.int .i8 n2, Value.int .i8 n3, Value.int .i8 n4, Value.int .i8 n5]] k R :=
  execFn_use (cfg := { opq := [34, 41] }) (args := [.agg [.var 0, .var 1, .var 2, .var 3, .var 4, .var 5]]) (vals := [Value.int .i8 n0, Value.int .i8 n1, Value.int .i8 n2, Value.int .i8 n3, Value.int .i8 n4, Value.int .i8 n5]) (kinds := [.int .i8, .int .i8, .int .i8, .int .i8, .int .i8, .int .i8]) (by kernel_rfl) ⟨⟨_, rfl⟩, ⟨⟨_, rfl⟩, ⟨⟨_, rfl⟩, ⟨⟨_, rfl⟩, ⟨⟨_, rfl⟩, ⟨⟨_, rfl⟩, trivial⟩⟩⟩⟩⟩⟩ (by kernel_rfl) (by kernel_rfl) h
theorem mawake_vc
    (h : ∀ k0, Up k k0 → CallsG Tryz.prog 4 #[Value.agg #[Value.int .i8 12, Value.int .i8 0, Value.int .i8 0, Value.int .i8 0, Value.int .i8 0, Value.int .i8 0]] k0 fun k1 r0 => ∃ cs0, Seg 18 cs0 ∧ ∃ cs1, Seg 24 cs1 ∧ some (Value.tuple #[Value.agg cs0, Value.agg cs1]) = some r0 ∧
 ∀ k2, Up k1 k2 → CallsG Tryz.prog 4 #[Value.agg #[Value.int .i8 0, Value.int .i8 0, Value.int .i8 0, Value.int .i8 8, Value.int .i8 0, Value.int .i8 0]] k2 fun k3 r2 => ∃ cs2, Seg 18 cs2 ∧ ∃ cs3, Seg 24 cs3 ∧ some (Value.tuple #[Value.agg cs2, Value.agg cs3]) = some r2 ∧
 ∀ k4, Up k3 k4 → CallsG Tryz.prog 5 #[Value.agg cs0, Value.agg cs2] k4 fun k5 r4 => ∃ n4, ∃ cs5, Seg 9 cs5 ∧ some (Value.agg ((Value.int .i64 n4) :: (cs5.toList ++ ([]))).toArray) = some r4 ∧
 ∀ k6, Up k5 k6 → CallsG Tryz.prog 10 #[Value.agg cs0, Value.agg cs2] k6 fun k7 r6 => ∃ n6, some (Value.int .i64 n6) = some r6 ∧
 (((n6 : Int) == 6) = true →
 ((((n4 : Int) == 6) = true →
 (∀ k8, Up k7 k8 → CallsG Tryz.prog 29 #[Value.agg cs5] k8 fun k9 r8 => ∃ s7, some (Value.string s7) = some r8 ∧
 ∀ k10, Up k9 k10 → R k10 (Value.bool (ByteArray.toList s7 == ByteArray.toList ⟨#[49]⟩)))) ∧
 (((n4 : Int) == 6) = false →
 (∀ k11, Up k7 k11 → R k11 (Value.bool false))))) ∧
 (((n6 : Int) == 6) = false →
 (∀ k12, Up k7 k12 → R k12 (Value.bool false)))) :
    CallsG Tryz.prog 13 #[] k R :=
  execFn_use (cfg := { opq := [34, 32, 41] }) (args := []) (vals := []) (kinds := []) (by kernel_rfl) trivial (by kernel_rfl) (by kernel_rfl) h
theorem mturns_vc {n0 n1 n2 n3 n4 n5 n6 n7 n8 n9 n10 n11 n12 n13 : Int}
    (h : ∀ k0, Up k k0 → CallsG Tryz.prog 4 #[Value.agg #[Value.int .i8 n0, Value.int .i8 n1, Value.int .i8 n2, Value.int .i8 n3, Value.int .i8 n4, Value.int .i8 n5]] k0 fun k1 r0 => ∃ cs14, Seg 18 cs14 ∧ ∃ cs15, Seg 24 cs15 ∧ some (Value.tuple #[Value.agg cs14, Value.agg cs15]) = some r0 ∧
 ∀ k2, Up k1 k2 → CallsG Tryz.prog 4 #[Value.agg #[Value.int .i8 n6, Value.int .i8 n7, Value.int .i8 n8, Value.int .i8 n9, Value.int .i8 n10, Value.int .i8 n11]] k2 fun k3 r2 => ∃ cs16, Seg 18 cs16 ∧ ∃ cs17, Seg 24 cs17 ∧ some (Value.tuple #[Value.agg cs16, Value.agg cs17]) = some r2 ∧
 ∀ k4, Up k3 k4 → CallsG Tryz.prog 5 #[Value.agg cs14, Value.agg cs16] k4 fun k5 r4 => ∃ n18, ∃ cs19, Seg 9 cs19 ∧ some (Value.agg ((Value.int .i64 n18) :: (cs19.toList ++ ([]))).toArray) = some r4 ∧
 ((decide ((n18 : Int) < 0)) = true →
 (∀ k6, Up k5 k6 → R k6 (Value.bool false))) ∧
 ((decide ((n18 : Int) < 0)) = false →
 (((decide ((n18 : Int) ≥ 24)) = true →
 (∀ k7, Up k5 k7 → R k7 (Value.bool false))) ∧
 ((decide ((n18 : Int) ≥ 24)) = false →
 (∀ k8, Up k5 k8 → CallsG Tryz.prog 6 #[Value.agg cs14, Value.agg cs16, Value.int .i64 n18] k8 fun k9 r8 => ∃ cs20, Seg 18 cs20 ∧ some (Value.agg cs20) = some r8 ∧
 ∀ k10, Up k9 k10 → CallsG Tryz.prog 7 #[Value.agg cs20] k10 fun k11 r10 => ∃ cs21, Seg 9 cs21 ∧ some (Value.agg cs21) = some r10 ∧
 ∀ k12, Up k11 k12 → CallsG Tryz.prog 8 #[Value.agg cs21, Value.agg cs19] k12 fun k13 r12 => ∃ b22, some (Value.bool b22) = some r12 ∧
 ((!b22) = true →
 (∀ k14, Up k13 k14 → R k14 (Value.bool false))) ∧
 ((!b22) = false →
 (∀ k15, Up k13 k15 → CallsG Tryz.prog 6 #[Value.agg cs14, Value.agg cs16, Value.int .i64 n12] k15 fun k16 r15 => ∃ cs23, Seg 18 cs23 ∧ some (Value.agg cs23) = some r15 ∧
 ∀ k17, Up k16 k17 → CallsG Tryz.prog 7 #[Value.agg cs23] k17 fun k18 r17 => ∃ cs24, Seg 9 cs24 ∧ some (Value.agg cs24) = some r17 ∧
 ∀ k19, Up k18 k19 → CallsG Tryz.prog 9 #[Value.agg cs19, Value.agg cs24] k19 fun k20 r19 => ∃ n25, some (Value.int .i64 n25) = some r19 ∧
 ((decide ((n25 : Int) > 0)) = true →
 (∀ k21, Up k20 k21 → R k21 (Value.bool false))) ∧
 ((decide ((n25 : Int) > 0)) = false →
 (∀ k22, Up k20 k22 → CallsG Tryz.prog 10 #[Value.agg cs14, Value.agg cs16] k22 fun k23 r22 => ∃ n26, some (Value.int .i64 n26) = some r22 ∧
 ∀ k24, Up k23 k24 → CallsG Tryz.prog 6 #[Value.agg cs14, Value.agg cs16, Value.int .i64 n26] k24 fun k25 r24 => ∃ cs27, Seg 18 cs27 ∧ some (Value.agg cs27) = some r24 ∧
 ∀ k26, Up k25 k26 → CallsG Tryz.prog 7 #[Value.agg cs27] k26 fun k27 r26 => ∃ cs28, Seg 9 cs28 ∧ some (Value.agg cs28) = some r26 ∧
 ∀ k28, Up k27 k28 → CallsG Tryz.prog 9 #[Value.agg cs19, Value.agg cs28] k28 fun k29 r28 => ∃ n29, some (Value.int .i64 n29) = some r28 ∧
 ((decide ((n29 : Int) > 0)) = true →
 (∀ k30, Up k29 k30 → R k30 (Value.bool false))) ∧
 ((decide ((n29 : Int) > 0)) = false →
 (∀ k31, Up k29 k31 → CallsG Tryz.prog 12 #[Value.int .i64 n12] k31 fun k32 r31 => ∃ cs30, Seg 18 cs30 ∧ some (Value.agg cs30) = some r31 ∧
 ∀ k33, Up k32 k33 → CallsG Tryz.prog 11 #[Value.agg cs14, Value.agg cs30] k33 fun k34 r33 => ∃ cs31, Seg 18 cs31 ∧ some (Value.agg cs31) = some r33 ∧
 ∀ k35, Up k34 k35 → CallsG Tryz.prog 12 #[Value.int .i64 n13] k35 fun k36 r35 => ∃ cs32, Seg 18 cs32 ∧ some (Value.agg cs32) = some r35 ∧
 ∀ k37, Up k36 k37 → CallsG Tryz.prog 11 #[Value.agg cs16, Value.agg cs32] k37 fun k38 r37 => ∃ cs33, Seg 18 cs33 ∧ some (Value.agg cs33) = some r37 ∧
 ∀ k39, Up k38 k39 → CallsG Tryz.prog 5 #[Value.agg cs31, Value.agg cs33] k39 fun k40 r39 => ∃ n34, ∃ cs35, Seg 9 cs35 ∧ some (Value.agg ((Value.int .i64 n34) :: (cs35.toList ++ ([]))).toArray) = some r39 ∧
 ∀ k41, Up k40 k41 → CallsG Tryz.prog 8 #[Value.agg cs35, Value.agg cs19] k41 fun k42 r41 => ∃ b36, some (Value.bool b36) = some r41 ∧
 (b36 = true →
 (∀ k43, Up k42 k43 → CallsG Tryz.prog 13 #[] k43 fun k44 r43 => ∃ b37, some (Value.bool b37) = some r43 ∧
 ∀ k45, Up k44 k45 → R k45 (Value.bool b37))) ∧
 (b36 = false →
 (∀ k46, Up k42 k46 → R k46 (Value.bool false)))))))))))))) :
    CallsG Tryz.prog 3 #[Value.agg #[Value.int .i8 n0, Value.int .i8 n1, Value.int .i8 n2, Value.int .i8 n3, Value.int .i8 n4, Value.int .i8 n5], Value.agg #[Value.int .i8 n6, Value.int .i8 n7, Value.int .i8 n8, Value.int .i8 n9, Value.int .i8 n10, Value.int .i8 n11], Value.int .i64 n12, Value.int .i64 n13] k R :=
  execFn_use (cfg := { opq := [34, 32, 41] }) (args := [.agg [.var 0, .var 1, .var 2, .var 3, .var 4, .var 5], .agg [.var 6, .var 7, .var 8, .var 9, .var 10, .var 11], .one (.var 12), .one (.var 13)]) (vals := [Value.int .i8 n0, Value.int .i8 n1, Value.int .i8 n2, Value.int .i8 n3, Value.int .i8 n4, Value.int .i8 n5, Value.int .i8 n6, Value.int .i8 n7, Value.int .i8 n8, Value.int .i8 n9, Value.int .i8 n10, Value.int .i8 n11, Value.int .i64 n12, Value.int .i64 n13]) (kinds := [.int .i8, .int .i8, .int .i8, .int .i8, .int .i8, .int .i8, .int .i8, .int .i8, .int .i8, .int .i8, .int .i8, .int .i8, .int .i64, .int .i64]) (by kernel_rfl) ⟨⟨_, rfl⟩, ⟨⟨_, rfl⟩, ⟨⟨_, rfl⟩, ⟨⟨_, rfl⟩, ⟨⟨_, rfl⟩, ⟨⟨_, rfl⟩, ⟨⟨_, rfl⟩, ⟨⟨_, rfl⟩, ⟨⟨_, rfl⟩, ⟨⟨_, rfl⟩, ⟨⟨_, rfl⟩, ⟨⟨_, rfl⟩, ⟨⟨_, rfl⟩, ⟨⟨_, rfl⟩, trivial⟩⟩⟩⟩⟩⟩⟩⟩⟩⟩⟩⟩⟩⟩ (by kernel_rfl) (by kernel_rfl) h
end Go.Proofs.YtimkcbikeocaeaaGreat

/- The imaginary part of a Wave. -/
namespace Go.Proofs.YtimkcbikeocaeaaGreat
open Go.RowKit Num Plain
open Sy (Up Sees CallsG Seg execFn_use)
set_option maxRecDepth 100000 in
theorem wIm_vc {k : World} {R : World → Value → Prop} {cs0 : Array Value} {cs1 : Array Value} (hcs0 : Seg 9 cs0) (hcs1 : Seg 9 cs1)
   (h : ∀ k0, Up k k0 → R k0 (Value.agg cs1)) :
   CallsG Tryz.prog 19 #[Value.agg (cs0.toList ++ (cs1.toList ++ ([]))).toArray] k R :=
 execFn_use (cfg := { opq := [32] }) (args := [.agg [.seg 0 9, .seg 1 9]]) (vals := [Value.agg cs0, Value.agg cs1]) (kinds := [.seg 9, .seg 9]) (by kernel_rfl) ⟨⟨cs0, rfl, hcs0⟩, ⟨⟨cs1, rfl, hcs1⟩, trivial⟩⟩ (by kernel_rfl) (by kernel_rfl) h
section
variable {k k' : World} {R : World → Value → Prop} {K L : Nat} {cs cs' : Array Value} {x y : W4} {v v' : Q4}
theorem WIm_s (hx : WaveV k cs x K) (C : ∀ k' ds, Up k k' → SurdV k' ds x.im K → R k' (.agg ds)) :
   ∀ k0, Up k k0 → CallsG Tryz.prog 19 #[.agg cs] k0 R := by
 intro k0 u0
 obtain ⟨a, b, rfl, a0, b0⟩ := hx.up u0
 exact wIm_vc a0.seg b0.seg fun k1 u1 => C k1 _ (u0.trans u1) (b0.up u1)
end
end Go.Proofs.YtimkcbikeocaeaaGreat

/- What MountTurns computes. -/
namespace Go.Proofs.YtimkcbikeocaeaaGreat
open Go.RowKit Num Plain
open Sy (Up Sees CallsG Seg)
section
variable {k k' : World} {R : World → Value → Prop} {K L : Nat} {cs cs' : Array Value} {x y : W4} {v v' : Q4}
def In8 (n : Int) : Prop := -128 ≤ n ∧ n ≤ 127
theorem In8.in64 {n : Int} (h : In8 n) : In64 n := by unfold In8 at h; unfold In64; omega
theorem In8.wrap {n : Int} (h : In8 n) : IntKind.wrap .i64 n = n := by unfold In8 at h; rw [IntKind.wrap_i64]; omega
theorem castM {x y : W4} (h : WaveV k cs x K) (e : x = y) : WaveV k cs y K := e ▸ h
theorem plc_nat {m : Nat} (h : m < 24) : plc (m : Int) = m := by unfold plc; omega
theorem MSame_t (hx : SurdV k cs v K) (hy : SurdV k cs' v' K) (e : v = v') (hK1 : 1 ≤ K) (hK : K ≤ 134217727) (C : ∀ k', Up k k' → R k' (.bool true)) :
   ∀ k0, Up k k0 → CallsG Tryz.prog 8 #[.agg cs, .agg cs'] k0 R :=
 SSame_s hx hy hK1 hK fun k' u b hb => by rw [hb.2 (Q4.sub_zero_iff.2 e)]; exact C k' u
theorem res_s {n : Int} (hx : WaveV k cs x K) (hy : WaveV k cs' y K) (hK1 : 1 ≤ K) (hK : K ≤ 1000000) (C : ∀ k' ds, Up k k' → WaveV k' ds (resW x y (plc n)) (8 * K + 19) → R k' (.agg ds)) :
   ∀ k0, Up k k0 → CallsG Tryz.prog 6 #[.agg cs, .agg cs', .int .i64 n] k0 R := by
 intro k0 u0
 refine mRes_vc hx.seg hy.seg (xturn_s fun k1 d1 u1 hT => ⟨d1, hT.seg, rfl, ?_⟩)
 refine WMul_s ((hy.up u0).up u1) (hT.mono hK1) hK1 (by omega) fun k3 d3 u3 hM => ⟨d3, hM.seg, rfl, ?_⟩
 refine WAdd_s (K := 4 * K + 9) ((((hx.up u0).up u1).up u3).mono (by omega)) hM (by omega) (by omega) fun k5 d5 u5 hA => ⟨d5, hA.seg, rfl, fun k6 u6 => ?_⟩
 exact C k6 d5 ((((u0.trans u1).trans u3).trans u5).trans u6) ((hA.up u6).mono (by omega))
theorem best_s (hx : WaveV k cs x K) (hy : WaveV k cs' y K) (hK1 : 1 ≤ K) (hK : K ≤ 100000) (C : ∀ k' ds, Up k k' → SurdV k' ds (bestN x y) (32 * K + 85) → R k' (.agg ((Value.int .i64 (bestK x y : Int)) :: (ds.toList ++ ([]))).toArray)) :
   ∀ k0, Up k k0 → CallsG Tryz.prog 5 #[.agg cs, .agg cs'] k0 R := by
 intro k0 u0
 replace hx := hx.up u0
 replace hy := hy.up u0
 replace C := fun k' ds u => C k' ds (u0.trans u)
 refine mBest_vc hx.seg hy.seg (WConj_s hx (by omega) fun k1 d1 u1 h1 => ⟨d1, h1.seg, rfl, ?_⟩)
 refine WMul_s h1 (hy.up u1) hK1 (by omega) fun k2 d2 u2 hp => ⟨d2, hp.seg, rfl, ?_⟩
 refine WRe_s hp fun k3 d3 u3 hr => ⟨d3, hr.seg, rfl, ?_⟩
 refine WIm_s (hp.up u3) fun k4 d4 u4 hi => ⟨d4, hi.seg, rfl, ?_⟩
 replace hr := hr.up u4
 have u14 := ((u1.trans u2).trans u3).trans u4
 replace hx := hx.up u14
 replace hy := hy.up u14
 replace C := fun k' ds u => C k' ds (u14.trans u)
 clear u14 u1 u2 u3 u4 h1 hp
 unfold bestN bestK at C
 generalize hpe : x.conj.mul y = p at *
 refine ⟨fun m k' vs => ∃ j c, j ≤ 23 ∧ m = 23 - j ∧ vs = [.int .i64 ((lo p j).1 : Int), .int .i64 ((j + 1 : Nat) : Int), .agg c] ∧ SurdV k' c (lo p j).2 (16 * K + 45), ⟨23, fun k' u => ⟨0, d3, by omega, rfl, rfl, (hr.up u).mono (by omega)⟩⟩, ?_⟩
 rintro m k5 vs u5 ⟨j, c, hj, rfl, rfl, hb⟩
 replace hr := hr.up u5
 replace hi := hi.up u5
 refine ⟨_, _, c, hb.seg, rfl, fun hlt => ?_, fun hge => ?_⟩
 · have hlt := of_decide_eq_true hlt
   refine xturn_s fun k6 d6 u6 hT => ⟨d6, hT.seg, rfl, ?_⟩
   rw [plc_nat (m := j + 1) (by omega)] at hT
   refine WRe_s hT fun k7 d7 u7 ha => ⟨d7, ha.seg, rfl, ?_⟩
   refine SMul_s (K := 4 * K + 9) ((hr.up u6).up u7) (ha.mono (by omega)) (by omega) (by omega) fun k8 d8 u8 hA => ⟨d8, hA.seg, rfl, ?_⟩
   refine WIm_s ((hT.up u7).up u8) fun k9 d9 u9 he => ⟨d9, he.seg, rfl, ?_⟩
   refine SMul_s (K := 4 * K + 9) ((((hi.up u6).up u7).up u8).up u9) (he.mono (by omega)) (by omega) (by omega) fun k10 d10 u10 hB => ⟨d10, hB.seg, rfl, ?_⟩
   refine SSub_s ((hA.up u9).up u10) hB (by omega) (by omega) fun k11 d11 u11 hD => ⟨d11, hD.seg, rfl, ?_⟩
   have u611 := ((((u6.trans u7).trans u8).trans u9).trans u10).trans u11
   replace hD : SurdV k11 d11 (gAt p (j + 1)) (16 * K + 45) := hD.mono (by omega)
   refine SCmp_s hD (hb.up u611) (by omega) (by omega) fun k12 u12 => ⟨_, rfl, fun hc => ?_, fun hc => ?_⟩
   · have hc : sgd (gAt p (j + 1)) (lo p j).2 < 0 := of_decide_eq_true hc
     have e : lo p (j + 1) = (j + 1, gAt p (j + 1)) := by show (if _ then _ else _) = _; rw [if_pos hc]
     intro k13 u13
     refine ⟨23 - (j + 1), by omega, j + 1, d11, by omega, rfl, ?_, ?_⟩
     · rw [e, wrap_up (by omega)]
     · rw [e]; exact (hD.up u12).up u13
   · have hc : ¬ sgd (gAt p (j + 1)) (lo p j).2 < 0 := of_decide_eq_false hc
     have e : lo p (j + 1) = lo p j := by show (if _ then _ else _) = _; rw [if_neg hc]
     intro k13 u13
     refine ⟨23 - (j + 1), by omega, j + 1, c, by omega, rfl, ?_, ?_⟩
     · rw [e, wrap_up (by omega)]
     · rw [e]; exact ((hb.up u611).up u12).up u13
 · have hge := of_decide_eq_false hge
   have e : j = 23 := by omega
   subst e
   have h1 := (lo_spec p 23).1
   refine res_s (hx.up u5) (hy.up u5) hK1 (by omega) fun k6 d6 u6 hA => ⟨d6, hA.seg, rfl, ?_⟩
   rw [plc_nat (by omega)] at hA
   refine WNorm_s hA (by omega) (by omega) fun k7 d7 u7 hN => ⟨d7, hN.seg, rfl, fun k8 u8 => ?_⟩
   exact C k8 d7 (((u5.trans u6).trans u7).trans u8) ((hN.up u8).mono (by omega))
noncomputable def dotK (x y : W4) : Nat := ((hi x 23).1 + 36 - (hi y 23).1) % 24
theorem dot_s (hx : WaveV k cs x K) (hy : WaveV k cs' y K) (hK1 : 1 ≤ K) (hK : K ≤ 1000000) (C : ∀ k', Up k k' → R k' (.int .i64 (dotK x y : Int))) :
   ∀ k0, Up k k0 → CallsG Tryz.prog 10 #[.agg cs, .agg cs'] k0 R := by
 intro k0 u0
 have h1 := (hi_spec x 23).1
 have h2 := (hi_spec y 23).1
 refine mDot_vc hx.seg hy.seg (high_s (hx.up u0) hK1 hK fun k1 d1 u1 a1 => ⟨_, d1, a1.seg, rfl, ?_⟩)
 refine high_s ((hy.up u0).up u1) hK1 hK fun k3 d3 u3 a3 => ⟨_, d3, a3.seg, rfl, fun k4 u4 => ?_⟩
 have := C k4 (((u0.trans u1).trans u3).trans u4)
 unfold dotK at this
 generalize (hi x 23).1 = p at h1 this ⊢
 generalize (hi y 23).1 = q at h2 this ⊢
 have w1 : IntKind.wrap .i64 ((p : Int) + 12) = (p : Int) + 12 := by rw [IntKind.wrap_i64]; omega
 have w2 : IntKind.wrap .i64 ((p : Int) + 12 - (q : Int)) = (p : Int) + 12 - (q : Int) := by rw [IntKind.wrap_i64]; omega
 have w3 : IntKind.wrap .i64 ((p : Int) + 12 - (q : Int) + 24) = (p : Int) + 12 - (q : Int) + 24 := by rw [IntKind.wrap_i64]; omega
 rw [w1, w2, w3, Int.tmod_eq_emod_of_nonneg (by omega)]
 have e : (((p + 36 - q) % 24 : Nat) : Int) = ((p : Int) + 12 - (q : Int) + 24) % 24 := by omega
 rw [← e]
 exact this
def quadQ (a b c : Int) : Q4 := ⟨ofQ a 4, ofQ b 4, ofQ c 4, ofQ 0 0⟩
theorem quad_s {n0 n1 n2 : Int} (h0 : In8 n0) (h1 : In8 n1) (h2 : In8 n2) (C : ∀ k', Up k k' → R k' (.agg #[.int .i64 n0, .int .i64 4, .int .i64 n1, .int .i64 4, .int .i64 n2, .int .i64 4, .int .i64 0, .int .i64 0])) :
   ∀ k0, Up k k0 → CallsG Tryz.prog 14 #[.agg #[.int .i8 n0, .int .i8 n1, .int .i8 n2]] k0 R := by
 intro k0 u0
 refine quad_vc fun k1 u1 => ?_
 rw [h0.wrap, h1.wrap, h2.wrap]
 exact C k1 (u0.trans u1)
theorem lit4 : In64 4 := ⟨by decide, by decide⟩
theorem lit0 : In64 0 := ⟨by decide, by decide⟩
theorem force_s {n0 n1 n2 n3 n4 n5 : Int} (h0 : In8 n0) (h1 : In8 n1) (h2 : In8 n2) (h3 : In8 n3) (h4 : In8 n4) (h5 : In8 n5)
   (C : ∀ k' ds ds', Up k k' → WaveV k' ds ⟨quadQ n0 n1 n2, quadQ n3 n4 n5⟩ 6 → Seg 24 ds' → R k' (.tuple #[.agg ds, .agg ds'])) :
   ∀ k0, Up k k0 → CallsG Tryz.prog 4 #[.agg #[.int .i8 n0, .int .i8 n1, .int .i8 n2, .int .i8 n3, .int .i8 n4, .int .i8 n5]] k0 R := by
 intro k0 u0
 refine mOf_vc (quad_s h0 h1 h2 fun k1 u1 => ⟨_, _, _, _, _, _, _, _, rfl, ?_⟩)
 refine quad_s h3 h4 h5 fun k3 u3 => ⟨_, _, _, _, _, _, _, _, rfl, ?_⟩
 refine OfWave_s h0.in64 lit4 h1.in64 lit4 h2.in64 lit4 lit0 lit0 h3.in64 lit4 h4.in64 lit4 h5.in64 lit4 lit0 lit0 fun k5 d5 u5 hW => ⟨d5, hW.seg, rfl, ?_⟩
 refine W32.wofwave_v h0.in64 lit4 h1.in64 lit4 h2.in64 lit4 lit0 lit0 h3.in64 lit4 h4.in64 lit4 h5.in64 lit4 lit0 lit0 fun k7 d7 u7 hV => ⟨d7, hV.seg, rfl, fun k8 u8 => ?_⟩
 exact C k8 d5 d7 (((((u0.trans u1).trans u3).trans u5).trans u7).trans u8) ((hW.up u7).up u8) hV.seg
theorem dec_one : dec 1 = [49] := by
 unfold dec
 rw [if_neg (by omega), dig_pos (by omega), show 1 / 10 = 0 from rfl, dig_zero]
 rfl
theorem one_text : surdText ⟨1, 0, 0, 0⟩ = [49] := by
 have r2 : ratText 1 = [49] := by
   unfold ratText
   rw [show (1 : Rat).num = 1 from rfl, show (1 : Rat).den = 1 from rfl, if_neg (by omega), if_pos rfl, show (1 : Int).natAbs = 1 from rfl, dec_one]
   rfl
 have p1 : addPart [] 1 [] = [49] := by
   unfold addPart
   rw [if_neg (by decide), if_neg (by simp), r2]; rfl
 have p3 : ∀ m : List UInt8, addPart [49] 0 m = [49] := fun m => by
   unfold addPart
   rw [if_pos rfl]
 unfold surdText
 simp only [body]
 rw [p1, p3, p3, p3]
 rfl
theorem in8 {n : Int} (h : n.natAbs ≤ 100) : In8 n := by unfold In8; omega
theorem ex_a : (⟨quadQ 12 0 0, quadQ 0 0 0⟩ : W4) = ⟨⟨3, 0, 0, 0⟩, Q4.zero⟩ := by decide +kernel
theorem ex_b : (⟨quadQ 0 0 0, quadQ 8 0 0⟩ : W4) = ⟨Q4.zero, ⟨2, 0, 0, 0⟩⟩ := by decide +kernel
theorem ex_n : bestN ⟨⟨3, 0, 0, 0⟩, Q4.zero⟩ ⟨Q4.zero, ⟨2, 0, 0, 0⟩⟩ = ⟨1, 0, 0, 0⟩ := by unfold bestN; rw [best_example, norm_example]
theorem ex_d : dotK ⟨⟨3, 0, 0, 0⟩, Q4.zero⟩ ⟨Q4.zero, ⟨2, 0, 0, 0⟩⟩ = 6 := by unfold dotK; rw [high_example1, high_example2]
theorem mawake_s (C : ∀ k', Up k k' → R k' (.bool true)) : ∀ k0, Up k k0 → CallsG Tryz.prog 13 #[] k0 R := by
 intro k0 u0
 refine mawake_vc (force_s (in8 (by decide)) (in8 (by decide)) (in8 (by decide)) (in8 (by decide)) (in8 (by decide)) (in8 (by decide)) fun k1 d1 e1 u1 hA g1 => ⟨d1, hA.seg, e1, g1, rfl, ?_⟩)
 refine force_s (in8 (by decide)) (in8 (by decide)) (in8 (by decide)) (in8 (by decide)) (in8 (by decide)) (in8 (by decide)) fun k3 d3 e3 u3 hB g3 => ⟨d3, hB.seg, e3, g3, rfl, ?_⟩
 replace hA := castM (hA.up u3) ex_a
 replace hB := castM hB ex_b
 refine best_s hA hB (by decide) (by decide) fun k5 d5 u5 hN => ⟨_, d5, hN.seg, rfl, ?_⟩
 refine dot_s (hA.up u5) (hB.up u5) (by decide) (by decide) fun k7 u7 => ⟨_, rfl, ?_⟩
 rw [ex_d, best_example]
 rw [ex_n] at hN
 refine ⟨fun _ => ⟨fun _ => ?_, fun h => absurd h (by decide)⟩, fun h => absurd h (by decide)⟩
 refine SText_s (hN.up u7) (by decide) (by decide) fun k9 u9 => ⟨_, rfl, fun k10 u10 => ?_⟩
 rw [one_text, show ((str [49]).toList == (⟨#[49]⟩ : ByteArray).toList) = true from toList_inj.2 rfl]
 exact C k10 ((((((u0.trans u1).trans u3).trans u5).trans u7).trans u9).trans u10)
theorem mturns_s {n0 n1 n2 n3 n4 n5 n6 n7 n8 n9 n10 n11 : Int} (h0 : In8 n0) (h1 : In8 n1) (h2 : In8 n2) (h3 : In8 n3) (h4 : In8 n4) (h5 : In8 n5) (h6 : In8 n6) (h7 : In8 n7) (h8 : In8 n8) (h9 : In8 n9) (h10 : In8 n10) (h11 : In8 n11) (n12 n13 : Int) (C : ∀ k', Up k k' → R k' (.bool true)) :
   ∀ k0, Up k k0 → CallsG Tryz.prog 3 #[.agg #[.int .i8 n0, .int .i8 n1, .int .i8 n2, .int .i8 n3, .int .i8 n4, .int .i8 n5], .agg #[.int .i8 n6, .int .i8 n7, .int .i8 n8, .int .i8 n9, .int .i8 n10, .int .i8 n11], .int .i64 n12, .int .i64 n13] k0 R := by
 intro k0 u0
 replace C := fun k' u => C k' (u0.trans u)
 refine mturns_vc (force_s h0 h1 h2 h3 h4 h5 fun k1 d1 e1 u1 hA g1 => ⟨d1, hA.seg, e1, g1, rfl, ?_⟩)
 refine force_s h6 h7 h8 h9 h10 h11 fun k3 d3 e3 u3 hB g3 => ⟨d3, hB.seg, e3, g3, rfl, ?_⟩
 replace hA := hA.up u3
 replace C := fun k' u => C k' ((u1.trans u3).trans u)
 clear u1 u3 u0
 generalize (⟨quadQ n0 n1 n2, quadQ n3 n4 n5⟩ : W4) = a at *
 generalize (⟨quadQ n6 n7 n8, quadQ n9 n10 n11⟩ : W4) = b at *
 clear h0 h1 h2 h3 h4 h5 h6 h7 h8 h9 h10 h11
 have hk := bestK_lt a b
 refine best_s hA hB (by decide) (by decide) fun k5 d5 u5 hN => ⟨_, d5, hN.seg, rfl, fun h => absurd (of_decide_eq_true h) (by omega), fun _ => ⟨fun h => absurd (of_decide_eq_true h) (by omega), fun _ => ?_⟩⟩
 replace hA := hA.up u5
 replace hB := hB.up u5
 replace C := fun k' u => C k' (u5.trans u)
 clear u5
 refine res_s hA hB (by decide) (by decide) fun k6 d6 u6 h6 => ⟨d6, h6.seg, rfl, ?_⟩
 rw [plc_nat hk] at h6
 refine WNorm_s h6 (by decide) (by decide) fun k7 d7 u7 h7 => ⟨d7, h7.seg, rfl, ?_⟩
 refine MSame_t (K := 4 * (8 * 6 + 19) + 9) h7 (((hN.up u6).up u7).mono (by decide)) rfl (by decide) (by decide) fun k8 u8 => ⟨_, rfl, fun h => (nomatch h), fun _ => ?_⟩
 have v8 := (u6.trans u7).trans u8
 replace hA := hA.up v8
 replace hB := hB.up v8
 replace hN := hN.up v8
 replace C := fun k' u => C k' (v8.trans u)
 clear u6 u7 u8 v8 h6 h7
 refine res_s hA hB (by decide) (by decide) fun k6 d6 u6 h6 => ⟨d6, h6.seg, rfl, ?_⟩
 refine WNorm_s h6 (by decide) (by decide) fun k7 d7 u7 h7 => ⟨d7, h7.seg, rfl, ?_⟩
 refine SCmp_s (K := 4 * (8 * 6 + 19) + 9) (((hN.up u6).up u7).mono (by decide)) h7 (by decide) (by decide) fun k8 u8 => ⟨_, rfl, fun h => ?_, fun _ => ?_⟩
 · have h : 0 < sgd (bestN a b) (resW a b (plc n12)).norm := of_decide_eq_true h
   have := best_le a b (plc_lt n12)
   omega
 have v8 := (u6.trans u7).trans u8
 replace hA := hA.up v8
 replace hB := hB.up v8
 replace hN := hN.up v8
 replace C := fun k' u => C k' (v8.trans u)
 clear u6 u7 u8 v8 h6 h7
 refine dot_s hA hB (by decide) (by decide) fun k5 u5 => ⟨_, rfl, ?_⟩
 have hd : dotK a b < 24 := Nat.mod_lt _ (by decide)
 refine res_s (hA.up u5) (hB.up u5) (by decide) (by decide) fun k6 d6 u6 h6 => ⟨d6, h6.seg, rfl, ?_⟩
 rw [plc_nat hd] at h6
 refine WNorm_s h6 (by decide) (by decide) fun k7 d7 u7 h7 => ⟨d7, h7.seg, rfl, ?_⟩
 refine SCmp_s (K := 4 * (8 * 6 + 19) + 9) ((((hN.up u5).up u6).up u7).mono (by decide)) h7 (by decide) (by decide) fun k8 u8 => ⟨_, rfl, fun h => ?_, fun _ => ?_⟩
 · have h : 0 < sgd (bestN a b) (resW a b (dotK a b)).norm := of_decide_eq_true h
   have := best_le a b hd
   omega
 have v8 := ((u5.trans u6).trans u7).trans u8
 replace hA := hA.up v8
 replace hB := hB.up v8
 replace hN := hN.up v8
 replace C := fun k' u => C k' (v8.trans u)
 clear u5 u6 u7 u8 v8 h6 h7
 refine xturn_s fun k5 d5 u5 h5 => ⟨d5, h5.seg, rfl, ?_⟩
 refine WMul_s (hA.up u5) (h5.mono (by decide)) (by decide) (by decide) fun k6 d6 u6 h6 => ⟨d6, h6.seg, rfl, ?_⟩
 refine xturn_s fun k7 d7 u7 h7 => ⟨d7, h7.seg, rfl, ?_⟩
 refine WMul_s (((hB.up u5).up u6).up u7) (h7.mono (by decide)) (by decide) (by decide) fun k8 d8 u8 h8 => ⟨d8, h8.seg, rfl, ?_⟩
 refine best_s ((h6.up u7).up u8) h8 (by decide) (by decide) fun k9 d9 u9 h9 => ⟨_, d9, h9.seg, rfl, ?_⟩
 have v9 := (((u5.trans u6).trans u7).trans u8).trans u9
 refine MSame_t (K := 32 * (4 * 6 + 9) + 85) h9 ((hN.up v9).mono (by decide)) (best_turned a b (plc_lt n12) (plc_lt n13)) (by decide) (by decide) fun k10 u10 => ⟨_, rfl, fun _ => ?_, fun h => (nomatch h)⟩
 exact mawake_s fun k11 u11 => ⟨_, rfl, fun k12 u12 => C k12 (((v9.trans u10).trans u11).trans u12)⟩
end
end Go.Proofs.YtimkcbikeocaeaaGreat

