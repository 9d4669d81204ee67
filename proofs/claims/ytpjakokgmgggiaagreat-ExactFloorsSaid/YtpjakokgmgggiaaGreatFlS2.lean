/- Surds: sums, products, parts. (Printed by gen/surd2.py.) -/
import Derived.Test.YtpjakokgmgggiaaGreatFlS1
namespace Go.Proofs.YtpjakokgmgggiaaGreat
open Go.RowKit Num
open Sy (Up Sees CallsG Seg)
def Q4.add (x y : Q4) : Q4 := ⟨x.a + y.a, x.b + y.b, x.c + y.c, x.d + y.d⟩
def Q4.neg (x : Q4) : Q4 := ⟨-x.a, -x.b, -x.c, -x.d⟩
def Q4.mul (x y : Q4) : Q4 := ⟨x.a * y.a + 2 * (x.b * y.b) + 3 * (x.c * y.c) + 6 * (x.d * y.d), x.a * y.b + x.b * y.a + 3 * (x.c * y.d + x.d * y.c), x.a * y.c + x.c * y.a + 2 * (x.b * y.d + x.d * y.b), x.a * y.d + x.d * y.a + x.b * y.c + x.c * y.b⟩
def Q4.sub (x y : Q4) : Q4 := x.add y.neg
def Q4.zero : Q4 := ⟨0, 0, 0, 0⟩
def Q4.real (x : Rat) : Q4 := ⟨x, 0, 0, 0⟩
theorem natCast_ne {m : Nat} (h : 0 < m) : (m : Rat) ≠ 0 := by
 intro e
 have : ((m : Nat) : Rat) = ((0 : Nat) : Rat) := by rw [e]; rfl
 have := Rat.natCast_inj.1 this
 omega
theorem mkRat_add' (x y : Int) {m n : Nat} (hm : 0 < m) (hn : 0 < n) : mkRat (x * n + y * m) (m * n) = mkRat x m + mkRat y n := by
 rw [Rat.mkRat_add_mkRat _ _ (by omega) (by omega)]
theorem mkRat_neg' (x : Int) (m : Nat) : mkRat (-x) m = - mkRat x m := by rw [Rat.neg_mkRat]
theorem mkRat_mul' (x y : Int) (m n : Nat) : mkRat (x * y) (m * n) = mkRat x m * mkRat y n := by rw [Rat.mkRat_mul_mkRat]
section
variable {k : World} {R : World → Value → Prop} {K : Nat} {cs cs' : Array Value} {v v' : Q4}
theorem SurdV.cells {k : World} {cs : Array Value} {v : Q4} {K : Nat} (h : SurdV k cs v K) : ∃ (c0 c1 c2 c3 : Array Value) (D : Option Addr) (d e : Nat), cs = mk9 c0 c1 c2 c3 (.slice D d e) ∧ Seg 2 c0 ∧ Seg 2 c1 ∧ Seg 2 c2 ∧ Seg 2 c3 := by
 obtain ⟨c0, c1, c2, c3, D, d, e, y0, y1, y2, y3, m, h1, h2, h3, h4, i0, i1, i2, i3, l, hd⟩ := h
 exact ⟨c0, c1, c2, c3, D, d, e, h1, i0.seg, i1.seg, i2.seg, i3.seg⟩
theorem mkRat_zero_iff {x : Int} {m : Nat} (h : 0 < m) : mkRat x m = 0 ↔ x = 0 := by
 rw [Rat.mkRat_eq_zero (by omega)]
theorem wrap_small {x : Int} (h0 : 0 ≤ x) (h1 : x < 9223372036854775808) : IntKind.wrap .i64 x = x := by rw [IntKind.wrap_i64]; omega
theorem SZero_s (hx : SurdV k cs v K) (hK : K ≤ 268435456) (C : ∀ k', Up k k' → ∀ b, (b = true ↔ v = Q4.zero) → R k' (.bool b)) :
   ∀ k0, Up k k0 → CallsG Tryz.prog 90 #[.agg cs] k0 R := by
 intro k0 u0
 obtain ⟨c0, c1, c2, c3, D, d, e, x0, x1, x2, x3, m, rfl, hm, hg, rfl, ⟨b0, A0, n0, e0, rfl, i0, l0⟩, ⟨b1, A1, n1, e1, rfl, i1, l1⟩, ⟨b2, A2, n2, e2, rfl, i2, l2⟩, ⟨b3, A3, n3, e3, rfl, i3, l3⟩, lx, hd⟩ := hx
 have hcs : mk9 #[.bool b0, .slice A0 n0 e0] #[.bool b1, .slice A1 n1 e1] #[.bool b2, .slice A2 n2 e2] #[.bool b3, .slice A3 n3 e3] (.slice D d e) = #[.bool b0, .slice A0 n0 e0, .bool b1, .slice A1 n1 e1, .bool b2, .slice A2 n2 e2, .bool b3, .slice A3 n3 e3, .slice D d e] := rfl
 rw [hcs]
 refine SZero_vc ⟨rfl, rfl, rfl, rfl, ?_⟩
 intro k1 u1
 refine C _ (u0.trans u1) _ ?_
 have q0 := i0.lim.zero_iff
 have q1 := i1.lim.zero_iff
 have q2 := i2.lim.zero_iff
 have q3 := i3.lim.zero_iff
 have e : IntKind.wrap .i64 (IntKind.wrap .i64 (IntKind.wrap .i64 ((n0 : Nat) + (n1 : Nat)) + (n2 : Nat)) + (n3 : Nat)) = ((n0 + n1 + n2 + n3 : Nat) : Int) := by
   rw [wrap_small (x := (n0 : Nat) + (n1 : Nat)) (by omega) (by omega), wrap_small (x := (n0 : Nat) + (n1 : Nat) + (n2 : Nat)) (by omega) (by omega), wrap_small (x := (n0 : Nat) + (n1 : Nat) + (n2 : Nat) + (n3 : Nat)) (by omega) (by omega)]
   omega
 clear C hcs
 rw [e, beq_iff_eq]
 unfold mkQ Q4.zero
 rw [Q4.mk.injEq, mkRat_zero_iff hm, mkRat_zero_iff hm, mkRat_zero_iff hm, mkRat_zero_iff hm]
 omega
end
end Go.Proofs.YtpjakokgmgggiaaGreat
