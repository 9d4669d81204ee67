/- The contracts of fractions, in the words of what is known. (Printed by gen/g2.py.) -/
import Derived.Test.YtpjakokgmgggiaaFiG
namespace Go.Proofs.Ytpjakokgmgggiaa
open Go.RowKit Num
open Sy (Up Sees CallsG Seg)
section
variable {k : World} {R : World → Value → Prop} {K L : Nat} {cs cs' : Array Value} {x y : Rat}
theorem ratE {P : Program} {f : FuncId} {args : Array Value} {q : Rat} {e : Int} {K L : Nat} (h : ∀ w, Sees k w → Calls P f args w (RetRE q e K L w)) : CallsG P f args k (fun k' v => ∃ u, v = .tuple #[u, .int .i64 e] ∧ RatF q K L k' u) :=
 ofOld (fun _w' _k' _v hk ⟨u, e0, g, A, n, c, D, d, e, h0, h1, h2⟩ => ⟨u, e0, g, A, n, c, D, d, e, h0, h1.kept hk, h2⟩) fun w hs => (h w hs).mono fun _e _w' ⟨⟨g, A, n, c, D, d, e', h1, h2, h3⟩, hb⟩ => ⟨⟨_, h1, _, rfl, g, A, n, c, D, d, e', rfl, h2, h3⟩, hb⟩
theorem QZero_s (hx : RatV k cs x K) (hK : K ≤ 17179869184)
   (C : ∀ k', Up k k' → R k' (.bool (decide (x = 0)))) : ∀ k0, Up k k0 → CallsG Try.prog 18 #[.agg cs] k0 R := by
 obtain ⟨g, A, n, c, D, d, e, rfl, hx, hn, hd⟩ := hx
 exact after (fun k0 u => valF fun w hs => Zero_r ((hx.up u).sees hs) (by omega)) fun k' v u e => e ▸ C k' u
theorem QSign_s (hx : RatV k cs x K) (hK : K ≤ 17179869184)
   (C : ∀ k', Up k k' → R k' (.int .i64 x.num.sign)) : ∀ k0, Up k k0 → CallsG Try.prog 16 #[.agg cs] k0 R := by
 obtain ⟨g, A, n, c, D, d, e, rfl, hx, hn, hd⟩ := hx
 exact after (fun k0 u => valF fun w hs => Sign_r ((hx.up u).sees hs) (by omega)) fun k' v u e => e ▸ C k' u
theorem QText_s (hx : RatV k cs x K) (hK : K ≤ 8589934592)
   (C : ∀ k', Up k k' → R k' (.string ⟨(ratText x).toArray⟩)) : ∀ k0, Up k k0 → CallsG Try.prog 25 #[.agg cs] k0 R := by
 obtain ⟨g, A, n, c, D, d, e, rfl, hx, hn, hd⟩ := hx
 exact after (fun k0 u => valF fun w hs => Text_r ((hx.up u).sees hs) (by omega) (by omega)) fun k' v u e => e ▸ C k' u
theorem QSame_s (hx : RatV k cs x K) (hy : RatV k cs' y K) (hK1 : 1 ≤ K) (hK : K ≤ 17179869184)
   (C : ∀ k', Up k k' → R k' (.bool (decide (x = y)))) : ∀ k0, Up k k0 → CallsG Try.prog 26 #[.agg cs, .agg cs'] k0 R := by
 obtain ⟨g, A, n, c, D, d, e, rfl, hx, hn, hd⟩ := hx
 obtain ⟨g', A', n', c', D', d', e', rfl, hy, hn', hd'⟩ := hy
 exact after (fun k0 u => valF fun w hs => Same_r ((hx.up u).sees hs) ((hy.up u).sees hs) (by omega) (by omega) (by omega) (by omega)) fun k' v u e => e ▸ C k' u
theorem QAdd_s (hx : RatV k cs x K) (hy : RatV k cs' y K) (hK1 : 1 ≤ K) (hK : K ≤ 1073741824)
   (C : ∀ k' ds, Up k k' → RatV k' ds (x + y) (2 * K + 1) → R k' (.agg ds)) : ∀ k0, Up k k0 → CallsG Try.prog 107 #[.agg cs, .agg cs'] k0 R := by
 obtain ⟨g, A, n, c, D, d, e, rfl, hx, hn, hd⟩ := hx
 obtain ⟨g', A', n', c', D', d', e', rfl, hy, hn', hd'⟩ := hy
 exact after (fun k0 u => ratF fun w hs => Add_r ((hx.up u).sees hs) ((hy.up u).sees hs) hK1 hn hd hn' hd' hK) fun k' v u hv => by
   obtain ⟨ds, rfl, hd⟩ := ratV_of (M := 2 * K + 1) hv (by omega) (by omega); exact C k' ds u hd
theorem QSub_s (hx : RatV k cs x K) (hy : RatV k cs' y K) (hK1 : 1 ≤ K) (hK : K ≤ 1073741824)
   (C : ∀ k' ds, Up k k' → RatV k' ds (x - y) (2 * K + 1) → R k' (.agg ds)) : ∀ k0, Up k k0 → CallsG Try.prog 74 #[.agg cs, .agg cs'] k0 R := by
 obtain ⟨g, A, n, c, D, d, e, rfl, hx, hn, hd⟩ := hx
 obtain ⟨g', A', n', c', D', d', e', rfl, hy, hn', hd'⟩ := hy
 exact after (fun k0 u => ratF fun w hs => Sub_r ((hx.up u).sees hs) ((hy.up u).sees hs) hK1 hn hd hn' hd' hK) fun k' v u hv => by
   obtain ⟨ds, rfl, hd⟩ := ratV_of (M := 2 * K + 1) hv (by omega) (by omega); exact C k' ds u hd
theorem QMul_s (hx : RatV k cs x K) (hy : RatV k cs' y K) (hK1 : 1 ≤ K) (hK : K ≤ 1073741824)
   (C : ∀ k' ds, Up k k' → RatV k' ds (x * y) (2 * K + 1) → R k' (.agg ds)) : ∀ k0, Up k k0 → CallsG Try.prog 153 #[.agg cs, .agg cs'] k0 R := by
 obtain ⟨g, A, n, c, D, d, e, rfl, hx, hn, hd⟩ := hx
 obtain ⟨g', A', n', c', D', d', e', rfl, hy, hn', hd'⟩ := hy
 exact after (fun k0 u => ratF fun w hs => Mul_r ((hx.up u).sees hs) ((hy.up u).sees hs) hK1 hn hd hn' hd' hK) fun k' v u hv => by
   obtain ⟨ds, rfl, hd⟩ := ratV_of (M := 2 * K + 1) hv (by omega) (by omega); exact C k' ds u hd
theorem QNeg_s (hx : RatV k cs x K) (hK : K ≤ 17179869184)
   (C : ∀ k' ds, Up k k' → RatV k' ds (-x) K → R k' (.agg ds)) : ∀ k0, Up k k0 → CallsG Try.prog 108 #[.agg cs] k0 R := by
 obtain ⟨g, A, n, c, D, d, e, rfl, hx, hn, hd⟩ := hx
 exact after (fun k0 u => ratF fun w hs => Neg_r ((hx.up u).sees hs) (by omega)) fun k' v u hv => by
   obtain ⟨ds, rfl, hd⟩ := ratV_of (M := K) hv hn hd; exact C k' ds u hd
theorem QConj_s (hx : RatV k cs x K)
   (C : ∀ k' ds, Up k k' → RatV k' ds x K → R k' (.agg ds)) : ∀ k0, Up k k0 → CallsG Try.prog 151 #[.agg cs] k0 R := by
 obtain ⟨g, A, n, c, D, d, e, rfl, hx, hn, hd⟩ := hx
 exact after (fun k0 u => ratF fun w hs => Conj_r ((hx.up u).sees hs)) fun k' v u hv => by
   obtain ⟨ds, rfl, hd⟩ := ratV_of (M := K) hv hn hd; exact C k' ds u hd
theorem QInt_s {z : Int} (h0 : -9223372036854775808 ≤ z) (h1 : z < 9223372036854775808)
   (C : ∀ k' ds, Up k k' → RatV k' ds z 1 → R k' (.agg ds)) : ∀ k0, Up k k0 → CallsG Try.prog 14 #[.int .i64 z] k0 R :=
 after (fun k0 u => ratF fun w hs => Int_r z h0 h1) fun k' v u hv => by
   obtain ⟨ds, rfl, hd⟩ := ratV_of (M := 1) hv (by omega) (by omega); exact C k' ds u hd
theorem QNew_s {a b : Int} (ia0 : -9223372036854775808 ≤ a) (ia1 : a < 9223372036854775808) (ib0 : -9223372036854775808 ≤ b) (ib1 : b < 9223372036854775808)
   (C : ∀ k' ds, Up k k' → RatV k' ds ((a : Rat) / (b : Rat)) 1 → R k' (.tuple #[.agg ds, .int .i64 (if b = 0 then 3 else 0)])) : ∀ k0, Up k k0 → CallsG Try.prog 10 #[.int .i64 a, .int .i64 b] k0 R :=
 after (fun k0 u => ratE fun w hs => New_r a b ia0 ia1 ib0 ib1) fun k' v u ⟨t, e, hv⟩ => by
   obtain ⟨ds, rfl, hd⟩ := ratV_of (M := 1) hv (by omega) (by omega); exact e ▸ C k' ds u hd
theorem QDiv_s (hx : RatV k cs x K) (hy : RatV k cs' y K) (hK1 : 1 ≤ K) (hK : K ≤ 1073741824)
   (C : ∀ k' ds, Up k k' → RatV k' ds (x / y) (2 * K) → R k' (.tuple #[.agg ds, .int .i64 (if y = 0 then 3 else 0)])) : ∀ k0, Up k k0 → CallsG Try.prog 152 #[.agg cs, .agg cs'] k0 R := by
 obtain ⟨g, A, n, c, D, d, e, rfl, hx, hn, hd⟩ := hx
 obtain ⟨g', A', n', c', D', d', e', rfl, hy, hn', hd'⟩ := hy
 exact after (fun k0 u => ratE fun w hs => Div_r ((hx.up u).sees hs) ((hy.up u).sees hs) hK1 hn hd hn' hd' hK) fun k' v u ⟨t, e, hv⟩ => by
   obtain ⟨ds, rfl, hd⟩ := ratV_of (M := 2 * K) hv (by omega) (by omega); exact e ▸ C k' ds u hd
end
end Go.Proofs.Ytpjakokgmgggiaa
