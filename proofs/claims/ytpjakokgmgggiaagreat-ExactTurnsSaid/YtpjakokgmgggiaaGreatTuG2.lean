/- The contracts of fractions, in the words of what is known. (Printed by gen/g2.py.) -/
import Derived.Test.YtpjakokgmgggiaaGreatTuG
namespace Go.Proofs.YtpjakokgmgggiaaGreat
open Go.RowKit Num
open Sy (Up Sees CallsG Seg)
section
variable {k : World} {R : World → Value → Prop} {K L : Nat} {cs cs' : Array Value} {x y : Rat}
theorem QZero_s (hx : RatV k cs x K) (hK : K ≤ 17179869184)
   (C : ∀ k', Up k k' → R k' (.bool (decide (x = 0)))) : ∀ k0, Up k k0 → CallsG Tryz.prog 80 #[.agg cs] k0 R := by
 obtain ⟨g, A, n, c, D, d, e, rfl, hx, hn, hd⟩ := hx
 exact after (fun k0 u => valF fun w hs => Zero_r ((hx.up u).sees hs) (by omega)) fun k' v u e => e ▸ C k' u
theorem QSign_s (hx : RatV k cs x K) (hK : K ≤ 17179869184)
   (C : ∀ k', Up k k' → R k' (.int .i64 x.num.sign)) : ∀ k0, Up k k0 → CallsG Tryz.prog 145 #[.agg cs] k0 R := by
 obtain ⟨g, A, n, c, D, d, e, rfl, hx, hn, hd⟩ := hx
 exact after (fun k0 u => valF fun w hs => Sign_r ((hx.up u).sees hs) (by omega)) fun k' v u e => e ▸ C k' u
theorem QText_s (hx : RatV k cs x K) (hK : K ≤ 8589934592)
   (C : ∀ k', Up k k' → R k' (.string ⟨(ratText x).toArray⟩)) : ∀ k0, Up k k0 → CallsG Tryz.prog 137 #[.agg cs] k0 R := by
 obtain ⟨g, A, n, c, D, d, e, rfl, hx, hn, hd⟩ := hx
 exact after (fun k0 u => valF fun w hs => Text_r ((hx.up u).sees hs) (by omega) (by omega)) fun k' v u e => e ▸ C k' u
theorem QInt_s {z : Int} (h0 : -9223372036854775808 ≤ z) (h1 : z < 9223372036854775808)
   (C : ∀ k' ds, Up k k' → RatV k' ds z 1 → R k' (.agg ds)) : ∀ k0, Up k k0 → CallsG Tryz.prog 94 #[.int .i64 z] k0 R :=
 after (fun k0 u => ratF fun w hs => Int_r z h0 h1) fun k' v u hv => by
   obtain ⟨ds, rfl, hd⟩ := ratV_of (M := 1) hv (by omega) (by omega); exact C k' ds u hd
end
end Go.Proofs.YtpjakokgmgggiaaGreat
