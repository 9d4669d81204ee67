/- Several texts in one. (Printed by prep.py.) -/
import Derived.Test.YtpjakokgmgggiaaGreatProg
import Derived.Test.YtpjakokgmgggiaaGreatFlSy14
import Derived.Test.YtpjakokgmgggiaaGreatFlQ5
import Derived.Test.YtpjakokgmgggiaaGreatFlG2
import Derived.Test.YtpjakokgmgggiaaGreatFlS4
/- What is to be shown of the calls of some functions. (Printed by gen/vc.py.) -/
namespace Go.Proofs.YtpjakokgmgggiaaGreat
open Go.RowKit
open Sy (Up Sees CallsG Seg execFn_use)
set_option maxRecDepth 100000
variable {k : World} {R : World → Value → Prop}
theorem Is_vc {cs0 : Array Value} {b1 : Bool} {A2 : Option Addr} {l2 c2 : Nat} {A3 : Option Addr} {l3 c3 : Nat} (hcs0 : Seg 3 cs0)
    (h : ∀ k0, Up k k0 → CallsG Tryz.prog 137 #[Value.agg cs0] k0 fun k1 r0 => ∃ s4, some (Value.string s4) = some r0 ∧
 ∀ k2, Up k1 k2 → CallsG Tryz.prog 138 #[Value.agg #[Value.bool b1, Value.slice A2 l2 c2, Value.slice A3 l3 c3]] k2 fun k3 r2 => ∃ s5, some (Value.string s5) = some r2 ∧
 ∀ k4, Up k3 k4 → R k4 (Value.bool (ByteArray.toList s4 == ByteArray.toList s5))) :
    CallsG Tryz.prog 19 #[Value.agg cs0, Value.agg #[Value.bool b1, Value.slice A2 l2 c2, Value.slice A3 l3 c3]] k R :=
  execFn_use (cfg := { opq := [30] }) (args := [.agg [.seg 0 3], .agg [.var 1, .var 2, .var 3]]) (vals := [Value.agg cs0, Value.bool b1, Value.slice A2 l2 c2, Value.slice A3 l3 c3]) (kinds := [.seg 3, .bool, .slice, .slice]) (by kernel_rfl) ⟨⟨cs0, rfl, hcs0⟩, ⟨⟨_, rfl⟩, ⟨⟨_, _, _, rfl⟩, ⟨⟨_, _, _, rfl⟩, trivial⟩⟩⟩⟩ (by kernel_rfl) (by kernel_rfl) h
theorem Of_vc {n0 n1 : Int}
    (h : (((n1 : Int) == 0) = true →
 (∀ k0, Up k k0 → CallsG Tryz.prog 94 #[Value.int .i64 n0] k0 fun k1 r0 => ∃ cs2, Seg 3 cs2 ∧ some (Value.agg cs2) = some r0 ∧
 ∀ k2, Up k1 k2 → R k2 (Value.agg cs2))) ∧
 (((n1 : Int) == 0) = false →
 (∀ k3, Up k k3 → CallsG Tryz.prog 127 #[Value.int .i64 n0, Value.int .i64 n1] k3 fun k4 r3 => ∃ cs2, Seg 3 cs2 ∧ ∃ n3, some (Value.tuple #[Value.agg cs2, Value.int .i64 n3]) = some r3 ∧
 ∀ k5, Up k4 k5 → R k5 (Value.agg cs2)))) :
    CallsG Tryz.prog 15 #[Value.agg #[Value.int .i64 n0, Value.int .i64 n1]] k R :=
  execFn_use (cfg := { opq := [30] }) (args := [.agg [.var 0, .var 1]]) (vals := [Value.int .i64 n0, Value.int .i64 n1]) (kinds := [.int .i64, .int .i64]) (by kernel_rfl) ⟨⟨_, rfl⟩, ⟨⟨_, rfl⟩, trivial⟩⟩ (by kernel_rfl) (by kernel_rfl) h
end Go.Proofs.YtpjakokgmgggiaaGreat

/- Laws of layer 1: a fraction is the reference's; plain data. -/
namespace Go.Proofs.YtpjakokgmgggiaaGreat
open Go.RowKit Num W32
open Sy (Up Sees CallsG)
section
variable {k k' : World} {R : World → Value → Prop} {x y q : Rat} {K L : Nat} {cs cs' : Array Value} {g : Bool} {A A' : Option Addr} {l c l' c' : Nat}
theorem is_s (hx : RatV k cs x K) (hK : K ≤ 8589934592) (h : QN k g A l c A' l' c' x) (hl : l ≤ 34359738368) (hl' : l' ≤ 34359738368) (C : ∀ k', Up k k' → R k' (.bool true)) :
   ∀ k0, Up k k0 → CallsG Tryz.prog 19 #[.agg cs, .agg #[.bool g, .slice A l c, .slice A' l' c']] k0 R := by
 intro k0 u0
 refine Is_vc (hx.seg) (QText_s (hx.up u0) hK fun k1 u1 => ⟨_, rfl, rtext_s ((h.up u0).up u1) hl hl' fun k3 u3 => ⟨_, rfl, fun k4 u4 => ?_⟩⟩)
 have := C k4 (((u0.trans u1).trans u3).trans u4)
 rw [show (ByteArray.toList ⟨(ratText x).toArray⟩ == ByteArray.toList ⟨(ratText x).toArray⟩) = true from beq_self_eq_true _]
 exact this
theorem Of_s {n d : Int} (hn : In64 n) (hd : In64 d) (C : ∀ k' ds, Up k k' → RatV k' ds (ofQ n d) 1 → R k' (.agg ds)) : ∀ k0, Up k k0 → CallsG Tryz.prog 15 #[.agg #[.int .i64 n, .int .i64 d]] k0 R := by
 intro k0 u0
 refine Of_vc ⟨fun hb => ?_, fun hb => ?_⟩
 · have e : d = 0 := eq_of_beq hb
   refine QInt_s hn.1 hn.2 ?_
   intro k1 c1 u1 h1
   refine ⟨c1, h1.seg, rfl, ?_⟩
   intro k2 u2
   refine C k2 c1 (u0.trans (u1.trans u2)) ?_
   unfold ofQ
   rw [if_pos e]
   exact h1.up u2
 · have e : ¬ d = 0 := by simpa using hb
   refine QNew_s hn.1 hn.2 hd.1 hd.2 ?_
   intro k1 c1 u1 h1
   refine ⟨c1, h1.seg, _, rfl, ?_⟩
   intro k2 u2
   refine C k2 c1 (u0.trans (u1.trans u2)) ?_
   unfold ofQ
   rw [if_neg e]
   exact h1.up u2
theorem is_v (hx : RatV k cs x K) (hK : K ≤ 8589934592) (h : QV k cs' x L) (hL : L ≤ 34359738368) (C : ∀ k', Up k k' → R k' (.bool true)) :
   ∀ k0, Up k k0 → CallsG Tryz.prog 19 #[.agg cs, .agg cs'] k0 R := by
 obtain ⟨_, _, _, _, _, _, _, rfl, h, l1, l2⟩ := h
 exact is_s hx hK h (by omega) (by omega) C
end
end Go.Proofs.YtpjakokgmgggiaaGreat

/- Floors and rounded fractions. No program. -/
namespace Go.Proofs.YtpjakokgmgggiaaGreat
open Num
def flr (q : Rat) : Int := q.num / (q.den : Int)
theorem flr_mk (n : Int) {d : Nat} (hd : 0 < d) : flr (mkRat n d) = n / (d : Int) := by
 unfold flr
 rw [Rat.num_mkRat, if_neg (by omega), Rat.den_mkRat, if_neg (by omega)]
 have hg : 0 < Nat.gcd d n.natAbs := Nat.gcd_pos_of_pos_left _ hd
 have d1 : ((Nat.gcd d n.natAbs : Nat) : Int) ∣ n := Int.dvd_natAbs.1 (Int.natCast_dvd_natCast.2 (Nat.gcd_dvd_right _ _))
 have d2 : Nat.gcd d n.natAbs ∣ d := Nat.gcd_dvd_left _ _
 generalize Nat.gcd d n.natAbs = g at hg d1 d2
 obtain ⟨a, rfl⟩ := d1
 obtain ⟨b, rfl⟩ := d2
 rw [Int.mul_ediv_cancel_left _ (by omega), Nat.mul_div_cancel_left _ hg, Int.natCast_mul, Int.mul_ediv_mul_of_pos _ _ (by omega)]
def floorK (q : Rat) (k : Nat) : Rat := mkRat (q.num * ((2 ^ k : Nat) : Int) / (q.den : Int)) (2 ^ k)
theorem floorK_zero (q : Rat) : floorK q 0 = (flr q : Rat) := by
 unfold floorK flr
 rw [Nat.pow_zero, Int.natCast_one, Int.mul_one, Rat.mkRat_one]
def clampK (n : Int) : Nat := (min 1000 (max 0 n)).toNat
theorem clampK_le (n : Int) : clampK n ≤ 1000 := by unfold clampK; omega
theorem clampK_eq (n : Int) : (if (decide ((1000 : Int) < (if (decide ((n : Int) < 0)) = true then 0 else n))) = true then 1000 else (if (decide ((n : Int) < 0)) = true then 0 else n)) = ((clampK n : Nat) : Int) := by
 unfold clampK
 by_cases h : n < 0
 · simp only [decide_eq_true h, if_true]
   rw [if_neg (by decide)]
   omega
 · simp only [decide_eq_false h, Bool.false_eq_true, if_false]
   by_cases h2 : 1000 < n
   · rw [if_pos (decide_eq_true h2)]; omega
   · rw [if_neg (by simp [h2])]; omega
theorem floor_exact (z : Int) {d : Nat} (hd : 0 < d) (h : 0 ≤ z ∨ z.natAbs % d = 0) : sgn (decide (z < 0)) (z.natAbs / d) = z / (d : Int) := by
 have hn := Nat.div_add_mod z.natAbs d
 have hr := Nat.mod_lt z.natAbs hd
 have hm : (d : Int) * ((z.natAbs / d : Nat) : Int) + ((z.natAbs % d : Nat) : Int) = (z.natAbs : Int) := by rw [← Int.natCast_mul, ← Int.natCast_add, hn]
 generalize z.natAbs / d = q at hm
 generalize z.natAbs % d = r at hm hr h
 by_cases hz : z < 0
 · have hr0 : r = 0 := by omega
   subst hr0
   refine Eq.symm ((Int.ediv_emod_unique (r := 0) (by omega)).2 ⟨?_, by omega, by omega⟩).1
   unfold sgn
   rw [if_pos (decide_eq_true hz), Int.mul_neg]
   omega
 · refine Eq.symm ((Int.ediv_emod_unique (r := (r : Int)) (by omega)).2 ⟨?_, by omega, by omega⟩).1
   unfold sgn
   rw [if_neg (by simp [hz])]
   omega
theorem floor_below (z : Int) {d : Nat} (hd : 0 < d) (hz : z < 0) (h : z.natAbs % d ≠ 0) : sgn true (z.natAbs / d + 1) = z / (d : Int) := by
 have hn := Nat.div_add_mod z.natAbs d
 have hr := Nat.mod_lt z.natAbs hd
 have hm : (d : Int) * ((z.natAbs / d : Nat) : Int) + ((z.natAbs % d : Nat) : Int) = (z.natAbs : Int) := by rw [← Int.natCast_mul, ← Int.natCast_add, hn]
 generalize z.natAbs / d = q at hm
 generalize z.natAbs % d = r at hm hr h
 refine Eq.symm ((Int.ediv_emod_unique (r := (d : Int) - r) (by omega)).2 ⟨?_, by omega, by omega⟩).1
 unfold sgn
 rw [if_pos rfl, Int.natCast_add, Int.mul_neg, Int.mul_add]
 omega
theorem flr_mul (q : Rat) (k : Nat) : flr (q * (((2 ^ k : Nat) : Int) : Rat)) = q.num * ((2 ^ k : Nat) : Int) / (q.den : Int) := by
 have e : q * (((2 ^ k : Nat) : Int) : Rat) = mkRat (q.num * ((2 ^ k : Nat) : Int)) q.den := by
   have h := mkRat_mul' q.num ((2 ^ k : Nat) : Int) q.den 1
   rw [Nat.mul_one, Rat.mkRat_self, Rat.mkRat_one] at h
   exact h.symm
 rw [e, flr_mk _ q.den_pos]
theorem mkRat_by (z : Int) {d : Nat} : mkRat z d = (z : Rat) / ((d : Int) : Rat) := by rw [Rat.mkRat_eq_div]; rfl
def rcmp (y : Rat) : Int := (y - (flr y : Rat) - mkRat 1 2).num.sign
def rup (y : Rat) : Bool := decide (0 < rcmp y) || (decide (rcmp y = 0) && decide (flr y % 2 = 1))
def roundQ (x s : Rat) : Rat := (if rup (x / s) = true then (flr (x / s) : Rat) + 1 else (flr (x / s) : Rat)) * s
def roundV (x s : Rat) : Rat := if s.num.sign ≤ 0 then 0 else roundQ x s
theorem num_neg {v : Rat} (h : v < 0) : v.num < 0 := by
 refine Int.lt_of_not_ge fun h0 => ?_
 have := Rat.num_nonneg.1 h0
 grind
theorem num_pos {v : Rat} (h : 0 < v) : 0 < v.num := by
 have h1 := Rat.num_nonneg.2 (show (0 : Rat) ≤ v by grind)
 have h2 : v.num ≠ 0 := fun e => by have := Rat.num_eq_zero.1 e; grind
 omega
theorem sign_double (a : Rat) : (2 * a - 1).num.sign = (a - mkRat 1 2).num.sign := by
 have key : ∀ u v : Rat, u = 2 * v → u.num.sign = v.num.sign := by
   intro u v h
   rcases (show v < 0 ∨ v = 0 ∨ 0 < v from by grind) with hv | hv | hv
   · have hu : u < 0 := by grind
     rw [Int.sign_eq_neg_one_of_neg (num_neg hu), Int.sign_eq_neg_one_of_neg (num_neg hv)]
   · subst hv
     have hu : u = 0 := by grind
     rw [hu]
   · have hu : 0 < u := by grind
     rw [Int.sign_eq_one_of_pos (num_pos hu), Int.sign_eq_one_of_pos (num_pos hv)]
 have e : mkRat 1 2 = (1 / 2 : Rat) := by decide +kernel
 exact key _ _ (by rw [e]; grind)
theorem odd_half (n : Int) : ((n : Rat) / 2 = (flr ((n : Rat) / 2) : Rat)) ↔ n % 2 = 0 := by
 have e : (n : Rat) / 2 = mkRat n 2 := by rw [Rat.mkRat_eq_div]; rfl
 rw [e, flr_mk _ (by decide)]
 constructor
 · intro h
   have h2 := congrArg (fun q : Rat => 2 * q) h
   simp only [← e] at h2
   have h3 : ((n : Int) : Rat) = ((2 * (n / 2) : Int) : Rat) := by
     rw [Rat.intCast_mul]
     have : (2 : Rat) * ((n : Rat) / 2) = n := by grind
     rw [this] at h2
     exact h2
   have := Rat.intCast_inj.1 h3
   omega
 · intro h
   have h1 : n = 2 * (n / 2) := by omega
   have h3 : ((n : Int) : Rat) = ((2 * (n / 2) : Int) : Rat) := congrArg _ h1
   rw [Rat.intCast_mul] at h3
   rw [← e, h3]
   have : (((2 : Int) : Rat)) = 2 := rfl
   rw [this]
   grind
def halved (x : Rat) : Nat → Rat
 | 0 => x
 | j + 1 => halved x j / 2
theorem half_bounds (q : Rat) : (q / 2).num.natAbs ≤ q.num.natAbs ∧ (q / 2).den ≤ q.den * 2 := by
 have e : q / 2 = mkRat q.num (q.den * 2) := by
   have h := mkRat_mul' q.num 1 q.den 2
   rw [Rat.mkRat_self, Int.mul_one] at h
   rw [h, show mkRat 1 2 = (1 / 2 : Rat) from by decide +kernel]
   grind
 have hp : 0 < q.den * 2 := Nat.mul_pos q.den_pos (by decide)
 rw [e, mkRat_abs _ hp, mkRat_dn _ hp]
 exact ⟨Nat.div_le_self _ _, Nat.div_le_self _ _⟩
theorem halved_bounds (x : Rat) (j : Nat) : (halved x j).num.natAbs ≤ x.num.natAbs ∧ (halved x j).den ≤ x.den * 2 ^ j := by
 induction j with
 | zero => exact ⟨Nat.le_refl _, by rw [Nat.pow_zero, Nat.mul_one]; exact Nat.le_refl _⟩
 | succ j ih =>
   obtain ⟨h1, h2⟩ := half_bounds (halved x j)
   refine ⟨Nat.le_trans h1 ih.1, Nat.le_trans h2 ?_⟩
   rw [Nat.pow_succ, ← Nat.mul_assoc]
   exact Nat.mul_le_mul_right 2 ih.2
end Go.Proofs.YtpjakokgmgggiaaGreat

/- What is to be shown of the calls of some functions. (Printed by gen/vc.py.) -/
namespace Go.Proofs.YtpjakokgmgggiaaGreat
open Go.RowKit
open Sy (Up Sees CallsG Seg execFn_use)
set_option maxRecDepth 100000
variable {k : World} {R : World → Value → Prop}
theorem bit_vc {A0 : Option Addr} {l0 c0 : Nat} {n1 : Int}
    (h : ((decide ((n1 : Int) < 0)) = true →
 (∀ k0, Up k k0 → R k0 (Value.int .u64 0))) ∧
 ((decide ((n1 : Int) < 0)) = false →
 (true = true ∧ (((decide (((IntKind.wrap .i64 (Int.tdiv n1 64)) : Int) ≥ (l0 : Nat))) = true →
 (∀ k1, Up k k1 → R k1 (Value.int .u64 0))) ∧
 ((decide (((IntKind.wrap .i64 (Int.tdiv n1 64)) : Int) ≥ (l0 : Nat))) = false →
 ((∃ b o, A0 = some ⟨b, o, none⟩) ∧ ((0 : Int) ≤ (IntKind.wrap .i64 (Int.tdiv n1 64)) ∧ ((IntKind.wrap .i64 (Int.tdiv n1 64)) : Int) < (l0 : Nat)) ∧
 ∃ n2, Sy.ReadAt k.cell? A0 (Int.toNat (IntKind.wrap .i64 (Int.tdiv n1 64)) * 1 + 0) 1 (Value.int .u64 n2) ∧
 (decide ((0 : Int) ≤ (Int.tmod n1 64))) = true ∧
 (∀ k2, Up k k2 → R k2 (Value.int .u64 (IntKind.wrap .u64 (BitVec.toNat (BitVec.ofInt (IntKind.bits .u64) (Int.fdiv n2 (2 ^ (min (Int.toNat (Int.tmod n1 64)) (IntKind.bits .u64)))) &&& BitVec.ofInt (IntKind.bits .u64) 1))))))))))) :
    CallsG Tryz.prog 155 #[Value.slice A0 l0 c0, Value.int .i64 n1] k R :=
  execFn_use (cfg := { opq := [] }) (args := [.one (.var 0), .one (.var 1)]) (vals := [Value.slice A0 l0 c0, Value.int .i64 n1]) (kinds := [.slice, .int .i64]) (by kernel_rfl) ⟨⟨_, _, _, rfl⟩, ⟨⟨_, rfl⟩, trivial⟩⟩ (by kernel_rfl) (by kernel_rfl) h
theorem xifloor_vc {b0 : Bool} {A1 : Option Addr} {l1 c1 : Nat} {A2 : Option Addr} {l2 c2 : Nat}
    (h : ∀ k0, Up k k0 → CallsG Tryz.prog 177 #[Value.slice A1 l1 c1, Value.slice A2 l2 c2] k0 fun k1 r0 => ∃ A3 l3 c3, ∃ A4 l4 c4, some (Value.tuple #[Value.slice A3 l3 c3, Value.slice A4 l4 c4]) = some r0 ∧
 (b0 = true →
 (true = true ∧ (((decide (((l4 : Nat) : Int) > 0)) = true →
 (∀ k2, Up k1 k2 → CallsG Tryz.prog 154 #[Value.int .u64 1] k2 fun k3 r2 => ∃ A5 l5 c5, some (Value.slice A5 l5 c5) = some r2 ∧
 ∀ k4, Up k3 k4 → CallsG Tryz.prog 204 #[Value.slice A3 l3 c3, Value.slice A5 l5 c5] k4 fun k5 r4 => ∃ A6 l6 c6, some (Value.slice A6 l6 c6) = some r4 ∧
 ∀ k6, Up k5 k6 → CallsG Tryz.prog 132 #[Value.bool b0, Value.slice A6 l6 c6] k6 fun k7 r6 => ∃ b7, ∃ A8 l8 c8, some (Value.agg #[Value.bool b7, Value.slice A8 l8 c8]) = some r6 ∧
 ∀ k8, Up k7 k8 → R k8 (Value.agg #[Value.bool b7, Value.slice A8 l8 c8]))) ∧
 ((decide (((l4 : Nat) : Int) > 0)) = false →
 (∀ k9, Up k1 k9 → CallsG Tryz.prog 132 #[Value.bool b0, Value.slice A3 l3 c3] k9 fun k10 r9 => ∃ b5, ∃ A6 l6 c6, some (Value.agg #[Value.bool b5, Value.slice A6 l6 c6]) = some r9 ∧
 ∀ k11, Up k10 k11 → R k11 (Value.agg #[Value.bool b5, Value.slice A6 l6 c6])))))) ∧
 (b0 = false →
 (∀ k12, Up k1 k12 → CallsG Tryz.prog 132 #[Value.bool b0, Value.slice A3 l3 c3] k12 fun k13 r12 => ∃ b5, ∃ A6 l6 c6, some (Value.agg #[Value.bool b5, Value.slice A6 l6 c6]) = some r12 ∧
 ∀ k14, Up k13 k14 → R k14 (Value.agg #[Value.bool b5, Value.slice A6 l6 c6])))) :
    CallsG Tryz.prog 158 #[Value.agg #[Value.bool b0, Value.slice A1 l1 c1], Value.slice A2 l2 c2] k R :=
  execFn_use (cfg := { opq := [] }) (args := [.agg [.var 0, .var 1], .one (.var 2)]) (vals := [Value.bool b0, Value.slice A1 l1 c1, Value.slice A2 l2 c2]) (kinds := [.bool, .slice, .slice]) (by kernel_rfl) ⟨⟨_, rfl⟩, ⟨⟨_, _, _, rfl⟩, ⟨⟨_, _, _, rfl⟩, trivial⟩⟩⟩ (by kernel_rfl) (by kernel_rfl) h
theorem xFloor_vc {b0 : Bool} {A1 : Option Addr} {l1 c1 : Nat} {A2 : Option Addr} {l2 c2 : Nat} {n3 : Int}
    (h : ∀ k0, Up k k0 → CallsG Tryz.prog 157 #[Value.slice A1 l1 c1, Value.int .i64 (if (decide ((1000 : Int) < (if (decide ((n3 : Int) < 0)) = true then 0 else n3))) = true then 1000 else (if (decide ((n3 : Int) < 0)) = true then 0 else n3))] k0 fun k1 r0 => ∃ A4 l4 c4, some (Value.slice A4 l4 c4) = some r0 ∧
 ∀ k2, Up k1 k2 → CallsG Tryz.prog 132 #[Value.bool b0, Value.slice A4 l4 c4] k2 fun k3 r2 => ∃ b5, ∃ A6 l6 c6, some (Value.agg #[Value.bool b5, Value.slice A6 l6 c6]) = some r2 ∧
 ∀ k4, Up k3 k4 → CallsG Tryz.prog 130 #[Value.slice A2 l2 c2] k4 fun k5 r4 => ∃ A7 l7 c7, some (Value.slice A7 l7 c7) = some r4 ∧
 ∀ k6, Up k5 k6 → CallsG Tryz.prog 158 #[Value.agg #[Value.bool b5, Value.slice A6 l6 c6], Value.slice A7 l7 c7] k6 fun k7 r6 => ∃ b8, ∃ A9 l9 c9, some (Value.agg #[Value.bool b8, Value.slice A9 l9 c9]) = some r6 ∧
 ∀ k8, Up k7 k8 → CallsG Tryz.prog 154 #[Value.int .u64 1] k8 fun k9 r8 => ∃ A10 l10 c10, some (Value.slice A10 l10 c10) = some r8 ∧
 ∀ k10, Up k9 k10 → CallsG Tryz.prog 157 #[Value.slice A10 l10 c10, Value.int .i64 (if (decide ((1000 : Int) < (if (decide ((n3 : Int) < 0)) = true then 0 else n3))) = true then 1000 else (if (decide ((n3 : Int) < 0)) = true then 0 else n3))] k10 fun k11 r10 => ∃ A11 l11 c11, some (Value.slice A11 l11 c11) = some r10 ∧
 ∀ k12, Up k11 k12 → CallsG Tryz.prog 131 #[Value.agg #[Value.bool b8, Value.slice A9 l9 c9], Value.slice A11 l11 c11] k12 fun k13 r12 => ∃ b12, ∃ A13 l13 c13, ∃ A14 l14 c14, some (Value.agg #[Value.bool b12, Value.slice A13 l13 c13, Value.slice A14 l14 c14]) = some r12 ∧
 ∀ k14, Up k13 k14 → R k14 (Value.agg #[Value.bool b12, Value.slice A13 l13 c13, Value.slice A14 l14 c14])) :
    CallsG Tryz.prog 62 #[Value.agg #[Value.bool b0, Value.slice A1 l1 c1, Value.slice A2 l2 c2], Value.int .i64 n3] k R :=
  execFn_use (cfg := { opq := [] }) (args := [.agg [.var 0, .var 1, .var 2], .one (.var 3)]) (vals := [Value.bool b0, Value.slice A1 l1 c1, Value.slice A2 l2 c2, Value.int .i64 n3]) (kinds := [.bool, .slice, .slice, .int .i64]) (by kernel_rfl) ⟨⟨_, rfl⟩, ⟨⟨_, _, _, rfl⟩, ⟨⟨_, _, _, rfl⟩, ⟨⟨_, rfl⟩, trivial⟩⟩⟩⟩ (by kernel_rfl) (by kernel_rfl) h
theorem xCeil_vc {cs0 : Array Value} {n1 : Int} (hcs0 : Seg 3 cs0)
    (h : ∀ k0, Up k k0 → CallsG Tryz.prog 26 #[Value.agg cs0] k0 fun k1 r0 => ∃ cs2, Seg 3 cs2 ∧ some (Value.agg cs2) = some r0 ∧
 ∀ k2, Up k1 k2 → CallsG Tryz.prog 62 #[Value.agg cs2, Value.int .i64 n1] k2 fun k3 r2 => ∃ cs3, Seg 3 cs3 ∧ some (Value.agg cs3) = some r2 ∧
 ∀ k4, Up k3 k4 → CallsG Tryz.prog 26 #[Value.agg cs3] k4 fun k5 r4 => ∃ cs4, Seg 3 cs4 ∧ some (Value.agg cs4) = some r4 ∧
 ∀ k6, Up k5 k6 → R k6 (Value.agg cs4)) :
    CallsG Tryz.prog 64 #[Value.agg cs0, Value.int .i64 n1] k R :=
  execFn_use (cfg := { opq := [30] }) (args := [.agg [.seg 0 3], .one (.var 1)]) (vals := [Value.agg cs0, Value.int .i64 n1]) (kinds := [.seg 3, .int .i64]) (by kernel_rfl) ⟨⟨cs0, rfl, hcs0⟩, ⟨⟨_, rfl⟩, trivial⟩⟩ (by kernel_rfl) (by kernel_rfl) h
theorem xRound_vc {b0 : Bool} {A1 : Option Addr} {l1 c1 : Nat} {A2 : Option Addr} {l2 c2 : Nat} {b3 : Bool} {A4 : Option Addr} {l4 c4 : Nat} {A5 : Option Addr} {l5 c5 : Nat}
    (h : ∀ k0, Up k k0 → CallsG Tryz.prog 145 #[Value.agg #[Value.bool b3, Value.slice A4 l4 c4, Value.slice A5 l5 c5]] k0 fun k1 r0 => ∃ n6, some (Value.int .i64 n6) = some r0 ∧
 ((decide ((n6 : Int) ≤ 0)) = true →
 (∀ k2, Up k1 k2 → R k2 (Value.tuple #[Value.agg #[Value.bool false, Value.slice none 0 0, Value.slice none 0 0], Value.int .i64 1]))) ∧
 ((decide ((n6 : Int) ≤ 0)) = false →
 (∀ k3, Up k1 k3 → CallsG Tryz.prog 17 #[Value.agg #[Value.bool b0, Value.slice A1 l1 c1, Value.slice A2 l2 c2], Value.agg #[Value.bool b3, Value.slice A4 l4 c4, Value.slice A5 l5 c5]] k3 fun k4 r3 => ∃ b7, ∃ A8 l8 c8, ∃ A9 l9 c9, ∃ n10, some (Value.tuple #[Value.agg #[Value.bool b7, Value.slice A8 l8 c8, Value.slice A9 l9 c9], Value.int .i64 n10]) = some r3 ∧
 ∀ k5, Up k4 k5 → CallsG Tryz.prog 62 #[Value.agg #[Value.bool b7, Value.slice A8 l8 c8, Value.slice A9 l9 c9], Value.int .i64 0] k5 fun k6 r5 => ∃ b11, ∃ A12 l12 c12, ∃ A13 l13 c13, some (Value.agg #[Value.bool b11, Value.slice A12 l12 c12, Value.slice A13 l13 c13]) = some r5 ∧
 ∀ k7, Up k6 k7 → CallsG Tryz.prog 153 #[Value.int .i64 1] k7 fun k8 r7 => ∃ b14, ∃ A15 l15 c15, some (Value.agg #[Value.bool b14, Value.slice A15 l15 c15]) = some r7 ∧
 ∀ k9, Up k8 k9 → CallsG Tryz.prog 154 #[Value.int .u64 2] k9 fun k10 r9 => ∃ A16 l16 c16, some (Value.slice A16 l16 c16) = some r9 ∧
 ∀ k11, Up k10 k11 → CallsG Tryz.prog 22 #[Value.agg #[Value.bool b7, Value.slice A8 l8 c8, Value.slice A9 l9 c9], Value.agg #[Value.bool b11, Value.slice A12 l12 c12, Value.slice A13 l13 c13]] k11 fun k12 r11 => ∃ b17, ∃ A18 l18 c18, ∃ A19 l19 c19, some (Value.agg #[Value.bool b17, Value.slice A18 l18 c18, Value.slice A19 l19 c19]) = some r11 ∧
 ∀ k13, Up k12 k13 → CallsG Tryz.prog 30 #[Value.agg #[Value.bool b17, Value.slice A18 l18 c18, Value.slice A19 l19 c19], Value.agg #[Value.bool b14, Value.slice A15 l15 c15, Value.slice A16 l16 c16]] k13 fun k14 r13 => ∃ n20, some (Value.int .i64 n20) = some r13 ∧
 ((decide ((n20 : Int) > 0)) = true →
 (∀ k15, Up k14 k15 → CallsG Tryz.prog 94 #[Value.int .i64 1] k15 fun k16 r15 => ∃ b21, ∃ A22 l22 c22, ∃ A23 l23 c23, some (Value.agg #[Value.bool b21, Value.slice A22 l22 c22, Value.slice A23 l23 c23]) = some r15 ∧
 ∀ k17, Up k16 k17 → CallsG Tryz.prog 20 #[Value.agg #[Value.bool b11, Value.slice A12 l12 c12, Value.slice A13 l13 c13], Value.agg #[Value.bool b21, Value.slice A22 l22 c22, Value.slice A23 l23 c23]] k17 fun k18 r17 => ∃ b24, ∃ A25 l25 c25, ∃ A26 l26 c26, some (Value.agg #[Value.bool b24, Value.slice A25 l25 c25, Value.slice A26 l26 c26]) = some r17 ∧
 ∀ k19, Up k18 k19 → CallsG Tryz.prog 24 #[Value.agg #[Value.bool b24, Value.slice A25 l25 c25, Value.slice A26 l26 c26], Value.agg #[Value.bool b3, Value.slice A4 l4 c4, Value.slice A5 l5 c5]] k19 fun k20 r19 => ∃ b27, ∃ A28 l28 c28, ∃ A29 l29 c29, some (Value.agg #[Value.bool b27, Value.slice A28 l28 c28, Value.slice A29 l29 c29]) = some r19 ∧
 ∀ k21, Up k20 k21 → R k21 (Value.tuple #[Value.agg #[Value.bool b27, Value.slice A28 l28 c28, Value.slice A29 l29 c29], Value.int .i64 0]))) ∧
 ((decide ((n20 : Int) > 0)) = false →
 ((((n20 : Int) == 0) = true →
 (∀ k22, Up k14 k22 → CallsG Tryz.prog 155 #[Value.slice A12 l12 c12, Value.int .i64 0] k22 fun k23 r22 => ∃ n21, some (Value.int .u64 n21) = some r22 ∧
 (((n21 : Int) == 1) = true →
 (∀ k24, Up k23 k24 → CallsG Tryz.prog 94 #[Value.int .i64 1] k24 fun k25 r24 => ∃ b22, ∃ A23 l23 c23, ∃ A24 l24 c24, some (Value.agg #[Value.bool b22, Value.slice A23 l23 c23, Value.slice A24 l24 c24]) = some r24 ∧
 ∀ k26, Up k25 k26 → CallsG Tryz.prog 20 #[Value.agg #[Value.bool b11, Value.slice A12 l12 c12, Value.slice A13 l13 c13], Value.agg #[Value.bool b22, Value.slice A23 l23 c23, Value.slice A24 l24 c24]] k26 fun k27 r26 => ∃ b25, ∃ A26 l26 c26, ∃ A27 l27 c27, some (Value.agg #[Value.bool b25, Value.slice A26 l26 c26, Value.slice A27 l27 c27]) = some r26 ∧
 ∀ k28, Up k27 k28 → CallsG Tryz.prog 24 #[Value.agg #[Value.bool b25, Value.slice A26 l26 c26, Value.slice A27 l27 c27], Value.agg #[Value.bool b3, Value.slice A4 l4 c4, Value.slice A5 l5 c5]] k28 fun k29 r28 => ∃ b28, ∃ A29 l29 c29, ∃ A30 l30 c30, some (Value.agg #[Value.bool b28, Value.slice A29 l29 c29, Value.slice A30 l30 c30]) = some r28 ∧
 ∀ k30, Up k29 k30 → R k30 (Value.tuple #[Value.agg #[Value.bool b28, Value.slice A29 l29 c29, Value.slice A30 l30 c30], Value.int .i64 0]))) ∧
 (((n21 : Int) == 1) = false →
 (∀ k31, Up k23 k31 → CallsG Tryz.prog 24 #[Value.agg #[Value.bool b11, Value.slice A12 l12 c12, Value.slice A13 l13 c13], Value.agg #[Value.bool b3, Value.slice A4 l4 c4, Value.slice A5 l5 c5]] k31 fun k32 r31 => ∃ b22, ∃ A23 l23 c23, ∃ A24 l24 c24, some (Value.agg #[Value.bool b22, Value.slice A23 l23 c23, Value.slice A24 l24 c24]) = some r31 ∧
 ∀ k33, Up k32 k33 → R k33 (Value.tuple #[Value.agg #[Value.bool b22, Value.slice A23 l23 c23, Value.slice A24 l24 c24], Value.int .i64 0]))))) ∧
 (((n20 : Int) == 0) = false →
 (∀ k34, Up k14 k34 → CallsG Tryz.prog 24 #[Value.agg #[Value.bool b11, Value.slice A12 l12 c12, Value.slice A13 l13 c13], Value.agg #[Value.bool b3, Value.slice A4 l4 c4, Value.slice A5 l5 c5]] k34 fun k35 r34 => ∃ b21, ∃ A22 l22 c22, ∃ A23 l23 c23, some (Value.agg #[Value.bool b21, Value.slice A22 l22 c22, Value.slice A23 l23 c23]) = some r34 ∧
 ∀ k36, Up k35 k36 → R k36 (Value.tuple #[Value.agg #[Value.bool b21, Value.slice A22 l22 c22, Value.slice A23 l23 c23], Value.int .i64 0])))))))) :
    CallsG Tryz.prog 60 #[Value.agg #[Value.bool b0, Value.slice A1 l1 c1, Value.slice A2 l2 c2], Value.agg #[Value.bool b3, Value.slice A4 l4 c4, Value.slice A5 l5 c5]] k R :=
  execFn_use (cfg := { opq := [] }) (args := [.agg [.var 0, .var 1, .var 2], .agg [.var 3, .var 4, .var 5]]) (vals := [Value.bool b0, Value.slice A1 l1 c1, Value.slice A2 l2 c2, Value.bool b3, Value.slice A4 l4 c4, Value.slice A5 l5 c5]) (kinds := [.bool, .slice, .slice, .bool, .slice, .slice]) (by kernel_rfl) ⟨⟨_, rfl⟩, ⟨⟨_, _, _, rfl⟩, ⟨⟨_, _, _, rfl⟩, ⟨⟨_, rfl⟩, ⟨⟨_, _, _, rfl⟩, ⟨⟨_, _, _, rfl⟩, trivial⟩⟩⟩⟩⟩⟩ (by kernel_rfl) (by kernel_rfl) h
theorem rfloor_vc {b0 : Bool} {A1 : Option Addr} {l1 c1 : Nat} {A2 : Option Addr} {l2 c2 : Nat}
    (h : ∀ k0, Up k k0 → CallsG Tryz.prog 136 #[Value.agg #[Value.bool b0, Value.slice A1 l1 c1, Value.slice A2 l2 c2]] k0 fun k1 r0 => ∃ A3 l3 c3, some (Value.slice A3 l3 c3) = some r0 ∧
 ∀ k2, Up k1 k2 → CallsG Tryz.prog 200 #[Value.slice A1 l1 c1, Value.slice A3 l3 c3] k2 fun k3 r2 => ∃ A4 l4 c4, ∃ A5 l5 c5, some (Value.tuple #[Value.slice A4 l4 c4, Value.slice A5 l5 c5]) = some r2 ∧
 (b0 = true →
 (true = true ∧ (((decide (((l5 : Nat) : Int) > 0)) = true →
 (∀ p6 k4, Up k3 k4 → Sy.Blk k4 p6 126 #[Value.int .u32 1] →
 ∀ k5, Up k4 k5 → CallsG Tryz.prog 140 #[Value.slice A4 l4 c4, Value.slice (some ⟨p6, 0, none⟩) 1 1] k5 fun k6 r5 => ∃ A7 l7 c7, some (Value.slice A7 l7 c7) = some r5 ∧
 ∀ p8 k7, Up k6 k7 → Sy.Blk k7 p8 126 #[Value.int .u32 1] →
 ∀ k8, Up k7 k8 → CallsG Tryz.prog 134 #[Value.bool b0, Value.slice A7 l7 c7, Value.slice (some ⟨p8, 0, none⟩) 1 1] k8 fun k9 r8 => ∃ b9, ∃ A10 l10 c10, ∃ A11 l11 c11, some (Value.agg #[Value.bool b9, Value.slice A10 l10 c10, Value.slice A11 l11 c11]) = some r8 ∧
 ∀ k10, Up k9 k10 → R k10 (Value.agg #[Value.bool b9, Value.slice A10 l10 c10, Value.slice A11 l11 c11]))) ∧
 ((decide (((l5 : Nat) : Int) > 0)) = false →
 (∀ p6 k11, Up k3 k11 → Sy.Blk k11 p6 126 #[Value.int .u32 1] →
 ∀ k12, Up k11 k12 → CallsG Tryz.prog 134 #[Value.bool b0, Value.slice A4 l4 c4, Value.slice (some ⟨p6, 0, none⟩) 1 1] k12 fun k13 r12 => ∃ b7, ∃ A8 l8 c8, ∃ A9 l9 c9, some (Value.agg #[Value.bool b7, Value.slice A8 l8 c8, Value.slice A9 l9 c9]) = some r12 ∧
 ∀ k14, Up k13 k14 → R k14 (Value.agg #[Value.bool b7, Value.slice A8 l8 c8, Value.slice A9 l9 c9])))))) ∧
 (b0 = false →
 (∀ p6 k15, Up k3 k15 → Sy.Blk k15 p6 126 #[Value.int .u32 1] →
 ∀ k16, Up k15 k16 → CallsG Tryz.prog 134 #[Value.bool b0, Value.slice A4 l4 c4, Value.slice (some ⟨p6, 0, none⟩) 1 1] k16 fun k17 r16 => ∃ b7, ∃ A8 l8 c8, ∃ A9 l9 c9, some (Value.agg #[Value.bool b7, Value.slice A8 l8 c8, Value.slice A9 l9 c9]) = some r16 ∧
 ∀ k18, Up k17 k18 → R k18 (Value.agg #[Value.bool b7, Value.slice A8 l8 c8, Value.slice A9 l9 c9])))) :
    CallsG Tryz.prog 156 #[Value.agg #[Value.bool b0, Value.slice A1 l1 c1, Value.slice A2 l2 c2]] k R :=
  execFn_use (cfg := { opq := [] }) (args := [.agg [.var 0, .var 1, .var 2]]) (vals := [Value.bool b0, Value.slice A1 l1 c1, Value.slice A2 l2 c2]) (kinds := [.bool, .slice, .slice]) (by kernel_rfl) ⟨⟨_, rfl⟩, ⟨⟨_, _, _, rfl⟩, ⟨⟨_, _, _, rfl⟩, trivial⟩⟩⟩ (by kernel_rfl) (by kernel_rfl) h
theorem runit_vc {n0 : Int}
    (h : ∀ p1 k0, Up k k0 → Sy.Blk k0 p1 126 #[Value.int .u32 1] →
 ∀ k1, Up k0 k1 → CallsG Tryz.prog 175 #[Value.slice (some ⟨p1, 0, none⟩) 1 1, Value.int .i64 n0] k1 fun k2 r1 => ∃ A2 l2 c2, some (Value.slice A2 l2 c2) = some r1 ∧
 ∀ p3 k3, Up k2 k3 → Sy.Blk k3 p3 126 #[Value.int .u32 1] →
 ∀ k4, Up k3 k4 → CallsG Tryz.prog 134 #[Value.bool false, Value.slice A2 l2 c2, Value.slice (some ⟨p3, 0, none⟩) 1 1] k4 fun k5 r4 => ∃ b4, ∃ A5 l5 c5, ∃ A6 l6 c6, some (Value.agg #[Value.bool b4, Value.slice A5 l5 c5, Value.slice A6 l6 c6]) = some r4 ∧
 ∀ k6, Up k5 k6 → R k6 (Value.agg #[Value.bool b4, Value.slice A5 l5 c5, Value.slice A6 l6 c6])) :
    CallsG Tryz.prog 159 #[Value.int .i64 n0] k R :=
  execFn_use (cfg := { opq := [] }) (args := [.one (.var 0)]) (vals := [Value.int .i64 n0]) (kinds := [.int .i64]) (by kernel_rfl) ⟨⟨_, rfl⟩, trivial⟩ (by kernel_rfl) (by kernel_rfl) h
theorem rFloor_vc {cs0 : Array Value} {n1 : Int} (hcs0 : Seg 3 cs0)
    (h : ∀ k0, Up k k0 → CallsG Tryz.prog 159 #[Value.int .i64 (if (decide ((1000 : Int) < (if (decide ((n1 : Int) < 0)) = true then 0 else n1))) = true then 1000 else (if (decide ((n1 : Int) < 0)) = true then 0 else n1))] k0 fun k1 r0 => ∃ cs2, Seg 3 cs2 ∧ some (Value.agg cs2) = some r0 ∧
 ∀ k2, Up k1 k2 → CallsG Tryz.prog 25 #[Value.agg cs0, Value.agg cs2] k2 fun k3 r2 => ∃ cs3, Seg 3 cs3 ∧ some (Value.agg cs3) = some r2 ∧
 ∀ k4, Up k3 k4 → CallsG Tryz.prog 156 #[Value.agg cs3] k4 fun k5 r4 => ∃ cs4, Seg 3 cs4 ∧ some (Value.agg cs4) = some r4 ∧
 ∀ k6, Up k5 k6 → CallsG Tryz.prog 152 #[Value.agg cs4, Value.agg cs2] k6 fun k7 r6 => ∃ cs5, Seg 3 cs5 ∧ some (Value.agg cs5) = some r6 ∧
 ∀ k8, Up k7 k8 → R k8 (Value.agg cs5)) :
    CallsG Tryz.prog 63 #[Value.agg cs0, Value.int .i64 n1] k R :=
  execFn_use (cfg := { opq := [34] }) (args := [.agg [.seg 0 3], .one (.var 1)]) (vals := [Value.agg cs0, Value.int .i64 n1]) (kinds := [.seg 3, .int .i64]) (by kernel_rfl) ⟨⟨cs0, rfl, hcs0⟩, ⟨⟨_, rfl⟩, trivial⟩⟩ (by kernel_rfl) (by kernel_rfl) h
theorem rCeil_vc {cs0 : Array Value} {n1 : Int} (hcs0 : Seg 3 cs0)
    (h : ∀ k0, Up k k0 → CallsG Tryz.prog 27 #[Value.agg cs0] k0 fun k1 r0 => ∃ cs2, Seg 3 cs2 ∧ some (Value.agg cs2) = some r0 ∧
 ∀ k2, Up k1 k2 → CallsG Tryz.prog 63 #[Value.agg cs2, Value.int .i64 n1] k2 fun k3 r2 => ∃ cs3, Seg 3 cs3 ∧ some (Value.agg cs3) = some r2 ∧
 ∀ k4, Up k3 k4 → CallsG Tryz.prog 27 #[Value.agg cs3] k4 fun k5 r4 => ∃ cs4, Seg 3 cs4 ∧ some (Value.agg cs4) = some r4 ∧
 ∀ k6, Up k5 k6 → R k6 (Value.agg cs4)) :
    CallsG Tryz.prog 65 #[Value.agg cs0, Value.int .i64 n1] k R :=
  execFn_use (cfg := { opq := [34] }) (args := [.agg [.seg 0 3], .one (.var 1)]) (vals := [Value.agg cs0, Value.int .i64 n1]) (kinds := [.seg 3, .int .i64]) (by kernel_rfl) ⟨⟨cs0, rfl, hcs0⟩, ⟨⟨_, rfl⟩, trivial⟩⟩ (by kernel_rfl) (by kernel_rfl) h
theorem rRound_vc {cs0 cs1 : Array Value} (hcs0 : Seg 3 cs0) (hcs1 : Seg 3 cs1)
    (h : ∀ k0, Up k k0 → CallsG Tryz.prog 146 #[Value.agg cs1] k0 fun k1 r0 => ∃ n2, some (Value.int .i64 n2) = some r0 ∧
 ((decide ((n2 : Int) ≤ 0)) = true →
 (∀ k2, Up k1 k2 → CallsG Tryz.prog 108 #[Value.int .i64 0] k2 fun k3 r2 => ∃ cs3, Seg 3 cs3 ∧ some (Value.agg cs3) = some r2 ∧
 ∀ k4, Up k3 k4 → R k4 (Value.tuple #[Value.agg cs3, Value.int .i64 1]))) ∧
 ((decide ((n2 : Int) ≤ 0)) = false →
 (∀ k5, Up k1 k5 → CallsG Tryz.prog 152 #[Value.agg cs0, Value.agg cs1] k5 fun k6 r5 => ∃ cs3, Seg 3 cs3 ∧ some (Value.agg cs3) = some r5 ∧
 ∀ k7, Up k6 k7 → CallsG Tryz.prog 156 #[Value.agg cs3] k7 fun k8 r7 => ∃ cs4, Seg 3 cs4 ∧ some (Value.agg cs4) = some r7 ∧
 ∀ k9, Up k8 k9 → CallsG Tryz.prog 108 #[Value.int .i64 2] k9 fun k10 r9 => ∃ cs5, Seg 3 cs5 ∧ some (Value.agg cs5) = some r9 ∧
 ∀ k11, Up k10 k11 → CallsG Tryz.prog 23 #[Value.agg cs3, Value.agg cs4] k11 fun k12 r11 => ∃ cs6, Seg 3 cs6 ∧ some (Value.agg cs6) = some r11 ∧
 ∀ k13, Up k12 k13 → CallsG Tryz.prog 25 #[Value.agg cs5, Value.agg cs6] k13 fun k14 r13 => ∃ cs7, Seg 3 cs7 ∧ some (Value.agg cs7) = some r13 ∧
 ∀ k15, Up k14 k15 → CallsG Tryz.prog 108 #[Value.int .i64 1] k15 fun k16 r15 => ∃ cs8, Seg 3 cs8 ∧ some (Value.agg cs8) = some r15 ∧
 ∀ k17, Up k16 k17 → CallsG Tryz.prog 31 #[Value.agg cs7, Value.agg cs8] k17 fun k18 r17 => ∃ n9, some (Value.int .i64 n9) = some r17 ∧
 ∀ k19, Up k18 k19 → CallsG Tryz.prog 108 #[Value.int .i64 2] k19 fun k20 r19 => ∃ cs10, Seg 3 cs10 ∧ some (Value.agg cs10) = some r19 ∧
 ∀ k21, Up k20 k21 → CallsG Tryz.prog 152 #[Value.agg cs4, Value.agg cs10] k21 fun k22 r21 => ∃ cs11, Seg 3 cs11 ∧ some (Value.agg cs11) = some r21 ∧
 ((decide ((n9 : Int) > 0)) = true →
 (∀ k23, Up k22 k23 → CallsG Tryz.prog 108 #[Value.int .i64 1] k23 fun k24 r23 => ∃ cs12, Seg 3 cs12 ∧ some (Value.agg cs12) = some r23 ∧
 ∀ k25, Up k24 k25 → CallsG Tryz.prog 21 #[Value.agg cs4, Value.agg cs12] k25 fun k26 r25 => ∃ cs13, Seg 3 cs13 ∧ some (Value.agg cs13) = some r25 ∧
 ∀ k27, Up k26 k27 → CallsG Tryz.prog 25 #[Value.agg cs13, Value.agg cs1] k27 fun k28 r27 => ∃ cs14, Seg 3 cs14 ∧ some (Value.agg cs14) = some r27 ∧
 ∀ k29, Up k28 k29 → R k29 (Value.tuple #[Value.agg cs14, Value.int .i64 0]))) ∧
 ((decide ((n9 : Int) > 0)) = false →
 ((((n9 : Int) == 0) = true →
 (∀ k30, Up k22 k30 → CallsG Tryz.prog 156 #[Value.agg cs11] k30 fun k31 r30 => ∃ cs12, Seg 3 cs12 ∧ some (Value.agg cs12) = some r30 ∧
 ∀ k32, Up k31 k32 → CallsG Tryz.prog 33 #[Value.agg cs11, Value.agg cs12] k32 fun k33 r32 => ∃ b13, some (Value.bool b13) = some r32 ∧
 ((!b13) = true →
 (∀ k34, Up k33 k34 → CallsG Tryz.prog 108 #[Value.int .i64 1] k34 fun k35 r34 => ∃ cs14, Seg 3 cs14 ∧ some (Value.agg cs14) = some r34 ∧
 ∀ k36, Up k35 k36 → CallsG Tryz.prog 21 #[Value.agg cs4, Value.agg cs14] k36 fun k37 r36 => ∃ cs15, Seg 3 cs15 ∧ some (Value.agg cs15) = some r36 ∧
 ∀ k38, Up k37 k38 → CallsG Tryz.prog 25 #[Value.agg cs15, Value.agg cs1] k38 fun k39 r38 => ∃ cs16, Seg 3 cs16 ∧ some (Value.agg cs16) = some r38 ∧
 ∀ k40, Up k39 k40 → R k40 (Value.tuple #[Value.agg cs16, Value.int .i64 0]))) ∧
 ((!b13) = false →
 (∀ k41, Up k33 k41 → CallsG Tryz.prog 25 #[Value.agg cs4, Value.agg cs1] k41 fun k42 r41 => ∃ cs14, Seg 3 cs14 ∧ some (Value.agg cs14) = some r41 ∧
 ∀ k43, Up k42 k43 → R k43 (Value.tuple #[Value.agg cs14, Value.int .i64 0]))))) ∧
 (((n9 : Int) == 0) = false →
 (∀ k44, Up k22 k44 → CallsG Tryz.prog 25 #[Value.agg cs4, Value.agg cs1] k44 fun k45 r44 => ∃ cs12, Seg 3 cs12 ∧ some (Value.agg cs12) = some r44 ∧
 ∀ k46, Up k45 k46 → R k46 (Value.tuple #[Value.agg cs12, Value.int .i64 0])))))))) :
    CallsG Tryz.prog 61 #[Value.agg cs0, Value.agg cs1] k R :=
  execFn_use (cfg := { opq := [34] }) (args := [.agg [.seg 0 3], .agg [.seg 1 3]]) (vals := [Value.agg cs0, Value.agg cs1]) (kinds := [.seg 3, .seg 3]) (by kernel_rfl) ⟨⟨cs0, rfl, hcs0⟩, ⟨⟨cs1, rfl, hcs1⟩, trivial⟩⟩ (by kernel_rfl) (by kernel_rfl) h
theorem scaled_vc {n0 n1 n2 : Int}
    (h : ∀ k0, Up k k0 → CallsG Tryz.prog 15 #[Value.agg #[Value.int .i64 n0, Value.int .i64 n1]] k0 fun k1 r0 => ∃ cs3, Seg 3 cs3 ∧ some (Value.agg cs3) = some r0 ∧
 ∀ k2, Up k1 k2 → CallsG Tryz.prog 16 #[Value.agg #[Value.int .i64 n0, Value.int .i64 n1]] k2 fun k3 r2 => ∃ cs4, Seg 3 cs4 ∧ some (Value.agg cs4) = some r2 ∧
 ∀ k4, Up k3 k4 → CallsG Tryz.prog 94 #[Value.int .i64 2] k4 fun k5 r4 => ∃ cs5, Seg 3 cs5 ∧ some (Value.agg cs5) = some r4 ∧
 ∀ k6, Up k5 k6 → CallsG Tryz.prog 108 #[Value.int .i64 2] k6 fun k7 r6 => ∃ cs6, Seg 3 cs6 ∧ some (Value.agg cs6) = some r6 ∧
 ∃ I8 : Nat → World → List Value → Prop, (∃ m8, ∀ k8, Up k7 k8 → I8 m8 k8 [Value.agg cs3, Value.agg cs4, Value.int .i64 n2]) ∧
 ∀ m8 k8 vs8, Up k7 k8 → I8 m8 k8 vs8 → ∃ cs7, Seg 3 cs7 ∧ ∃ cs8, Seg 3 cs8 ∧ ∃ n9, some [Value.agg cs7, Value.agg cs8, Value.int .i64 n9] = some vs8 ∧
 ((decide ((n9 : Int) > 0)) = true →
 (∀ k9, Up k8 k9 → CallsG Tryz.prog 24 #[Value.agg cs7, Value.agg cs5] k9 fun k10 r9 => ∃ cs10, Seg 3 cs10 ∧ some (Value.agg cs10) = some r9 ∧
 ∀ k11, Up k10 k11 → CallsG Tryz.prog 25 #[Value.agg cs8, Value.agg cs6] k11 fun k12 r11 => ∃ cs11, Seg 3 cs11 ∧ some (Value.agg cs11) = some r11 ∧
 ∀ k13, Up k12 k13 → ∃ m, m < m8 ∧ I8 m k13 [Value.agg cs10, Value.agg cs11, Value.int .i64 (IntKind.wrap .i64 (n9 - 1))])) ∧
 ((decide ((n9 : Int) > 0)) = false →
 (∃ I14 : Nat → World → List Value → Prop, (∃ m14, ∀ k14, Up k8 k14 → I14 m14 k14 [Value.agg cs7, Value.agg cs8, Value.int .i64 n9]) ∧
 ∀ m14 k14 vs14, Up k8 k14 → I14 m14 k14 vs14 → ∃ cs10, Seg 3 cs10 ∧ ∃ cs11, Seg 3 cs11 ∧ ∃ n12, some [Value.agg cs10, Value.agg cs11, Value.int .i64 n12] = some vs14 ∧
 ((decide ((n12 : Int) < 0)) = true →
 (∀ k15, Up k14 k15 → CallsG Tryz.prog 17 #[Value.agg cs10, Value.agg cs5] k15 fun k16 r15 => ∃ cs13, Seg 3 cs13 ∧ ∃ n14, some (Value.tuple #[Value.agg cs13, Value.int .i64 n14]) = some r15 ∧
 ∀ k17, Up k16 k17 → CallsG Tryz.prog 152 #[Value.agg cs11, Value.agg cs6] k17 fun k18 r17 => ∃ cs15, Seg 3 cs15 ∧ some (Value.agg cs15) = some r17 ∧
 ∀ k19, Up k18 k19 → ∃ m, m < m14 ∧ I14 m k19 [Value.agg cs13, Value.agg cs15, Value.int .i64 (IntKind.wrap .i64 (n12 + 1))])) ∧
 ((decide ((n12 : Int) < 0)) = false →
 (∀ k20, Up k14 k20 → R k20 (Value.tuple #[Value.agg cs10, Value.agg cs11])))))) :
    CallsG Tryz.prog 59 #[Value.agg #[Value.int .i64 n0, Value.int .i64 n1], Value.int .i64 n2] k R :=
  execFn_use (cfg := { opq := [30, 34], loops := [(0, [.blk 3 [.seg 3], .blk 4 [.seg 3], .tmp 1 false [.int .i64]]), (2, [.blk 3 [.seg 3], .blk 4 [.seg 3], .tmp 1 false [.int .i64]])] }) (args := [.agg [.var 0, .var 1], .one (.var 2)]) (vals := [Value.int .i64 n0, Value.int .i64 n1, Value.int .i64 n2]) (kinds := [.int .i64, .int .i64, .int .i64]) (by kernel_rfl) ⟨⟨_, rfl⟩, ⟨⟨_, rfl⟩, ⟨⟨_, rfl⟩, trivial⟩⟩⟩ (by kernel_rfl) (by kernel_rfl) h
theorem floors_vc {n0 n1 n2 n3 n4 n5 : Int}
    (h : ∀ k0, Up k k0 → CallsG Tryz.prog 14 #[] k0 fun k1 r0 => ∃ b6, some (Value.bool b6) = some r0 ∧
 ((!b6) = true →
 (∀ k2, Up k1 k2 → R k2 (Value.bool false))) ∧
 ((!b6) = false →
 (∀ k3, Up k1 k3 → CallsG Tryz.prog 59 #[Value.agg #[Value.int .i64 n0, Value.int .i64 n1], Value.int .i64 (IntKind.wrap .i64 (0 - (IntKind.wrap .i64 n5)))] k3 fun k4 r3 => ∃ cs7, Seg 3 cs7 ∧ ∃ cs8, Seg 3 cs8 ∧ some (Value.tuple #[Value.agg cs7, Value.agg cs8]) = some r3 ∧
 ∀ k5, Up k4 k5 → CallsG Tryz.prog 15 #[Value.agg #[Value.int .i64 n2, Value.int .i64 n3]] k5 fun k6 r5 => ∃ cs9, Seg 3 cs9 ∧ some (Value.agg cs9) = some r5 ∧
 ∀ k7, Up k6 k7 → CallsG Tryz.prog 60 #[Value.agg cs7, Value.agg cs9] k7 fun k8 r7 => ∃ cs10, Seg 3 cs10 ∧ ∃ n11, some (Value.tuple #[Value.agg cs10, Value.int .i64 n11]) = some r7 ∧
 ∀ k9, Up k8 k9 → CallsG Tryz.prog 16 #[Value.agg #[Value.int .i64 n2, Value.int .i64 n3]] k9 fun k10 r9 => ∃ cs12, Seg 3 cs12 ∧ some (Value.agg cs12) = some r9 ∧
 ∀ k11, Up k10 k11 → CallsG Tryz.prog 61 #[Value.agg cs8, Value.agg cs12] k11 fun k12 r11 => ∃ cs13, Seg 3 cs13 ∧ ∃ n14, some (Value.tuple #[Value.agg cs13, Value.int .i64 n14]) = some r11 ∧
 (((n11 : Int) == n14) = true →
 (∀ k13, Up k12 k13 → CallsG Tryz.prog 19 #[Value.agg cs10, Value.agg cs13] k13 fun k14 r13 => ∃ b15, some (Value.bool b15) = some r13 ∧
 (b15 = true →
 (∀ k15, Up k14 k15 → CallsG Tryz.prog 62 #[Value.agg cs7, Value.int .i64 n4] k15 fun k16 r15 => ∃ cs16, Seg 3 cs16 ∧ some (Value.agg cs16) = some r15 ∧
 ∀ k17, Up k16 k17 → CallsG Tryz.prog 63 #[Value.agg cs8, Value.int .i64 n4] k17 fun k18 r17 => ∃ cs17, Seg 3 cs17 ∧ some (Value.agg cs17) = some r17 ∧
 ∀ k19, Up k18 k19 → CallsG Tryz.prog 19 #[Value.agg cs16, Value.agg cs17] k19 fun k20 r19 => ∃ b18, some (Value.bool b18) = some r19 ∧
 (b18 = true →
 (∀ k21, Up k20 k21 → CallsG Tryz.prog 64 #[Value.agg cs7, Value.int .i64 n4] k21 fun k22 r21 => ∃ cs19, Seg 3 cs19 ∧ some (Value.agg cs19) = some r21 ∧
 ∀ k23, Up k22 k23 → CallsG Tryz.prog 65 #[Value.agg cs8, Value.int .i64 n4] k23 fun k24 r23 => ∃ cs20, Seg 3 cs20 ∧ some (Value.agg cs20) = some r23 ∧
 ∀ k25, Up k24 k25 → CallsG Tryz.prog 19 #[Value.agg cs19, Value.agg cs20] k25 fun k26 r25 => ∃ b21, some (Value.bool b21) = some r25 ∧
 ∀ k27, Up k26 k27 → R k27 (Value.bool b21))) ∧
 (b18 = false →
 (∀ k28, Up k20 k28 → R k28 (Value.bool false))))) ∧
 (b15 = false →
 (∀ k29, Up k14 k29 → R k29 (Value.bool false))))) ∧
 (((n11 : Int) == n14) = false →
 (∀ k30, Up k12 k30 → R k30 (Value.bool false)))))) :
    CallsG Tryz.prog 5 #[Value.agg #[Value.int .i64 n0, Value.int .i64 n1], Value.agg #[Value.int .i64 n2, Value.int .i64 n3], Value.int .i64 n4, Value.int .u8 n5] k R :=
  execFn_use (cfg := { opq := [30, 34] }) (args := [.agg [.var 0, .var 1], .agg [.var 2, .var 3], .one (.var 4), .one (.var 5)]) (vals := [Value.int .i64 n0, Value.int .i64 n1, Value.int .i64 n2, Value.int .i64 n3, Value.int .i64 n4, Value.int .u8 n5]) (kinds := [.int .i64, .int .i64, .int .i64, .int .i64, .int .i64, .int .u8]) (by kernel_rfl) ⟨⟨_, rfl⟩, ⟨⟨_, rfl⟩, ⟨⟨_, rfl⟩, ⟨⟨_, rfl⟩, ⟨⟨_, rfl⟩, ⟨⟨_, rfl⟩, trivial⟩⟩⟩⟩⟩⟩ (by kernel_rfl) (by kernel_rfl) h
end Go.Proofs.YtpjakokgmgggiaaGreat

/- Floors and rounded fractions of the program. (Printed by gen/floorz.py.) -/
namespace Go.Proofs.YtpjakokgmgggiaaGreat
open Go.RowKit Num
open Sy (Up Sees CallsG Seg)
section
variable {k k' : World} {A A' : Option Addr} {n n' c c' a b : Nat} {cs cs' : Array Value} {bz : Bool} {R : World → Value → Prop} {x y q : Rat} {z : Int} {K L : Nat}
theorem left_s {s : Nat} (h : LimR k A n c a) (hn : n ≤ 17179869184) (hs : s ≤ 17179869184)
   (K : ∀ k' B j d, Up k k' → LimR k' B j d (a * 2 ^ s) → j ≤ n + s → R k' (.slice B j d)) : ∀ k0, Up k k0 → CallsG Tryz.prog 157 #[.slice A n c, .int .i64 (s : Int)] k0 R :=
 after (fun _k0 u => natF fun _w hs' => left_r ((h.up u).sees hs') hn hs) fun k' _v u ⟨B, j, d, e, h1, h2⟩ => e ▸ K k' B j d u h1 h2
theorem whole_s {neg : Bool} (h : LimR k A n c a) (hn : n ≤ 1152921504606846976) (hK : n ≤ K)
   (C : ∀ k' ds, Up k k' → IntV k' ds (sgn neg a) K → R k' (.agg ds)) : ∀ k0, Up k k0 → CallsG Tryz.prog 132 #[.bool neg, .slice A n c] k0 R :=
 after (fun _k0 u => intF fun _w hs => whole_r neg ((h.up u).sees hs) hn) fun k' v u hv => by
   obtain ⟨ds, rfl, hd⟩ := intV_of hv; exact C k' ds u (hd.mono hK)
theorem IntV.open (h : IntV k cs z K) : ∃ b A n c, cs = #[.bool b, .slice A n c] ∧ IntV k #[.bool b, .slice A n c] z K := by
 obtain ⟨b, A, n, c, rfl, h⟩ := h; exact ⟨b, A, n, c, rfl, b, A, n, c, rfl, h⟩
theorem RatV.open (h : RatV k cs q K) : ∃ b A n c D d e, cs = #[.bool b, .slice A n c, .slice D d e] ∧ RatV k #[.bool b, .slice A n c, .slice D d e] q K := by
 obtain ⟨b, A, n, c, D, d, e, rfl, h⟩ := h; exact ⟨b, A, n, c, D, d, e, rfl, b, A, n, c, D, d, e, rfl, h⟩
theorem bit_val {m : Nat} (hm : m < 18446744073709551616) : IntKind.wrap .u64 ((BitVec.toNat (BitVec.ofInt (IntKind.bits .u64) (Int.fdiv (m : Int) (2 ^ (min (Int.toNat (Int.tmod 0 64)) (IntKind.bits .u64)))) &&& BitVec.ofInt (IntKind.bits .u64) 1) : Nat) : Int) = ((m % 2 : Nat) : Int) := by
 have e1 : (2 : Int) ^ (min (Int.toNat (Int.tmod 0 64)) (IntKind.bits .u64)) = 1 := by decide
 have e2 : ((m : Int) % ((2 ^ IntKind.bits .u64 : Nat) : Int)).toNat = m := by rw [show 2 ^ IntKind.bits .u64 = 18446744073709551616 from rfl]; omega
 have e3 : ((1 : Int) % ((2 ^ IntKind.bits .u64 : Nat) : Int)).toNat = 1 := by decide
 rw [e1, Int.fdiv_one, BitVec.toNat_and, BitVec.toNat_ofInt, BitVec.toNat_ofInt, e2, e3, Nat.and_one_is_mod, IntKind.wrap_u64]
 omega
theorem wq_even (a : Nat) : wq a 0 % 2 = a % 2 := by unfold wq wd; rw [Nat.pow_zero, Nat.div_one]; unfold B64; omega
theorem bit_s (h : LimR k A n c a) (C : ∀ k', Up k k' → R k' (.int .u64 ((a % 2 : Nat) : Int))) :
   ∀ k0, Up k k0 → CallsG Tryz.prog 155 #[.slice A n c, .int .i64 0] k0 R := by
 intro k0 u0
 replace h := h.up u0
 replace C := fun k' u => C k' (u0.trans u)
 refine bit_vc ⟨fun h0 => absurd h0 (by decide), fun _ => ⟨rfl, fun h1 => ?_, fun h1 => ?_⟩⟩
 · have hn : n = 0 := by
     have := of_decide_eq_true h1
     rw [show IntKind.wrap .i64 (Int.tdiv 0 64) = 0 from by decide] at this
     omega
   have ha : a = 0 := by rw [h.zero_iff] at hn; exact hn
   subst ha
   exact fun k1 u1 => C k1 u1
 · have hn : 0 < n := by
     have := of_decide_eq_false h1
     rw [show IntKind.wrap .i64 (Int.tdiv 0 64) = 0 from by decide] at this
     omega
   rw [show IntKind.wrap .i64 (Int.tdiv 0 64) = 0 from by decide]
   have hl := h.len
   obtain ⟨b, o, rfl, hb, hw⟩ := RW.at_ h.lr (by rw [← h.len]; exact hn)
   have h0 := hw 0 (by rw [← h.len]; exact hn)
   refine ⟨⟨b, o, rfl⟩, ⟨by decide, by omega⟩, ((wq a 0 : Nat) : Int), ⟨rfl, fun j u hu => ?_⟩, by decide, fun k2 u2 => ?_⟩
   · cases j with
     | zero =>
       have e : u = .int .u64 ((wq a 0 : Nat) : Int) := by
         have h1 : (#[Value.int .u64 ((wq a 0 : Nat) : Int)] : Array Value)[0]? = some u := hu
         simpa using h1.symm
       subst e
       show Sy.cellAt _ _ _ = _
       unfold Sy.cellAt
       have e2 : o + (Int.toNat 0 * 1 + 0 + 0) = o + 0 := by simp
       simp only [e2, h0]
       rfl
     | succ j =>
       have h1 : (#[Value.int .u64 ((wq a 0 : Nat) : Int)] : Array Value)[j + 1]? = some u := hu
       simp at h1
   · have := C k2 u2
     rw [bit_val (show wq a 0 < 18446744073709551616 from Nat.mod_lt _ (by decide))]
     rw [wq_even]
     exact this
theorem ifloor_s {d : Nat} (hx : IntV k #[.bool bz, .slice A n c] z K) (h : LimR k A' n' c' d) (hd : 0 < d) (hK : K ≤ 1000000) (hn : n' ≤ 1000000) (C : ∀ k' ds, Up k k' → IntV k' ds (z / (d : Int)) (K + 1) → R k' (.agg ds)) :
   ∀ k0, Up k k0 → CallsG Tryz.prog 158 #[.agg #[.bool bz, .slice A n c], .slice A' n' c'] k0 R := by
 intro k0 u0
 replace C := fun k' ds u => C k' ds (u0.trans u)
 obtain ⟨b', A2, n2, c2, e0, hx, hnK⟩ := hx.up u0
 injection e0 with e0
 injection e0 with e1 e0
 injection e1 with e1
 injection e0 with e2 e0
 injection e2 with e2 e3 e4
 subst e1 e2 e3 e4
 have hb := hx.neg
 refine xifloor_vc (divide_s hx.lim (h.up u0) hd (by omega) (by omega) fun k1 A3 l3 c3 A4 l4 c4 u1 hq hr lq lr => ⟨A3, l3, c3, A4, l4, c4, rfl, fun hneg => ⟨rfl, fun hrem => ?_, fun hrem => ?_⟩, fun hneg => ?_⟩)
 · have hz : z < 0 := of_decide_eq_true (hb.symm.trans hneg)
   have hr0 : z.natAbs % d ≠ 0 := fun e => by
     have h1 := hr.zero_iff.2 e
     have := of_decide_eq_true hrem
     omega
   refine word_s (x := 1) (by decide) fun k3 A5 l5 c5 u3 h5 hl5 => ⟨A5, l5, c5, rfl, ?_⟩
   refine plus_s (L := K + 1) (hq.up u3) h5 (by omega) (by omega) (by omega) fun k5 A6 l6 c6 u5 h6 hl6 => ⟨A6, l6, c6, rfl, ?_⟩
   have hl6' : l6 ≤ K + 1 := by
     rw [h6.len]
     have h7 : z.natAbs / d + 1 ≤ z.natAbs := by
       have := Nat.div_add_mod z.natAbs d
       have h8 := Nat.le_mul_of_pos_left (z.natAbs / d) hd
       omega
     have := nw_mono h7
     rw [← hx.lim.len] at this
     omega
   rw [hneg]
   refine whole_s h6 (by omega) hl6' fun k7 ds u7 h7 => ?_
   obtain ⟨b7, A8, l8, c8, rfl, h7⟩ := h7.open
   refine ⟨b7, A8, l8, c8, rfl, fun k8 u8 => C k8 _ ((((u1.trans u3).trans u5).trans u7).trans u8) ?_⟩
   rw [floor_below z hd hz hr0] at h7
   exact h7.up u8
 · have hz : z < 0 := of_decide_eq_true (hb.symm.trans hneg)
   have hr0 : z.natAbs % d = 0 := by
     have := of_decide_eq_false hrem
     exact hr.zero_iff.1 (by omega)
   refine whole_s hq (by omega) (K := K + 1) (by omega) fun k7 ds u7 h7 => ?_
   obtain ⟨b7, A8, l8, c8, rfl, h7⟩ := h7.open
   refine ⟨b7, A8, l8, c8, rfl, fun k8 u8 => C k8 _ ((u1.trans u7).trans u8) ?_⟩
   rw [hb, floor_exact z hd (.inr hr0)] at h7
   exact h7.up u8
 · have hz : ¬ z < 0 := of_decide_eq_false (hb.symm.trans hneg)
   refine whole_s hq (by omega) (K := K + 1) (by omega) fun k7 ds u7 h7 => ?_
   obtain ⟨b7, A8, l8, c8, rfl, h7⟩ := h7.open
   refine ⟨b7, A8, l8, c8, rfl, fun k8 u8 => C k8 _ ((u1.trans u7).trans u8) ?_⟩
   rw [hb, floor_exact z hd (.inl (by omega))] at h7
   exact h7.up u8
theorem QFloor_s {m : Int} (hx : RatV k cs q K) (hK1 : 1 ≤ K) (hK : K ≤ 100000) (C : ∀ k' ds, Up k k' → RatV k' ds (floorK q (clampK m)) (K + 1001) → R k' (.agg ds)) :
   ∀ k0, Up k k0 → CallsG Tryz.prog 62 #[.agg cs, .int .i64 m] k0 R := by
 intro k0 u0
 replace C := fun k' ds u => C k' ds (u0.trans u)
 obtain ⟨b0, A1, l1, c1, A2, l2, c2, rfl, hr, e1, e2⟩ := hx.up u0
 have hc := clampK_le m
 refine xFloor_vc ?_
 rw [clampK_eq]
 generalize clampK m = s at hc C
 have h1 := hr.num.lim
 have hneg := hr.num.neg
 refine left_s h1 (by omega) (by omega) fun k1 A4 l4 c4 u1 h4 hl4 => ⟨A4, l4, c4, rfl, ?_⟩
 refine whole_s (K := K + 1000) h4 (by omega) (by omega) fun k3 d3 u3 h3 => ?_
 obtain ⟨b5, A6, l6, c6, rfl, h3⟩ := h3.open
 refine ⟨b5, A6, l6, c6, rfl, ?_⟩
 refine under_s (L := K) ((hr.den.up u1).up u3) q.den_pos e2 hK1 (by omega) fun k5 A7 l7 c7 u5 h7 hl7 => ⟨A7, l7, c7, rfl, ?_⟩
 refine ifloor_s (h3.up u5) h7 q.den_pos (by omega) (by omega) fun k7 d7 u7 h8 => ?_
 obtain ⟨b8, A9, l9, c9, rfl, h8⟩ := h8.open
 refine ⟨b8, A9, l9, c9, rfl, ?_⟩
 refine word_s (x := 1) (by decide) fun k9 A10 l10 c10 u9 h10 hl10 => ⟨A10, l10, c10, rfl, ?_⟩
 refine left_s (h10) (by omega) (by omega) fun k11 A11 l11 c11 u11 h11 hl11 => ⟨A11, l11, c11, rfl, ?_⟩
 rw [Nat.one_mul] at h11
 refine over_s ((h8.up u9).up u11) h11 (Nat.pow_pos (by decide)) (by omega) (by omega) fun k13 d13 u13 h13 => ?_
 obtain ⟨b12, A13, l13, c13, A14, l14, c14, rfl, h13⟩ := h13.open
 refine ⟨b12, A13, l13, c13, A14, l14, c14, rfl, fun k14 u14 => ?_⟩
 have ez : sgn b0 (q.num.natAbs * 2 ^ s) = q.num * ((2 ^ s : Nat) : Int) := by rw [hneg]; exact sgn_mul q.num (2 ^ s)
 rw [ez] at h13
 exact C k14 _ (((((((u1.trans u3).trans u5).trans u7).trans u9).trans u11).trans u13).trans u14) (h13.up u14)
theorem QCeil_s {m : Int} (hx : RatV k cs q K) (hK1 : 1 ≤ K) (hK : K ≤ 100000) (C : ∀ k' ds, Up k k' → RatV k' ds (-floorK (-q) (clampK m)) (K + 1001) → R k' (.agg ds)) :
   ∀ k0, Up k k0 → CallsG Tryz.prog 64 #[.agg cs, .int .i64 m] k0 R := by
 intro k0 u0
 refine xCeil_vc hx.seg (QNeg_s (hx.up u0) (by omega) fun k1 d1 u1 h1 => ⟨d1, h1.seg, rfl, ?_⟩)
 refine QFloor_s h1 hK1 hK fun k3 d3 u3 h3 => ⟨d3, h3.seg, rfl, ?_⟩
 exact QNeg_s h3 (by omega) fun k5 d5 u5 h5 => ⟨d5, h5.seg, rfl, fun k6 u6 => C k6 _ ((((u0.trans u1).trans u3).trans u5).trans u6) (h5.up u6)⟩
theorem RatV.half (h : IntV k cs 1 1) {D : Option Addr} {d e : Nat} (l : LimR k D d e 2) (hd : d ≤ 1) : ∃ b A n c, cs = #[.bool b, .slice A n c] ∧ RatV k #[.bool b, .slice A n c, .slice D d e] (mkRat 1 2) 1 := by
 obtain ⟨b, A, n, c, rfl, hi, hn⟩ := h
 have e1 : (mkRat 1 2).num = 1 := by decide +kernel
 have e2 : (mkRat 1 2).den = 2 := by decide +kernel
 exact ⟨b, A, n, c, rfl, b, A, n, c, D, d, e, rfl, ⟨by rw [e1]; exact hi, by rw [e2, if_neg (by decide)]; exact l⟩, hn, hd⟩
set_option maxHeartbeats 1000000 in
theorem QRound_s (hx : RatV k cs x K) (hy : RatV k cs' y K) (hK1 : 1 ≤ K) (hK : K ≤ 10000) (C : ∀ k' ds, Up k k' → RatV k' ds (roundV x y) (8 * K + 4007) → R k' (.tuple #[.agg ds, .int .i64 (if y.num.sign ≤ 0 then 1 else 0)])) :
   ∀ k0, Up k k0 → CallsG Tryz.prog 60 #[.agg cs, .agg cs'] k0 R := by
 intro k0 u0
 replace C := fun k' ds u => C k' ds (u0.trans u)
 replace hx := hx.up u0
 replace hy := hy.up u0
 clear u0
 obtain ⟨bx, Ax, lx, cx, Dx, mx, ex, rfl, hx⟩ := hx.open
 obtain ⟨by_, Ay, ly, cy, Dy, my, ey, rfl, hy⟩ := hy.open
 refine xRound_vc (QSign_s hy (by omega) fun k1 u1 => ⟨_, rfl, fun hs => ?_, fun hs => ?_⟩)
 · have hs := of_decide_eq_true hs
   unfold roundV at C
   rw [if_pos hs, if_pos hs] at C
   exact fun k2 u2 => C k2 _ (u1.trans u2) ⟨false, none, 0, 0, none, 0, 0, rfl, ⟨⟨rfl, LimR.nil⟩, LimR.nil⟩, Nat.zero_le _, Nat.zero_le _⟩
 · have hs := of_decide_eq_false hs
   unfold roundV at C
   rw [if_neg hs, if_neg hs] at C
   clear hs
   replace hx := hx.up u1
   replace hy := hy.up u1
   replace C := fun k' ds u => C k' ds (u1.trans u)
   clear u1
   refine QDiv_s hx hy hK1 (by omega) fun k2 d2 u2 hq => ?_
   obtain ⟨b2, A2, l2, c2, D2, m2, e2, rfl, hq⟩ := hq.open
   refine ⟨b2, A2, l2, c2, D2, m2, e2, _, rfl, ?_⟩
   replace hy := hy.up u2
   replace C := fun k' ds u => C k' ds (u2.trans u)
   clear u2
   clear hx
   refine QFloor_s (m := 0) hq (by omega) (by omega) fun k3 d3 u3 hn => ?_
   obtain ⟨b3, A3, l3, c3, D3, m3, e3, rfl, hn⟩ := hn.open
   refine ⟨b3, A3, l3, c3, D3, m3, e3, rfl, ?_⟩
   replace hy := hy.up u3
   replace hq := hq.up u3
   replace C := fun k' ds u => C k' ds (u3.trans u)
   clear u3
   rw [show clampK 0 = 0 from rfl, floorK_zero] at hn
   unfold roundQ at C
   generalize x / y = v at hq hn C
   refine of_s (z := 1) (by decide) (by decide) fun k4 d4 u4 ho => ?_
   have ho2 := ho
   obtain ⟨b4, A4, l4, c4, rfl, ho⟩ := ho.open
   refine ⟨b4, A4, l4, c4, rfl, ?_⟩
   replace hy := hy.up u4
   replace hq := hq.up u4
   replace hn := hn.up u4
   replace C := fun k' ds u => C k' ds (u4.trans u)
   clear u4
   refine word_s (x := 2) (by decide) fun k5 D5 m5 e5 u5 hw lw => ⟨D5, m5, e5, rfl, ?_⟩
   replace hy := hy.up u5
   replace hq := hq.up u5
   replace hn := hn.up u5
   replace ho := ho.up u5
   replace C := fun k' ds u => C k' ds (u5.trans u)
   clear u5
   obtain ⟨b_, A_, l_, c_, eh, hh⟩ := RatV.half ho hw lw
   injection eh with eh
   injection eh with eh1 eh
   injection eh1 with eh1
   injection eh with eh2 eh
   injection eh2 with eh2 eh3 eh4
   subst eh1 eh2 eh3 eh4
   clear ho
   refine QSub_s (K := 2 * K + 1001) (hq.mono (by omega)) (hn.mono (by omega)) (by omega) (by omega) fun k6 d6 u6 hd => ?_
   obtain ⟨b6, A6, l6, c6, D6, m6, e6, rfl, hd⟩ := hd.open
   refine ⟨b6, A6, l6, c6, D6, m6, e6, rfl, ?_⟩
   clear hq
   replace hy := hy.up u6
   replace hn := hn.up u6
   replace hh := hh.up u6
   replace C := fun k' ds u => C k' ds (u6.trans u)
   clear u6
   refine QCmp_s (K := 4 * K + 2003) (hd.mono (by omega)) (hh.mono (by omega)) (by omega) (by omega) fun k7 u7 => ⟨_, rfl, fun hc => ?_, fun hc => ?_⟩
   · replace hy := hy.up u7
     replace hn := hn.up u7
     replace C := fun k' ds u => C k' ds (u7.trans u)
     clear u7
     rw [if_pos (show rup v = true from by unfold rup rcmp; rw [hc]; rfl)] at C
     refine QInt_s (z := 1) (by decide) (by decide) fun k8 d8 u8 h1 => ?_
     obtain ⟨b8, A8, l8, c8, D8, m8, e8, rfl, h1⟩ := h1.open
     refine ⟨b8, A8, l8, c8, D8, m8, e8, rfl, ?_⟩
     replace hy := hy.up u8
     replace hn := hn.up u8
     replace C := fun k' ds u => C k' ds (u8.trans u)
     clear u8
     refine QAdd_s (K := 2 * K + 1001) hn (h1.mono (by omega)) (by omega) (by omega) fun k9 d9 u9 h2 => ?_
     obtain ⟨b9, A9, l9, c9, D9, m9, e9, rfl, h2⟩ := h2.open
     refine ⟨b9, A9, l9, c9, D9, m9, e9, rfl, ?_⟩
     clear hn h1
     replace hy := hy.up u9
     replace C := fun k' ds u => C k' ds (u9.trans u)
     clear u9
     refine QMul_s (K := 4 * K + 2003) (h2.mono (by omega)) (hy.mono (by omega)) (by omega) (by omega) fun k10 d10 u10 h3 => ?_
     obtain ⟨b10, A10, l10, c10, D10, m10, e10, rfl, h3⟩ := h3.open
     exact ⟨b10, A10, l10, c10, D10, m10, e10, rfl, fun k' u => C k' _ (u10.trans u) ((h3.up u).mono (by omega))⟩
   · refine ⟨fun hc2 => ?_, fun hc2 => ?_⟩
     · replace hy := hy.up u7
       replace hn := hn.up u7
       replace C := fun k' ds u => C k' ds (u7.trans u)
       clear u7
       obtain ⟨b_, A_, l_, c_, D_, m_, e_, e0, hr, k1, k2⟩ := id hn
       injection e0 with e0
       injection e0 with e1 e0
       injection e1 with e1
       injection e0 with e2 e0
       injection e2 with e2 e3 e4
       injection e0 with e5 e0
       injection e5 with e5 e6 e7
       subst e1 e2 e3 e4 e5 e6 e7
       have hl := hr.num.lim
       rw [Rat.num_intCast] at hl
       have hpar : (((flr v).natAbs % 2 : Nat) : Int) = 1 ↔ flr v % 2 = 1 := by omega
       refine bit_s hl fun k8 u8 => ⟨_, rfl, fun hb => ?_, fun hb => ?_⟩
       · replace hy := hy.up u8
         replace hn := hn.up u8
         replace C := fun k' ds u => C k' ds (u8.trans u)
         clear u8
         rw [if_pos (show rup v = true from by unfold rup rcmp; rw [decide_eq_true (eq_of_beq hc2), decide_eq_true (hpar.1 (eq_of_beq hb))]; simp)] at C
         refine QInt_s (z := 1) (by decide) (by decide) fun k9 d9 u9 h1 => ?_
         obtain ⟨b9, A9, l9, c9, D9, m9, e9, rfl, h1⟩ := h1.open
         refine ⟨b9, A9, l9, c9, D9, m9, e9, rfl, ?_⟩
         replace hy := hy.up u9
         replace hn := hn.up u9
         replace C := fun k' ds u => C k' ds (u9.trans u)
         clear u9
         refine QAdd_s (K := 2 * K + 1001) hn (h1.mono (by omega)) (by omega) (by omega) fun k10 d10 u10 h2 => ?_
         obtain ⟨b10, A10, l10, c10, D10, m10, e10, rfl, h2⟩ := h2.open
         refine ⟨b10, A10, l10, c10, D10, m10, e10, rfl, ?_⟩
         clear hn h1
         replace hy := hy.up u10
         replace C := fun k' ds u => C k' ds (u10.trans u)
         clear u10
         refine QMul_s (K := 4 * K + 2003) (h2.mono (by omega)) (hy.mono (by omega)) (by omega) (by omega) fun k11 d11 u11 h3 => ?_
         obtain ⟨b11, A11, l11, c11, D11, m11, e11, rfl, h3⟩ := h3.open
         exact ⟨b11, A11, l11, c11, D11, m11, e11, rfl, fun k' u => C k' _ (u11.trans u) ((h3.up u).mono (by omega))⟩
       · replace hy := hy.up u8
         replace hn := hn.up u8
         replace C := fun k' ds u => C k' ds (u8.trans u)
         clear u8
         rw [if_neg (show ¬ rup v = true from by unfold rup rcmp; rw [hc, decide_eq_false (show ¬ flr v % 2 = 1 from fun h => by rw [hpar.2 h] at hb; exact absurd hb (by decide))]; simp)] at C
         refine QMul_s (K := 4 * K + 2003) (hn.mono (by omega)) (hy.mono (by omega)) (by omega) (by omega) fun k9 d9 u9 h3 => ?_
         obtain ⟨b9, A9, l9, c9, D9, m9, e9, rfl, h3⟩ := h3.open
         exact ⟨b9, A9, l9, c9, D9, m9, e9, rfl, fun k' u => C k' _ (u9.trans u) ((h3.up u).mono (by omega))⟩
     · replace hy := hy.up u7
       replace hn := hn.up u7
       replace C := fun k' ds u => C k' ds (u7.trans u)
       clear u7
       rw [if_neg (show ¬ rup v = true from by unfold rup rcmp; rw [hc, decide_eq_false (fun h => by rw [h] at hc2; exact absurd hc2 (by decide))]; simp)] at C
       refine QMul_s (K := 4 * K + 2003) (hn.mono (by omega)) (hy.mono (by omega)) (by omega) (by omega) fun k8 d8 u8 h3 => ?_
       obtain ⟨b8, A8, l8, c8, D8, m8, e8, rfl, h3⟩ := h3.open
       exact ⟨b8, A8, l8, c8, D8, m8, e8, rfl, fun k' u => C k' _ (u8.trans u) ((h3.up u).mono (by omega))⟩
end
end Go.Proofs.YtpjakokgmgggiaaGreat

/- What is to be shown of the calls of some functions. (Printed by gen/vc.py.) -/
namespace Go.Proofs.YtpjakokgmgggiaaGreat
open Go.RowKit
open Sy (Up Sees CallsG Seg execFn_use)
set_option maxRecDepth 100000
variable {k : World} {R : World → Value → Prop}
theorem qBy_vc {cs0 cs1 : Array Value} (hcs0 : Seg 3 cs0) (hcs1 : Seg 3 cs1)
    (h : ∀ k0, Up k k0 → CallsG Tryz.prog 18 #[Value.agg cs0, Value.agg cs1] k0 fun k1 r0 => ∃ cs2, Seg 3 cs2 ∧ ∃ n3, some (Value.tuple #[Value.agg cs2, Value.int .i64 n3]) = some r0 ∧
 ∀ k2, Up k1 k2 → R k2 (Value.agg cs2)) :
    CallsG Tryz.prog 152 #[Value.agg cs0, Value.agg cs1] k R :=
  execFn_use (cfg := { opq := [34] }) (args := [.agg [.seg 0 3], .agg [.seg 1 3]]) (vals := [Value.agg cs0, Value.agg cs1]) (kinds := [.seg 3, .seg 3]) (by kernel_rfl) ⟨⟨cs0, rfl, hcs0⟩, ⟨⟨cs1, rfl, hcs1⟩, trivial⟩⟩ (by kernel_rfl) (by kernel_rfl) h
end Go.Proofs.YtpjakokgmgggiaaGreat

/- Floors and rounded fractions of the reference. (Printed by gen/floorz.py.) -/
namespace Go.Proofs.YtpjakokgmgggiaaGreat.W32
open Go.RowKit Num
open Sy (Up Sees CallsG Seg)
section
variable {k k' : World} {cs cs' : Array Value} {R : World → Value → Prop} {x y q q' : Rat} {K L : Nat} {b : Bool} {A A' : Option Addr} {l c l' c' : Nat}
theorem QV.mk1 (h : QN k b A l c A' l' c' q) (h1 : l ≤ K) (h2 : l' ≤ K) : QV k #[.bool b, .slice A l c, .slice A' l' c'] q K := ⟨b, A, l, c, A', l', c', rfl, h, h1, h2⟩
theorem QV.same (h : QV k cs q K) (e : q = q') : QV k cs q' K := e ▸ h
theorem by_f (hx : QV k cs x K) (hy : QV k cs' y L) (hK1 : 1 ≤ K) (hL1 : 1 ≤ L) (hK : K + L ≤ 10000000000) (C : ∀ k' ds, Up k k' → QV k' ds (x / y) (K + L) → R k' (.agg ds)) :
   ∀ k0, Up k k0 → CallsG Tryz.prog 152 #[.agg cs, .agg cs'] k0 R :=
 fun _ u0 => qBy_vc hx.seg hy.seg (div_v (hx.up u0) (hy.up u0) hK1 hL1 hK fun _k1 ds u1 hD => ⟨ds, hD.seg, _, rfl, fun k2 u2 => C k2 ds ((u0.trans u1).trans u2) (hD.up u2)⟩)
theorem floor_v (hx : QV k cs x K) (hK1 : 1 ≤ K) (hK : K ≤ 1000000) (C : ∀ k' ds, Up k k' → QV k' ds ((flr x : Int) : Rat) (K + 1) → R k' (.agg ds)) :
   ∀ k0, Up k k0 → CallsG Tryz.prog 156 #[.agg cs] k0 R := by
 intro k0 u0
 obtain ⟨b0, A1, l1, c1, A2, l2, c2, rfl, hx, e1, e2⟩ := hx.up u0
 replace C := fun k' ds u => C k' ds (u0.trans u)
 have hd := x.den_pos
 have hs := hx.s
 have dl := hx.d.2
 refine rfloor_vc (under_s hx fun k1 A3 c3 u1 hD => ⟨A3, _, c3, rfl, ?_⟩)
 refine quotient_s (hx.n.up u1) hD (by omega) (by omega) hd fun k3 A4 c4 A5 c5 u3 hq hr => ⟨A4, _, c4, A5, _, c5, rfl, fun hneg => ⟨rfl, fun hrem => ?_, fun hrem => ?_⟩, fun hneg => ?_⟩
 · have hz : x.num < 0 := of_decide_eq_true (hs.symm.trans hneg)
   have hr0 : x.num.natAbs % x.den ≠ 0 := fun e => by
     have := of_decide_eq_true hrem
     rw [e, nw_zero] at this
     omega
   have hq1 := nw_mono (Nat.div_le_self x.num.natAbs x.den)
   have hn := hx.n.2
   intro p k4 u4 hp k5 u5
   refine sum_s (k := k5) (K := K) (hq.1.up (u4.trans u5)) ((one_of hp).1.up u5) (by omega) (by omega) (by omega) (fun k6 A7 c7 u6 hS hSl => ⟨A7, _, c7, rfl, ?_⟩) k5 (Up.refl k5)
   intro p8 k7 u7 hp8 k8 u8
   refine frac_b (k := k8) (K := K + 1) ((hS.up u7).up u8) ((one_of hp8).up u8) (by decide) (by omega) (by omega) (by omega) (q := ((flr x : Int) : Rat)) ?_ (fun k9 b A l c A' l' c' u9 hQ f1 f2 => ⟨_, _, _, _, _, _, _, rfl, fun k10 u10 => C k10 _ (((((((u1.trans u3).trans u4).trans u5).trans u6).trans u7).trans (u8.trans u9)).trans u10) (QV.mk1 (hQ.up u10) f1 f2)⟩) k8 (Up.refl k8)
   rw [hneg, floor_below x.num hd hz hr0, Rat.mkRat_one]
   rfl
 · have hr0 : x.num.natAbs % x.den = 0 := by
     have := of_decide_eq_false hrem
     exact nw_zero_iff.1 (by omega)
   have hq1 := nw_mono (Nat.div_le_self x.num.natAbs x.den)
   have hn := hx.n.2
   intro p k4 u4 hp k5 u5
   refine frac_b (k := k5) (K := K + 1) ((hq.up u4).up u5) ((one_of hp).up u5) (by decide) (by omega) (by omega) (by omega) (q := ((flr x : Int) : Rat)) ?_ (fun k9 b A l c A' l' c' u9 hQ f1 f2 => ⟨_, _, _, _, _, _, _, rfl, fun k10 u10 => C k10 _ ((((u1.trans u3).trans u4).trans (u5.trans u9)).trans u10) (QV.mk1 (hQ.up u10) f1 f2)⟩) k5 (Up.refl k5)
   rw [hs, floor_exact x.num hd (.inr hr0), Rat.mkRat_one]
   rfl
 · have hz : ¬ x.num < 0 := of_decide_eq_false (hs.symm.trans hneg)
   have hq1 := nw_mono (Nat.div_le_self x.num.natAbs x.den)
   have hn := hx.n.2
   intro p k4 u4 hp k5 u5
   refine frac_b (k := k5) (K := K + 1) ((hq.up u4).up u5) ((one_of hp).up u5) (by decide) (by omega) (by omega) (by omega) (q := ((flr x : Int) : Rat)) ?_ (fun k9 b A l c A' l' c' u9 hQ f1 f2 => ⟨_, _, _, _, _, _, _, rfl, fun k10 u10 => C k10 _ ((((u1.trans u3).trans u4).trans (u5.trans u9)).trans u10) (QV.mk1 (hQ.up u10) f1 f2)⟩) k5 (Up.refl k5)
   rw [hs, floor_exact x.num hd (.inl (by omega)), Rat.mkRat_one]
   rfl
theorem nw_pow (s : Nat) : nw (1 * 2 ^ s) ≤ s + 1 := by
 refine nw_le_of ?_
 rw [Nat.one_mul, B_eq, ← Nat.pow_mul]
 exact Nat.pow_lt_pow_right (by decide) (by omega)
theorem unit_v {s : Nat} (hs : s ≤ 1000) (C : ∀ k' ds, Up k k' → QV k' ds (((2 ^ s : Nat) : Int) : Rat) 1001 → R k' (.agg ds)) :
   ∀ k0, Up k k0 → CallsG Tryz.prog 159 #[.int .i64 (s : Int)] k0 R := by
 intro k0 u0
 have hp2 := nw_pow s
 refine runit_vc ?_
 intro p1 k1 u1 hp k2 u2
 refine raised_s (k := k2) (s := s) ((one_of hp).up u2) (by decide) (by omega) (fun k3 A2 c2 u3 h3 => ⟨A2, _, c2, rfl, ?_⟩) k2 (Up.refl k2)
 intro p3 k4 u4 hp3 k5 u5
 refine frac_b (k := k5) (K := 1001) ((h3.up u4).up u5) ((one_of hp3).up u5) (by decide) (by omega) (by omega) (by omega) (q := (((2 ^ s : Nat) : Int) : Rat)) ?_ (fun k9 b A l c A' l' c' u9 hQ f1 f2 => ⟨_, _, _, _, _, _, _, rfl, fun k10 u10 => C k10 _ (((((u0.trans u1).trans u2).trans (u3.trans u4)).trans (u5.trans u9)).trans u10) (QV.mk1 (hQ.up u10) f1 f2)⟩) k5 (Up.refl k5)
 rw [Rat.mkRat_one, Nat.one_mul]
 rfl
theorem rFloor_v {m : Int} (hx : QV k cs x K) (hK1 : 1 ≤ K) (hK : K ≤ 100000) (C : ∀ k' ds, Up k k' → QV k' ds (floorK x (clampK m)) (K + 2003) → R k' (.agg ds)) :
   ∀ k0, Up k k0 → CallsG Tryz.prog 63 #[.agg cs, .int .i64 m] k0 R := by
 intro k0 u0
 have hc := clampK_le m
 refine rFloor_vc hx.seg ?_
 rw [clampK_eq]
 generalize clampK m = s at hc C
 refine unit_v hc fun k1 d1 u1 h1 => ⟨d1, h1.seg, rfl, ?_⟩
 refine mul_v ((hx.up u0).up u1) h1 (by omega) fun k3 d3 u3 h3 => ⟨d3, h3.seg, rfl, ?_⟩
 refine floor_v h3 (by omega) (by omega) fun k5 d5 u5 h5 => ⟨d5, h5.seg, rfl, ?_⟩
 refine by_f h5 ((h1.up u3).up u5) (by omega) (by omega) (by omega) fun k7 d7 u7 h7 => ⟨d7, h7.seg, rfl, fun k8 u8 => ?_⟩
 rw [flr_mul] at h7
 refine C k8 _ (((((u0.trans u1).trans u3).trans u5).trans u7).trans u8) (QV.same ((h7.up u8).mono (by omega)) ?_)
 unfold floorK
 rw [mkRat_by]
theorem rCeil_v {m : Int} (hx : QV k cs x K) (hK1 : 1 ≤ K) (hK : K ≤ 100000) (C : ∀ k' ds, Up k k' → QV k' ds (-floorK (-x) (clampK m)) (K + 2003) → R k' (.agg ds)) :
   ∀ k0, Up k k0 → CallsG Tryz.prog 65 #[.agg cs, .int .i64 m] k0 R := by
 intro k0 u0
 refine rCeil_vc hx.seg (neg_v (hx.up u0) (by omega) fun k1 d1 u1 h1 => ⟨d1, h1.seg, rfl, ?_⟩)
 refine rFloor_v h1 hK1 hK fun k3 d3 u3 h3 => ⟨d3, h3.seg, rfl, ?_⟩
 exact neg_v h3 (by omega) fun k5 d5 u5 h5 => ⟨d5, h5.seg, rfl, fun k6 u6 => C k6 _ ((((u0.trans u1).trans u3).trans u5).trans u6) (h5.up u6)⟩
theorem odd_of {n : Int} (h : (!decide ((n : Rat) / ((2 : Int) : Rat) = ((flr ((n : Rat) / ((2 : Int) : Rat)) : Int) : Rat))) = true) : n % 2 = 1 := by
 have h1 : ¬ ((n : Rat) / 2 = (flr ((n : Rat) / 2) : Rat)) := fun e => by
   have e2 : (n : Rat) / ((2 : Int) : Rat) = ((flr ((n : Rat) / ((2 : Int) : Rat)) : Int) : Rat) := e
   rw [decide_eq_true e2] at h
   cases h
 rw [odd_half] at h1
 omega
theorem even_of {n : Int} (h : (!decide ((n : Rat) / ((2 : Int) : Rat) = ((flr ((n : Rat) / ((2 : Int) : Rat)) : Int) : Rat))) = false) : ¬ n % 2 = 1 := by
 have h1 : (n : Rat) / 2 = (flr ((n : Rat) / 2) : Rat) := Classical.byContradiction fun e => by
   have e2 : ¬ (n : Rat) / ((2 : Int) : Rat) = ((flr ((n : Rat) / ((2 : Int) : Rat)) : Int) : Rat) := e
   rw [decide_eq_false e2] at h
   cases h
 rw [odd_half] at h1
 omega
set_option maxHeartbeats 1000000 in
theorem rRound_v (hx : QV k cs x K) (hy : QV k cs' y K) (hK1 : 1 ≤ K) (hK : K ≤ 10000) (C : ∀ k' ds, Up k k' → QV k' ds (roundV x y) (8 * K + 8007) → R k' (.tuple #[.agg ds, .int .i64 (if y.num.sign ≤ 0 then 1 else 0)])) :
   ∀ k0, Up k k0 → CallsG Tryz.prog 61 #[.agg cs, .agg cs'] k0 R := by
 intro k0 u0
 replace C := fun k' ds u => C k' ds (u0.trans u)
 replace hx := hx.up u0
 replace hy := hy.up u0
 clear u0
 refine rRound_vc hx.seg hy.seg (sign_v hy fun k1 u1 => ⟨_, rfl, fun hs => ?_, fun hs => ?_⟩)
 · have hs := of_decide_eq_true hs
   unfold roundV at C
   rw [if_pos hs, if_pos hs] at C
   exact whole_v (z := 0) (by decide) (by decide) fun k3 d3 u3 h3 => ⟨d3, h3.seg, rfl, fun k4 u4 => C k4 _ ((u1.trans u3).trans u4) ((h3.up u4).mono (by omega))⟩
 · have hs := of_decide_eq_false hs
   unfold roundV at C
   rw [if_neg hs, if_neg hs] at C
   clear hs
   replace hx := hx.up u1
   replace hy := hy.up u1
   replace C := fun k' ds u => C k' ds (u1.trans u)
   clear u1
   refine by_f hx hy hK1 hK1 (by omega) fun k2 d2 u2 hq => ⟨d2, hq.seg, rfl, ?_⟩
   clear hx
   replace hy := hy.up u2
   replace C := fun k' ds u => C k' ds (u2.trans u)
   clear u2
   refine floor_v hq (by omega) (by omega) fun k3 d3 u3 hn => ⟨d3, hn.seg, rfl, ?_⟩
   replace hy := hy.up u3
   replace hq := hq.up u3
   replace C := fun k' ds u => C k' ds (u3.trans u)
   clear u3
   unfold roundQ at C
   generalize x / y = v at hq hn C
   refine whole_v (z := 2) (by decide) (by decide) fun k4 d4 u4 h2 => ⟨d4, h2.seg, rfl, ?_⟩
   replace hy := hy.up u4
   replace hq := hq.up u4
   replace hn := hn.up u4
   replace C := fun k' ds u => C k' ds (u4.trans u)
   clear u4
   refine sub_v hq hn (by omega) fun k5 d5 u5 hd => ⟨d5, hd.seg, rfl, ?_⟩
   clear hq
   replace hy := hy.up u5
   replace hn := hn.up u5
   replace h2 := h2.up u5
   replace C := fun k' ds u => C k' ds (u5.trans u)
   clear u5
   refine mul_v h2 hd (by omega) fun k6 d6 u6 ht => ⟨d6, ht.seg, rfl, ?_⟩
   clear h2 hd
   replace hy := hy.up u6
   replace hn := hn.up u6
   replace C := fun k' ds u => C k' ds (u6.trans u)
   clear u6
   refine whole_v (z := 1) (by decide) (by decide) fun k7 d7 u7 h1 => ⟨d7, h1.seg, rfl, ?_⟩
   replace hy := hy.up u7
   replace hn := hn.up u7
   replace ht := ht.up u7
   replace C := fun k' ds u => C k' ds (u7.trans u)
   clear u7
   refine cmp_v ht h1 (by omega) fun k8 u8 => ⟨_, rfl, ?_⟩
   have ec : (((2 : Int) : Rat) * (v - ((flr v : Int) : Rat)) - ((1 : Int) : Rat)).num.sign = rcmp v := sign_double _
   rw [ec]
   clear ht h1
   clear ec
   replace hy := hy.up u8
   replace hn := hn.up u8
   replace C := fun k' ds u => C k' ds (u8.trans u)
   clear u8
   refine whole_v (z := 2) (by decide) (by decide) fun k9 d9 u9 h2 => ⟨d9, h2.seg, rfl, ?_⟩
   replace hy := hy.up u9
   replace hn := hn.up u9
   replace C := fun k' ds u => C k' ds (u9.trans u)
   clear u9
   refine by_f hn h2 (by omega) (by decide) (by omega) fun k10 d10 u10 hh => ⟨d10, hh.seg, rfl, fun hc => ?_, fun hc => ?_⟩
   · replace hy := hy.up u10
     replace hn := hn.up u10
     replace C := fun k' ds u => C k' ds (u10.trans u)
     clear u10
     rw [if_pos (show rup v = true from by unfold rup; rw [hc]; rfl)] at C
     refine whole_v (z := 1) (by decide) (by decide) fun k11 d11 u11 h1 => ⟨d11, h1.seg, rfl, ?_⟩
     replace hy := hy.up u11
     replace hn := hn.up u11
     replace C := fun k' ds u => C k' ds (u11.trans u)
     clear u11
     refine add_v hn h1 (by omega) fun k12 d12 u12 h3 => ⟨d12, h3.seg, rfl, ?_⟩
     clear hn h1
     replace hy := hy.up u12
     replace C := fun k' ds u => C k' ds (u12.trans u)
     clear u12
     exact mul_v h3 hy (by omega) fun k13 d13 u13 h4 => ⟨d13, h4.seg, rfl, fun k' u => C k' _ (u13.trans u) ((h4.up u).mono (by omega))⟩
   · refine ⟨fun hc2 => ?_, fun hc2 => ?_⟩
     · replace hy := hy.up u10
       replace hn := hn.up u10
       replace C := fun k' ds u => C k' ds (u10.trans u)
       clear u10
       refine floor_v hh (by omega) (by omega) fun k11 d11 u11 hf => ⟨d11, hf.seg, rfl, ?_⟩
       replace hy := hy.up u11
       replace hn := hn.up u11
       replace hh := hh.up u11
       replace C := fun k' ds u => C k' ds (u11.trans u)
       clear u11
       refine same_v hh hf (by omega) fun k12 u12 => ⟨_, rfl, fun hb => ?_, fun hb => ?_⟩
       · replace hy := hy.up u12
         replace hn := hn.up u12
         replace C := fun k' ds u => C k' ds (u12.trans u)
         clear u12
         rw [if_pos (show rup v = true from by unfold rup; rw [decide_eq_true (eq_of_beq hc2), decide_eq_true (odd_of hb)]; simp)] at C
         refine whole_v (z := 1) (by decide) (by decide) fun k13 d13 u13 h1 => ⟨d13, h1.seg, rfl, ?_⟩
         replace hy := hy.up u13
         replace hn := hn.up u13
         replace C := fun k' ds u => C k' ds (u13.trans u)
         clear u13
         refine add_v hn h1 (by omega) fun k14 d14 u14 h3 => ⟨d14, h3.seg, rfl, ?_⟩
         clear hn h1
         replace hy := hy.up u14
         replace C := fun k' ds u => C k' ds (u14.trans u)
         clear u14
         exact mul_v h3 hy (by omega) fun k15 d15 u15 h4 => ⟨d15, h4.seg, rfl, fun k' u => C k' _ (u15.trans u) ((h4.up u).mono (by omega))⟩
       · replace hy := hy.up u12
         replace hn := hn.up u12
         replace C := fun k' ds u => C k' ds (u12.trans u)
         clear u12
         rw [if_neg (show ¬ rup v = true from by unfold rup; rw [hc, decide_eq_false (even_of hb)]; simp)] at C
         exact mul_v hn hy (by omega) fun k13 d13 u13 h4 => ⟨d13, h4.seg, rfl, fun k' u => C k' _ (u13.trans u) ((h4.up u).mono (by omega))⟩
     · replace hy := hy.up u10
       replace hn := hn.up u10
       replace C := fun k' ds u => C k' ds (u10.trans u)
       clear u10
       rw [if_neg (show ¬ rup v = true from by unfold rup; rw [hc, decide_eq_false (show ¬ rcmp v = 0 from fun h => by rw [h] at hc2; exact absurd hc2 (by decide))]; simp)] at C
       exact mul_v hn hy (by omega) fun k11 d11 u11 h4 => ⟨d11, h4.seg, rfl, fun k' u => C k' _ (u11.trans u) ((h4.up u).mono (by omega))⟩
end
end Go.Proofs.YtpjakokgmgggiaaGreat.W32

/- What ExactFloors computes. (Printed by gen/floorz.py.) -/
namespace Go.Proofs.YtpjakokgmgggiaaGreat
open Go.RowKit Num W32
open Sy (Up Sees CallsG Seg)
section
variable {k k' : World} {cs cs' : Array Value} {R : World → Value → Prop} {x y q : Rat} {K L : Nat}
theorem RatV.cut (h : RatV k cs q K) (h1 : q.num.natAbs < B64 ^ L) (h2 : q.den < B64 ^ L) : RatV k cs q L := by
 obtain ⟨b, A, n, c, D, d, e, rfl, hr, e1, e2⟩ := h
 refine ⟨b, A, n, c, D, d, e, rfl, hr, ?_, ?_⟩
 · rw [hr.num.lim.len]; exact nw_le_of h1
 · rw [hr.den.len]
   split
   · rw [nw_zero]; exact Nat.zero_le _
   · exact nw_le_of h2
theorem QV.cut (h : QV k cs q K) (h1 : q.num.natAbs < W32.B ^ L) (h2 : q.den < W32.B ^ L) : QV k cs q L := by
 obtain ⟨b, A, l, c, A', l', c', rfl, hr, e1, e2⟩ := h
 refine ⟨b, A, l, c, A', l', c', rfl, hr, ?_, ?_⟩
 · rw [hr.n.2]; exact W32.nw_le_of h1
 · rw [hr.d.2]; exact W32.nw_le_of h2
theorem ofQ_bounds {n d : Int} (hn : In64 n) (hd : In64 d) : (ofQ n d).num.natAbs ≤ 2 ^ 63 ∧ (ofQ n d).den ≤ 2 ^ 63 := by
 unfold In64 at hn hd
 unfold ofQ
 by_cases h : d = 0
 · rw [if_pos h, Rat.num_intCast, Rat.den_intCast]; omega
 · rw [if_neg h, ← rat_div_neg n d h, mkRat_abs _ (by omega), mkRat_dn _ (by omega), sgn_abs]
   have h1 := Nat.div_le_self n.natAbs (Nat.gcd n.natAbs d.natAbs)
   have h2 := Nat.div_le_self d.natAbs (Nat.gcd n.natAbs d.natAbs)
   omega
theorem halved_small {j : Nat} (h1 : x.num.natAbs ≤ 2 ^ 63) (h2 : x.den ≤ 2 ^ 63) (hj : j ≤ 255) : (halved x j).num.natAbs < 2 ^ 64 ∧ (halved x j).den ≤ 2 ^ 63 * 2 ^ 255 := by
 obtain ⟨e1, e2⟩ := halved_bounds x j
 refine ⟨by omega, Nat.le_trans e2 ?_⟩
 have h3 : 2 ^ j ≤ 2 ^ 255 := Nat.pow_le_pow_right (by decide) hj
 exact Nat.mul_le_mul h2 h3
theorem cut_x {j : Nat} (h : RatV k cs (halved x j) K) (h1 : x.num.natAbs ≤ 2 ^ 63) (h2 : x.den ≤ 2 ^ 63) (hj : j ≤ 255) : RatV k cs (halved x j) 5 := by
 obtain ⟨e1, e2⟩ := halved_small h1 h2 hj
 exact h.cut (Nat.lt_of_lt_of_le e1 (by decide +kernel)) (Nat.lt_of_le_of_lt e2 (by decide +kernel))
theorem cut_r {j : Nat} (h : QV k cs (halved x j) K) (h1 : x.num.natAbs ≤ 2 ^ 63) (h2 : x.den ≤ 2 ^ 63) (hj : j ≤ 255) : QV k cs (halved x j) 10 := by
 obtain ⟨e1, e2⟩ := halved_small h1 h2 hj
 exact QV.cut h (Nat.lt_of_lt_of_le e1 (by decide +kernel)) (Nat.lt_of_le_of_lt e2 (by decide +kernel))
theorem scaled_l {n d : Int} {j : Nat} (hn : In64 n) (hd : In64 d) (hj : j ≤ 255) (C : ∀ k' ds ds', Up k k' → RatV k' ds (halved (ofQ n d) j) 5 → QV k' ds' (halved (ofQ n d) j) 10 → R k' (.tuple #[.agg ds, .agg ds'])) :
   ∀ k0, Up k k0 → CallsG Tryz.prog 59 #[.agg #[.int .i64 n, .int .i64 d], .int .i64 (-(j : Int))] k0 R := by
 intro k0 u0
 replace C := fun k' ds ds' u => C k' ds ds' (u0.trans u)
 clear u0
 obtain ⟨b1, b2⟩ := ofQ_bounds hn hd
 refine scaled_vc (Of_s hn hd fun k1 d1 u1 hx => ⟨d1, hx.seg, rfl, ?_⟩)
 refine of_v hn hd fun k2 d2 u2 hp => ⟨d2, hp.seg, rfl, ?_⟩
 refine QInt_s (z := 2) (by decide) (by decide) fun k3 d3 u3 ht => ⟨d3, ht.seg, rfl, ?_⟩
 refine whole_v (z := 2) (by decide) (by decide) fun k4 d4 u4 hu => ⟨d4, hu.seg, rfl, ?_⟩
 replace hx := ((hx.up u2).up u3).up u4
 replace hp := (hp.up u3).up u4
 replace ht := ht.up u4
 replace C := fun k' ds ds' u => C k' ds ds' ((((u1.trans u2).trans u3).trans u4).trans u)
 clear u1 u2 u3 u4
 generalize ofQ n d = x at *
 refine ⟨fun m k' vs => ∃ c c', vs = [.agg c, .agg c', .int .i64 (-(j : Int))] ∧ RatV k' c x 1 ∧ QV k' c' x 2, ⟨0, fun k' u => ⟨d1, d2, rfl, hx.up u, hp.up u⟩⟩, ?_⟩
 rintro m k8 vs u8 ⟨c7, c8, rfl, hx, hp⟩
 refine ⟨c7, hx.seg, c8, hp.seg, _, rfl, fun h => ?_, fun _ => ?_⟩
 · have := of_decide_eq_true h
   omega
 replace ht := ht.up u8
 replace hu := hu.up u8
 replace C := fun k' ds ds' u => C k' ds ds' (u8.trans u)
 clear u8
 refine ⟨fun m k' vs => ∃ c c' i, i ≤ j ∧ m = j - i ∧ vs = [.agg c, .agg c', .int .i64 ((i : Int) - (j : Int))] ∧ RatV k' c (halved x i) 5 ∧ QV k' c' (halved x i) 10, ⟨j, fun k' u => ⟨c7, c8, 0, by omega, rfl, by simp, (hx.up u).mono (by decide), (hp.up u).mono (by decide)⟩⟩, ?_⟩
 rintro m k14 vs u14 ⟨c10, c11, i, hi, rfl, rfl, hx, hp⟩
 refine ⟨c10, hx.seg, c11, hp.seg, _, rfl, fun h => ?_, fun h => fun k20 u20 => ?_⟩
 · have hlt := of_decide_eq_true h
   refine QDiv_s hx ((ht.up u14).mono (by decide)) (by decide) (by decide) fun k16 d16 u16 h16 => ⟨d16, h16.seg, _, rfl, ?_⟩
   refine by_f (hp.up u16) ((hu.up u14).up u16) (by decide) (by decide) (by decide) fun k18 d18 u18 h18 => ⟨d18, h18.seg, rfl, fun k19 u19 => ?_⟩
   refine ⟨j - (i + 1), by omega, d16, d18, i + 1, by omega, rfl, ?_, cut_x (K := 2 * 5) (j := i + 1) ((h16.up u18).up u19) b1 b2 (by omega), cut_r (K := 10 + 2) (j := i + 1) (h18.up u19) b1 b2 (by omega)⟩
   have hw : IntKind.wrap .i64 ((i : Int) - (j : Int) + 1) = ((i + 1 : Nat) : Int) - (j : Int) := by rw [IntKind.wrap_i64]; omega
   rw [hw]
 · have hge := of_decide_eq_false h
   have e : i = j := by omega
   subst e
   exact C k20 _ _ (u14.trans u20) (hx.up u20) (hp.up u20)
theorem floors_s {n0 n1 n2 n3 : Int} (h0 : In64 n0) (h1 : In64 n1) (h2 : In64 n2) (h3 : In64 n3) (n4 : Int) {n5 : Int} (h5 : 0 ≤ n5 ∧ n5 ≤ 255) (C : ∀ k', Up k k' → R k' (.bool true)) :
   ∀ k0, Up k k0 → CallsG Tryz.prog 5 #[.agg #[.int .i64 n0, .int .i64 n1], .agg #[.int .i64 n2, .int .i64 n3], .int .i64 n4, .int .u8 n5] k0 R := by
 intro k0 u0
 replace C := fun k' u => C k' (u0.trans u)
 obtain ⟨j, hj⟩ : ∃ j : Nat, n5 = (j : Int) := ⟨n5.toNat, by omega⟩
 subst hj
 refine floors_vc (awake_s fun k1 u1 => ⟨_, rfl, fun h => (nomatch h), fun _ => ?_⟩)
 rw [show IntKind.wrap .i64 (0 - (IntKind.wrap .i64 (j : Int))) = -(j : Int) from by rw [IntKind.wrap_i64, IntKind.wrap_i64]; omega]
 refine scaled_l h0 h1 (by omega) fun k4 d4 d5 u4 hX hP => ⟨d4, hX.seg, d5, hP.seg, rfl, ?_⟩
 generalize halved (ofQ n0 n1) j = x at hX hP
 refine Of_s h2 h3 fun k6 d6 u6 hS => ⟨d6, hS.seg, rfl, ?_⟩
 refine QRound_s (hX.up u6) (hS.mono (by decide)) (by decide) (by decide) fun k8 d8 u8 hR => ⟨d8, hR.seg, _, rfl, ?_⟩
 refine of_v h2 h3 fun k10 d10 v10 hT => ⟨d10, hT.seg, rfl, ?_⟩
 have u10 := (u6.trans u8).trans v10
 refine rRound_v (hP.up u10) (hT.mono (by decide)) (by decide) (by decide) fun k12 d12 u12 hV => ⟨d12, hV.seg, _, rfl, fun _ => ?_, fun h => by simp at h⟩
 have hR' := hR.up (v10.trans u12)
 refine is_v hR' (by decide) hV (by decide) fun k14 u14 => ⟨_, rfl, fun _ => ?_, fun h => (nomatch h)⟩
 replace u14 := (u10.trans u12).trans u14
 refine QFloor_s (m := n4) (hX.up u14) (by decide) (by decide) fun k16 d16 u16 hA => ⟨d16, hA.seg, rfl, ?_⟩
 replace u16 := u14.trans u16
 refine rFloor_v (m := n4) (hP.up u16) (by decide) (by decide) fun k18 d18 u18 hB => ⟨d18, hB.seg, rfl, ?_⟩
 refine is_v (hA.up u18) (by decide) hB (by decide) fun k20 u20 => ⟨_, rfl, fun _ => ?_, fun h => (nomatch h)⟩
 replace u20 := (u16.trans u18).trans u20
 refine QCeil_s (m := n4) (hX.up u20) (by decide) (by decide) fun k22 d22 u22 hA => ⟨d22, hA.seg, rfl, ?_⟩
 replace u22 := u20.trans u22
 refine rCeil_v (m := n4) (hP.up u22) (by decide) (by decide) fun k24 d24 u24 hB => ⟨d24, hB.seg, rfl, ?_⟩
 refine is_v (hA.up u24) (by decide) hB (by decide) fun k26 u26 => ⟨_, rfl, fun k27 u27 => ?_⟩
 exact C k27 (((((u1.trans u4).trans u22).trans u24).trans u26).trans u27)
end
end Go.Proofs.YtpjakokgmgggiaaGreat

