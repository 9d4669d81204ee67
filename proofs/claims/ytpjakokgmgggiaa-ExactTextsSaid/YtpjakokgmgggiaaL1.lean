/- The laws of layer 1: what they share; the laws of an order. (Printed by gen/law1.py.) -/
import Derived.Test.YtpjakokgmgggiaaS6
import Derived.Test.YtpjakokgmgggiaaVL
namespace Go.Proofs.Ytpjakokgmgggiaa
open Go.RowKit Num Plain
open Sy (Up Sees CallsG Seg)


section
variable {k : World} {R : World → Value → Prop} {K L : Nat}
theorem dec_one : dec 1 = [49] := by
  unfold dec
  rw [if_neg (by omega), dig_pos (by omega), show 1 / 10 = 0 from rfl, dig_zero]
  rfl
theorem awake_text : surdText ⟨-1, 1, 0, 0⟩ = [45, 49, 43, 49, 114, 50] := by
  have r1 : ratText (-1) = [45, 49] := by
    unfold ratText
    rw [show (-1 : Rat).num = -1 from rfl, show (-1 : Rat).den = 1 from rfl, if_pos (by omega), if_pos rfl, show (-1 : Int).natAbs = 1 from rfl, dec_one]
    rfl
  have r2 : ratText 1 = [49] := by
    unfold ratText
    rw [show (1 : Rat).num = 1 from rfl, show (1 : Rat).den = 1 from rfl, if_neg (by omega), if_pos rfl, show (1 : Int).natAbs = 1 from rfl, dec_one]
    rfl
  have p1 : addPart [] (-1) [] = [45, 49] := by
    unfold addPart
    rw [if_neg (by decide), if_neg (by simp), r1]; rfl
  have p2 : addPart [45, 49] 1 [114, 50] = [45, 49, 43, 49, 114, 50] := by
    unfold addPart
    rw [if_neg (by decide), if_pos ⟨by simp, by decide⟩, r2]; rfl
  have p3 : ∀ m : List UInt8, addPart [45, 49, 43, 49, 114, 50] 0 m = [45, 49, 43, 49, 114, 50] := fun m => by
    unfold addPart
    rw [if_pos rfl]
  unfold surdText
  simp only [body]
  rw [p1, p2, p3, p3]
  rfl
theorem awake_s (C : ∀ k', Up k k' → R k' (.bool true)) : ∀ k0, Up k k0 → CallsG Try.prog 9 #[] k0 R := by
  intro k0 u0
  replace C := fun k' u => C k' (u0.trans u)
  refine awake_vc ?_
  refine QInt_s (z := 1) (by omega) (by omega) ?_
  intro k1 c1 u1 h1
  refine ⟨c1, h1.seg, rfl, ?_⟩
  refine QInt_s (z := 0) (by omega) (by omega) ?_
  intro k2 c2 u2 h2
  refine ⟨c2, h2.seg, rfl, ?_⟩
  replace h1 := h1.up u2
  refine Make_s h1 h1 h2 h2 (by omega) (by omega) ?_
  intro k3 c3 u3 h3
  refine ⟨c3, h3.seg, rfl, ?_⟩
  refine SOf_s h3 (h1.up u3) ?_
  intro k4 c4 u4 h4
  refine ⟨c4, h4.seg, rfl, ?_⟩
  refine SDiv_s (h4.mono (show 1 ≤ 6 by omega)) ((h3.up u4).mono (show 5 * 1 + 1 ≤ 6 by omega)) (by omega) (by omega) ?_ ?_
  · intro k5 u5 hz
    exfalso
    have := congrArg Q4.a hz
    exact absurd this (by decide)
  · intro k5 c5 q u5 h5 hq
    refine ⟨c5, h5.seg, 0, rfl, fun _ => ?_, fun h => by cases h⟩
    have e : q = ⟨-1, 1, 0, 0⟩ := by
      apply toQ_inj
      have hx : (⟨((1 : Int) : Rat), ((1 : Int) : Rat), ((0 : Int) : Rat), ((0 : Int) : Rat)⟩ : Q4).toQ ≠ 0 := by
        intro h
        have := toQ_inj (h.trans toQ_zero.symm)
        exact absurd (congrArg Q4.a this) (by decide)
      generalize hX : (⟨((1 : Int) : Rat), ((1 : Int) : Rat), ((0 : Int) : Rat), ((0 : Int) : Rat)⟩ : Q4).toQ = X at hq hx
      have hw : (⟨-1, 1, 0, 0⟩ : Q4).toQ * X = (Q4.real ((1 : Int) : Rat)).toQ := by
        rw [← hX, ← toQ_mul]; congr 1
        have c1 : ((1 : Int) : Rat) = 1 := rfl
        have c0 : ((0 : Int) : Rat) = 0 := rfl
        rw [c1, c0]
        unfold Q4.mul Q4.real
        refine Q4.ext' ?_ ?_ ?_ ?_ <;> (dsimp only; grind)
      by_cases hd : q.toQ - (⟨-1, 1, 0, 0⟩ : Q4).toQ = 0
      · exact Plain.C.sub_eq hd
      · exfalso
        apply Plain.C.mul_ne hd hx
        have e : ∀ a b c : Q23, (a - b) * c = a * c - b * c := fun a b c => by
          (refine Q23.ext' (Q2.ext' ?_ ?_) (Q2.ext' ?_ ?_) <;> (simp only [Q23.mul_re, Q23.mul_im, Q23.sub_re, Q23.sub_im, Q2.add_re, Q2.add_im, Q2.mul_re, Q2.mul_im, Q2.sub_re, Q2.sub_im, Q2.three_re, Q2.three_im]; grind))
        rw [e, hq, hw]
        exact Plain.C.sg_eq_zero.1 ((Plain.C.ord2 _ _).2 rfl)
    subst e
    refine SText_s h5 (by omega) (by omega) ?_
    intro k6 u6
    refine ⟨_, rfl, ?_⟩
    intro k7 u7
    have ht : surdText ⟨-1, 1, 0, 0⟩ = [45, 49, 43, 49, 114, 50] := awake_text
    rw [ht]
    have hb : ((str [45, 49, 43, 49, 114, 50]).toList == (⟨#[45, 49, 43, 49, 114, 50]⟩ : ByteArray).toList) = true := toList_inj.2 rfl
    rw [hb]
    exact C k7 ((((((u1.trans u2).trans u3).trans u4).trans u5).trans u6).trans u7)
def ofQ (n d : Int) : Rat := if d = 0 then (n : Rat) else (n : Rat) / (d : Rat)
def In64 (n : Int) : Prop := -9223372036854775808 ≤ n ∧ n < 9223372036854775808
theorem Of_s {n d : Int} (hn : In64 n) (hd : In64 d) (C : ∀ k' ds, Up k k' → RatV k' ds (ofQ n d) 1 → R k' (.agg ds)) : ∀ k0, Up k k0 → CallsG Try.prog 22 #[.agg #[.int .i64 n, .int .i64 d]] k0 R := by
  intro k0 u0
  refine Of_vc ⟨fun hb => ?_, fun hb => ?_⟩
  · have e : d = 0 := eq_of_beq hb
    refine QInt_s hn.1 hn.2 ?_
    intro k1 c1 u1 h1
    refine ⟨c1, h1.seg, rfl, ?_⟩
    intro k2 u2
    refine C k2 c1 (u0.trans (u1.trans u2)) ?_
    unfold ofQ
    rw [if_pos e]
    exact h1.up u2
  · have e : ¬ d = 0 := by simpa using hb
    refine QNew_s hn.1 hn.2 hd.1 hd.2 ?_
    intro k1 c1 u1 h1
    refine ⟨c1, h1.seg, _, rfl, ?_⟩
    intro k2 u2
    refine C k2 c1 (u0.trans (u1.trans u2)) ?_
    unfold ofQ
    rw [if_neg e]
    exact h1.up u2
theorem OfQuad_s {n0 n1 n2 n3 n4 n5 n6 n7 : Int} (h0 : In64 n0) (h1 : In64 n1) (h2 : In64 n2) (h3 : In64 n3) (h4 : In64 n4) (h5 : In64 n5) (h6 : In64 n6) (h7 : In64 n7) (C : ∀ k' ds, Up k k' → SurdV k' ds ⟨ofQ n0 n1, ofQ n2 n3, ofQ n4 n5, ofQ n6 n7⟩ 6 → R k' (.agg ds)) :
    ∀ k0, Up k k0 → CallsG Try.prog 21 #[.agg #[.int .i64 n0, .int .i64 n1, .int .i64 n2, .int .i64 n3, .int .i64 n4, .int .i64 n5, .int .i64 n6, .int .i64 n7]] k0 R := by
  intro k0 u0
  replace C := fun k' ds u => C k' ds (u0.trans u)
  refine OfQuad_vc ?_
  refine Of_s h0 h1 ?_
  intro k1 c1 u1 q1
  refine ⟨c1, q1.seg, rfl, ?_⟩
  refine Of_s h2 h3 ?_
  intro k2 c2 u2 q2
  refine ⟨c2, q2.seg, rfl, ?_⟩
  refine Of_s h4 h5 ?_
  intro k3 c3 u3 q3
  refine ⟨c3, q3.seg, rfl, ?_⟩
  refine Of_s h6 h7 ?_
  intro k4 c4 u4 q4
  refine ⟨c4, q4.seg, rfl, ?_⟩
  refine Make_s (((q1.up u2).up u3).up u4) ((q2.up u3).up u4) (q3.up u4) q4 (by omega) (by omega) ?_
  intro k5 c5 u5 h5
  refine ⟨c5, h5.seg, rfl, ?_⟩
  intro k6 u6
  exact C k6 c5 (((((u1.trans u2).trans u3).trans u4).trans u5).trans u6) (h5.up u6)
theorem small_s {n0 n1 n2 n3 n4 n5 n6 n7 : Int} (C : ∀ k' b, Up k k' → R k' (.bool b)) :
    ∀ k0, Up k k0 → CallsG Try.prog 34 #[.agg #[.int .i64 n0, .int .i64 n1, .int .i64 n2, .int .i64 n3, .int .i64 n4, .int .i64 n5, .int .i64 n6, .int .i64 n7]] k0 R := by
  intro k0 u0
  replace C := fun k' b u => C k' b (u0.trans u)
  refine small_vc ?_
  refine ⟨fun _ k1 u1 => C k1 _ u1, fun _ => ?_⟩
  refine ⟨fun _ k1 u1 => C k1 _ u1, fun _ => ?_⟩
  refine ⟨fun _ k1 u1 => C k1 _ u1, fun _ => ?_⟩
  refine ⟨fun _ k1 u1 => C k1 _ u1, fun _ => ?_⟩
  refine ⟨fun _ k1 u1 => C k1 _ u1, fun _ => ?_⟩
  refine ⟨fun _ k1 u1 => C k1 _ u1, fun _ => ?_⟩
  refine ⟨fun _ k1 u1 => C k1 _ u1, fun _ => ?_⟩
  refine ⟨fun _ k1 u1 => C k1 _ u1, fun _ => ?_⟩
  exact fun k1 u1 => C k1 _ u1

theorem ordq_s {cx cy cz : Array Value} {x y z : Rat} (hx : RatV k cx x K) (hy : RatV k cy y K) (hz : RatV k cz z K) (hK1 : 1 ≤ K) (hK : K ≤ 1048576) (C : ∀ k', Up k k' → R k' (.bool true)) :
    ∀ k0, Up k k0 → CallsG Try.prog 35 #[.agg cx, .agg cy, .agg cz] k0 R := by
  intro k0 u0
  replace hx := hx.up u0
  replace hy := hy.up u0
  replace hz := hz.up u0
  replace C := fun k'  u => C k'  (u0.trans u)
  refine ordq_vc hx.seg hy.seg hz.seg ?_
  refine QCmp_s hx hy (by omega) (by omega) ?_
  intro k1  u1 
  refine ⟨_, rfl, ?_⟩
  replace hx := hx.up u1
  replace hy := hy.up u1
  replace hz := hz.up u1
  replace C := fun k'  u => C k'  (u1.trans u)
  rw [← sgRat (x - y)]
  refine QCmp_s hy hx (by omega) (by omega) ?_
  intro k2  u2 
  refine ⟨_, rfl, ?_⟩
  replace hx := hx.up u2
  replace hy := hy.up u2
  replace hz := hz.up u2
  replace C := fun k'  u => C k'  (u2.trans u)
  rw [← sgRat (y - x)]
  rw [Plain.A.ord1 (x) (y)]
  refine ⟨fun hb => absurd hb (by simp), fun _ => ?_⟩
  refine QCmp_s hx hy (by omega) (by omega) ?_
  intro k3  u3 
  refine ⟨_, rfl, ?_⟩
  replace hx := hx.up u3
  replace hy := hy.up u3
  replace hz := hz.up u3
  replace C := fun k'  u => C k'  (u3.trans u)
  rw [← sgRat (x - y)]
  refine QSame_s hx hy (by omega) (by omega) ?_
  intro k4  u4 
  refine ⟨_, rfl, ?_⟩
  replace hx := hx.up u4
  replace hy := hy.up u4
  replace hz := hz.up u4
  replace C := fun k'  u => C k'  (u4.trans u)
  have e2 : (A.sg (x - y) == 0) = decide (x = y) := by rw [Bool.eq_iff_iff, beq_iff_eq, decide_eq_true_iff]; exact A.ord2 x y
  rw [e2]
  refine ⟨fun hb => absurd hb (by simp), fun _ => ?_⟩
  refine QCmp_s hx hy (by omega) (by omega) ?_
  intro k5  u5 
  refine ⟨_, rfl, ?_⟩
  replace hx := hx.up u5
  replace hy := hy.up u5
  replace hz := hz.up u5
  replace C := fun k'  u => C k'  (u5.trans u)
  rw [← sgRat (x - y)]
  refine QSub_s hx hy (by omega) (by omega) ?_
  intro k6 csd1 u6 d1
  refine ⟨csd1, d1.seg, rfl, ?_⟩
  replace hx := hx.up u6
  replace hy := hy.up u6
  replace hz := hz.up u6
  replace C := fun k'  u => C k'  (u6.trans u)
  refine QSign_s d1 (by omega) ?_
  intro k7  u7 
  refine ⟨_, rfl, ?_⟩
  replace hx := hx.up u7
  replace hy := hy.up u7
  replace hz := hz.up u7
  replace d1 := d1.up u7
  replace C := fun k'  u => C k'  (u7.trans u)
  rw [← sgRat (x - y)]
  refine ⟨fun hb => absurd hb (by simp), fun _ => ?_⟩
  refine QMul_s hx hx (by omega) (by omega) ?_
  intro k8 csd2 u8 d2
  refine ⟨csd2, d2.seg, rfl, ?_⟩
  replace hx := hx.up u8
  replace hy := hy.up u8
  replace hz := hz.up u8
  replace d1 := d1.up u8
  replace C := fun k'  u => C k'  (u8.trans u)
  refine QSign_s d2 (by omega) ?_
  intro k9  u9 
  refine ⟨_, rfl, ?_⟩
  replace hx := hx.up u9
  replace hy := hy.up u9
  replace hz := hz.up u9
  replace d1 := d1.up u9
  replace d2 := d2.up u9
  replace C := fun k'  u => C k'  (u9.trans u)
  rw [← sgRat (x * x)]
  have e4 := Plain.A.ord4 (x)
  refine ⟨fun hb => absurd (of_decide_eq_true hb) (by omega), fun _ => ?_⟩
  refine QAdd_s hx hz (by omega) (by omega) ?_
  intro k10 csd3 u10 d3
  refine ⟨csd3, d3.seg, rfl, ?_⟩
  replace hx := hx.up u10
  replace hy := hy.up u10
  replace hz := hz.up u10
  replace d1 := d1.up u10
  replace d2 := d2.up u10
  replace C := fun k'  u => C k'  (u10.trans u)
  refine QAdd_s hy hz (by omega) (by omega) ?_
  intro k11 csd4 u11 d4
  refine ⟨csd4, d4.seg, rfl, ?_⟩
  replace hx := hx.up u11
  replace hy := hy.up u11
  replace hz := hz.up u11
  replace d1 := d1.up u11
  replace d2 := d2.up u11
  replace d3 := d3.up u11
  replace C := fun k'  u => C k'  (u11.trans u)
  refine QCmp_s d3 d4 (by omega) (by omega) ?_
  intro k12  u12 
  refine ⟨_, rfl, ?_⟩
  replace hx := hx.up u12
  replace hy := hy.up u12
  replace hz := hz.up u12
  replace d1 := d1.up u12
  replace d2 := d2.up u12
  replace d3 := d3.up u12
  replace d4 := d4.up u12
  replace C := fun k'  u => C k'  (u12.trans u)
  rw [← sgRat ((x + z) - (y + z))]
  refine QCmp_s hx hy (by omega) (by omega) ?_
  intro k13  u13 
  refine ⟨_, rfl, ?_⟩
  replace hx := hx.up u13
  replace hy := hy.up u13
  replace hz := hz.up u13
  replace d1 := d1.up u13
  replace d2 := d2.up u13
  replace d3 := d3.up u13
  replace d4 := d4.up u13
  replace C := fun k'  u => C k'  (u13.trans u)
  rw [← sgRat (x - y)]
  rw [Plain.A.ord5 (x) (y) (z)]
  refine ⟨fun hb => absurd hb (by simp), fun _ => ?_⟩
  clear d1 d2 d3 d4
  refine QCmp_s hx hy (by omega) (by omega) ?_
  intro k14  u14 
  refine ⟨_, rfl, ?_⟩
  replace hx := hx.up u14
  replace hy := hy.up u14
  replace hz := hz.up u14
  replace C := fun k'  u => C k'  (u14.trans u)
  rw [← sgRat (x - y)]
  refine ⟨fun hb => ?_, fun _ => ?_⟩
  · have h1 := of_decide_eq_true hb
    refine QCmp_s hy hz (by omega) (by omega) ?_
    intro k15  u15 
    refine ⟨_, rfl, ?_⟩
    replace hx := hx.up u15
    replace hy := hy.up u15
    replace hz := hz.up u15
    replace C := fun k'  u => C k'  (u15.trans u)
    rw [← sgRat (y - z)]
    refine ⟨fun hb => ?_, fun _ => ?_⟩
    · have h2 := of_decide_eq_true hb
      refine QCmp_s hx hz (by omega) (by omega) ?_
      intro k16  u16 
      refine ⟨_, rfl, ?_⟩
      replace hx := hx.up u16
      replace hy := hy.up u16
      replace hz := hz.up u16
      replace C := fun k'  u => C k'  (u16.trans u)
      rw [← sgRat (x - z)]
      refine ⟨fun hb => absurd (of_decide_eq_true hb) (by have := Plain.A.ord6 h1 h2; omega), fun _ => ?_⟩
      refine QMul_s hx hz (by omega) (by omega) ?_
      intro k17 csd5 u17 d5
      refine ⟨csd5, d5.seg, rfl, ?_⟩
      replace hx := hx.up u17
      replace hy := hy.up u17
      replace hz := hz.up u17
      replace C := fun k'  u => C k'  (u17.trans u)
      refine QMul_s hy hz (by omega) (by omega) ?_
      intro k18 csd6 u18 d6
      refine ⟨csd6, d6.seg, rfl, ?_⟩
      replace hx := hx.up u18
      replace hy := hy.up u18
      replace hz := hz.up u18
      replace d5 := d5.up u18
      replace C := fun k'  u => C k'  (u18.trans u)
      refine QCmp_s d5 d6 (by omega) (by omega) ?_
      intro k19  u19 
      refine ⟨_, rfl, ?_⟩
      replace hx := hx.up u19
      replace hy := hy.up u19
      replace hz := hz.up u19
      replace d5 := d5.up u19
      replace d6 := d6.up u19
      replace C := fun k'  u => C k'  (u19.trans u)
      rw [← sgRat (x * z - y * z)]
      refine QSign_s hz (by omega) ?_
      intro k20  u20 
      refine ⟨_, rfl, ?_⟩
      replace hx := hx.up u20
      replace hy := hy.up u20
      replace hz := hz.up u20
      replace d5 := d5.up u20
      replace d6 := d6.up u20
      replace C := fun k'  u => C k'  (u20.trans u)
      rw [← sgRat (z)]
      refine QCmp_s hx hy (by omega) (by omega) ?_
      intro k21  u21 
      refine ⟨_, rfl, ?_⟩
      replace hx := hx.up u21
      replace hy := hy.up u21
      replace hz := hz.up u21
      replace d5 := d5.up u21
      replace d6 := d6.up u21
      replace C := fun k'  u => C k'  (u21.trans u)
      rw [← sgRat (x - y)]
      rw [Plain.A.ord7 (x) (y) (z), beq_self_eq_true]
      intro k22 u22
      replace hx := hx.up u22
      replace hy := hy.up u22
      replace hz := hz.up u22
      replace d5 := d5.up u22
      replace d6 := d6.up u22
      exact C _ u22
    · refine QMul_s hx hz (by omega) (by omega) ?_
      intro k16 csd5 u16 d5
      refine ⟨csd5, d5.seg, rfl, ?_⟩
      replace hx := hx.up u16
      replace hy := hy.up u16
      replace hz := hz.up u16
      replace C := fun k'  u => C k'  (u16.trans u)
      refine QMul_s hy hz (by omega) (by omega) ?_
      intro k17 csd6 u17 d6
      refine ⟨csd6, d6.seg, rfl, ?_⟩
      replace hx := hx.up u17
      replace hy := hy.up u17
      replace hz := hz.up u17
      replace d5 := d5.up u17
      replace C := fun k'  u => C k'  (u17.trans u)
      refine QCmp_s d5 d6 (by omega) (by omega) ?_
      intro k18  u18 
      refine ⟨_, rfl, ?_⟩
      replace hx := hx.up u18
      replace hy := hy.up u18
      replace hz := hz.up u18
      replace d5 := d5.up u18
      replace d6 := d6.up u18
      replace C := fun k'  u => C k'  (u18.trans u)
      rw [← sgRat (x * z - y * z)]
      refine QSign_s hz (by omega) ?_
      intro k19  u19 
      refine ⟨_, rfl, ?_⟩
      replace hx := hx.up u19
      replace hy := hy.up u19
      replace hz := hz.up u19
      replace d5 := d5.up u19
      replace d6 := d6.up u19
      replace C := fun k'  u => C k'  (u19.trans u)
      rw [← sgRat (z)]
      refine QCmp_s hx hy (by omega) (by omega) ?_
      intro k20  u20 
      refine ⟨_, rfl, ?_⟩
      replace hx := hx.up u20
      replace hy := hy.up u20
      replace hz := hz.up u20
      replace d5 := d5.up u20
      replace d6 := d6.up u20
      replace C := fun k'  u => C k'  (u20.trans u)
      rw [← sgRat (x - y)]
      rw [Plain.A.ord7 (x) (y) (z), beq_self_eq_true]
      intro k21 u21
      replace hx := hx.up u21
      replace hy := hy.up u21
      replace hz := hz.up u21
      replace d5 := d5.up u21
      replace d6 := d6.up u21
      exact C _ u21
  · refine QMul_s hx hz (by omega) (by omega) ?_
    intro k15 csd5 u15 d5
    refine ⟨csd5, d5.seg, rfl, ?_⟩
    replace hx := hx.up u15
    replace hy := hy.up u15
    replace hz := hz.up u15
    replace C := fun k'  u => C k'  (u15.trans u)
    refine QMul_s hy hz (by omega) (by omega) ?_
    intro k16 csd6 u16 d6
    refine ⟨csd6, d6.seg, rfl, ?_⟩
    replace hx := hx.up u16
    replace hy := hy.up u16
    replace hz := hz.up u16
    replace d5 := d5.up u16
    replace C := fun k'  u => C k'  (u16.trans u)
    refine QCmp_s d5 d6 (by omega) (by omega) ?_
    intro k17  u17 
    refine ⟨_, rfl, ?_⟩
    replace hx := hx.up u17
    replace hy := hy.up u17
    replace hz := hz.up u17
    replace d5 := d5.up u17
    replace d6 := d6.up u17
    replace C := fun k'  u => C k'  (u17.trans u)
    rw [← sgRat (x * z - y * z)]
    refine QSign_s hz (by omega) ?_
    intro k18  u18 
    refine ⟨_, rfl, ?_⟩
    replace hx := hx.up u18
    replace hy := hy.up u18
    replace hz := hz.up u18
    replace d5 := d5.up u18
    replace d6 := d6.up u18
    replace C := fun k'  u => C k'  (u18.trans u)
    rw [← sgRat (z)]
    refine QCmp_s hx hy (by omega) (by omega) ?_
    intro k19  u19 
    refine ⟨_, rfl, ?_⟩
    replace hx := hx.up u19
    replace hy := hy.up u19
    replace hz := hz.up u19
    replace d5 := d5.up u19
    replace d6 := d6.up u19
    replace C := fun k'  u => C k'  (u19.trans u)
    rw [← sgRat (x - y)]
    rw [Plain.A.ord7 (x) (y) (z), beq_self_eq_true]
    intro k20 u20
    replace hx := hx.up u20
    replace hy := hy.up u20
    replace hz := hz.up u20
    replace d5 := d5.up u20
    replace d6 := d6.up u20
    exact C _ u20

theorem ords_s {cx cy cz : Array Value} {x y z : Q4} (hx : SurdV k cx x K) (hy : SurdV k cy y K) (hz : SurdV k cz z K) (hK1 : 1 ≤ K) (hK : K ≤ 1048576) (C : ∀ k', Up k k' → R k' (.bool true)) :
    ∀ k0, Up k k0 → CallsG Try.prog 36 #[.agg cx, .agg cy, .agg cz] k0 R := by
  intro k0 u0
  replace hx := hx.up u0
  replace hy := hy.up u0
  replace hz := hz.up u0
  replace C := fun k'  u => C k'  (u0.trans u)
  refine ords_vc hx.seg hy.seg hz.seg ?_
  refine SCmp_s hx hy (by omega) (by omega) ?_
  intro k1  u1 
  refine ⟨_, rfl, ?_⟩
  replace hx := hx.up u1
  replace hy := hy.up u1
  replace hz := hz.up u1
  replace C := fun k'  u => C k'  (u1.trans u)
  rw [toQ_sub]
  refine SCmp_s hy hx (by omega) (by omega) ?_
  intro k2  u2 
  refine ⟨_, rfl, ?_⟩
  replace hx := hx.up u2
  replace hy := hy.up u2
  replace hz := hz.up u2
  replace C := fun k'  u => C k'  (u2.trans u)
  rw [toQ_sub]
  rw [Plain.C.ord1 (x.toQ) (y.toQ)]
  refine ⟨fun hb => absurd hb (by simp), fun _ => ?_⟩
  refine SCmp_s hx hy (by omega) (by omega) ?_
  intro k3  u3 
  refine ⟨_, rfl, ?_⟩
  replace hx := hx.up u3
  replace hy := hy.up u3
  replace hz := hz.up u3
  replace C := fun k'  u => C k'  (u3.trans u)
  rw [toQ_sub]
  refine SSame_s hx hy (by omega) (by omega) ?_
  intro k4  u4 b hb
  refine ⟨b, rfl, ?_⟩
  replace hx := hx.up u4
  replace hy := hy.up u4
  replace hz := hz.up u4
  replace C := fun k'  u => C k'  (u4.trans u)
  have e2 : (Plain.C.sg (x.toQ - y.toQ) == 0) = b := by
    rw [Bool.eq_iff_iff, beq_iff_eq, hb, Plain.C.ord2]
    constructor
    · intro h; apply toQ_inj; rw [toQ_sub, h, toQ_zero]; exact Plain.C.sg_eq_zero.1 ((Plain.C.ord2 _ _).2 rfl)
    · intro h; have := congrArg Q4.toQ h; rw [toQ_sub, toQ_zero] at this; exact Plain.C.sub_eq this
  rw [e2]
  refine ⟨fun hb => absurd hb (by simp), fun _ => ?_⟩
  refine SCmp_s hx hy (by omega) (by omega) ?_
  intro k5  u5 
  refine ⟨_, rfl, ?_⟩
  replace hx := hx.up u5
  replace hy := hy.up u5
  replace hz := hz.up u5
  replace C := fun k'  u => C k'  (u5.trans u)
  rw [toQ_sub]
  refine SSub_s hx hy (by omega) (by omega) ?_
  intro k6 csd1 u6 d1
  refine ⟨csd1, d1.seg, rfl, ?_⟩
  replace hx := hx.up u6
  replace hy := hy.up u6
  replace hz := hz.up u6
  replace C := fun k'  u => C k'  (u6.trans u)
  refine SSign_s d1 (by omega) ?_
  intro k7  u7 
  refine ⟨_, rfl, ?_⟩
  replace hx := hx.up u7
  replace hy := hy.up u7
  replace hz := hz.up u7
  replace d1 := d1.up u7
  replace C := fun k'  u => C k'  (u7.trans u)
  rw [toQ_sub]
  refine ⟨fun hb => absurd hb (by simp), fun _ => ?_⟩
  refine SMul_s hx hx (by omega) (by omega) ?_
  intro k8 csd2 u8 d2
  refine ⟨csd2, d2.seg, rfl, ?_⟩
  replace hx := hx.up u8
  replace hy := hy.up u8
  replace hz := hz.up u8
  replace d1 := d1.up u8
  replace C := fun k'  u => C k'  (u8.trans u)
  refine SSign_s d2 (by omega) ?_
  intro k9  u9 
  refine ⟨_, rfl, ?_⟩
  replace hx := hx.up u9
  replace hy := hy.up u9
  replace hz := hz.up u9
  replace d1 := d1.up u9
  replace d2 := d2.up u9
  replace C := fun k'  u => C k'  (u9.trans u)
  rw [toQ_mul]
  have e4 := Plain.C.ord4 (x.toQ)
  refine ⟨fun hb => absurd (of_decide_eq_true hb) (by omega), fun _ => ?_⟩
  refine SAdd_s hx hz (by omega) (by omega) ?_
  intro k10 csd3 u10 d3
  refine ⟨csd3, d3.seg, rfl, ?_⟩
  replace hx := hx.up u10
  replace hy := hy.up u10
  replace hz := hz.up u10
  replace d1 := d1.up u10
  replace d2 := d2.up u10
  replace C := fun k'  u => C k'  (u10.trans u)
  refine SAdd_s hy hz (by omega) (by omega) ?_
  intro k11 csd4 u11 d4
  refine ⟨csd4, d4.seg, rfl, ?_⟩
  replace hx := hx.up u11
  replace hy := hy.up u11
  replace hz := hz.up u11
  replace d1 := d1.up u11
  replace d2 := d2.up u11
  replace d3 := d3.up u11
  replace C := fun k'  u => C k'  (u11.trans u)
  refine SCmp_s d3 d4 (by omega) (by omega) ?_
  intro k12  u12 
  refine ⟨_, rfl, ?_⟩
  replace hx := hx.up u12
  replace hy := hy.up u12
  replace hz := hz.up u12
  replace d1 := d1.up u12
  replace d2 := d2.up u12
  replace d3 := d3.up u12
  replace d4 := d4.up u12
  replace C := fun k'  u => C k'  (u12.trans u)
  rw [toQ_sub]
  rw [toQ_add, toQ_add]
  refine SCmp_s hx hy (by omega) (by omega) ?_
  intro k13  u13 
  refine ⟨_, rfl, ?_⟩
  replace hx := hx.up u13
  replace hy := hy.up u13
  replace hz := hz.up u13
  replace d1 := d1.up u13
  replace d2 := d2.up u13
  replace d3 := d3.up u13
  replace d4 := d4.up u13
  replace C := fun k'  u => C k'  (u13.trans u)
  rw [toQ_sub]
  rw [Plain.C.ord5 (x.toQ) (y.toQ) (z.toQ)]
  refine ⟨fun hb => absurd hb (by simp), fun _ => ?_⟩
  clear d1 d2 d3 d4
  refine SCmp_s hx hy (by omega) (by omega) ?_
  intro k14  u14 
  refine ⟨_, rfl, ?_⟩
  replace hx := hx.up u14
  replace hy := hy.up u14
  replace hz := hz.up u14
  replace C := fun k'  u => C k'  (u14.trans u)
  rw [toQ_sub]
  refine ⟨fun hb => ?_, fun _ => ?_⟩
  · have h1 := of_decide_eq_true hb
    refine SCmp_s hy hz (by omega) (by omega) ?_
    intro k15  u15 
    refine ⟨_, rfl, ?_⟩
    replace hx := hx.up u15
    replace hy := hy.up u15
    replace hz := hz.up u15
    replace C := fun k'  u => C k'  (u15.trans u)
    rw [toQ_sub]
    refine ⟨fun hb => ?_, fun _ => ?_⟩
    · have h2 := of_decide_eq_true hb
      refine SCmp_s hx hz (by omega) (by omega) ?_
      intro k16  u16 
      refine ⟨_, rfl, ?_⟩
      replace hx := hx.up u16
      replace hy := hy.up u16
      replace hz := hz.up u16
      replace C := fun k'  u => C k'  (u16.trans u)
      rw [toQ_sub]
      refine ⟨fun hb => absurd (of_decide_eq_true hb) (by have := Plain.C.ord6 h1 h2; omega), fun _ => ?_⟩
      refine SMul_s hx hz (by omega) (by omega) ?_
      intro k17 csd5 u17 d5
      refine ⟨csd5, d5.seg, rfl, ?_⟩
      replace hx := hx.up u17
      replace hy := hy.up u17
      replace hz := hz.up u17
      replace C := fun k'  u => C k'  (u17.trans u)
      refine SMul_s hy hz (by omega) (by omega) ?_
      intro k18 csd6 u18 d6
      refine ⟨csd6, d6.seg, rfl, ?_⟩
      replace hx := hx.up u18
      replace hy := hy.up u18
      replace hz := hz.up u18
      replace d5 := d5.up u18
      replace C := fun k'  u => C k'  (u18.trans u)
      refine SCmp_s d5 d6 (by omega) (by omega) ?_
      intro k19  u19 
      refine ⟨_, rfl, ?_⟩
      replace hx := hx.up u19
      replace hy := hy.up u19
      replace hz := hz.up u19
      replace d5 := d5.up u19
      replace d6 := d6.up u19
      replace C := fun k'  u => C k'  (u19.trans u)
      rw [toQ_sub]
      rw [toQ_mul, toQ_mul]
      refine SSign_s hz (by omega) ?_
      intro k20  u20 
      refine ⟨_, rfl, ?_⟩
      replace hx := hx.up u20
      replace hy := hy.up u20
      replace hz := hz.up u20
      replace d5 := d5.up u20
      replace d6 := d6.up u20
      replace C := fun k'  u => C k'  (u20.trans u)
      refine SCmp_s hx hy (by omega) (by omega) ?_
      intro k21  u21 
      refine ⟨_, rfl, ?_⟩
      replace hx := hx.up u21
      replace hy := hy.up u21
      replace hz := hz.up u21
      replace d5 := d5.up u21
      replace d6 := d6.up u21
      replace C := fun k'  u => C k'  (u21.trans u)
      rw [toQ_sub]
      rw [Plain.C.ord7 (x.toQ) (y.toQ) (z.toQ), beq_self_eq_true]
      intro k22 u22
      replace hx := hx.up u22
      replace hy := hy.up u22
      replace hz := hz.up u22
      replace d5 := d5.up u22
      replace d6 := d6.up u22
      exact C _ u22
    · refine SMul_s hx hz (by omega) (by omega) ?_
      intro k16 csd5 u16 d5
      refine ⟨csd5, d5.seg, rfl, ?_⟩
      replace hx := hx.up u16
      replace hy := hy.up u16
      replace hz := hz.up u16
      replace C := fun k'  u => C k'  (u16.trans u)
      refine SMul_s hy hz (by omega) (by omega) ?_
      intro k17 csd6 u17 d6
      refine ⟨csd6, d6.seg, rfl, ?_⟩
      replace hx := hx.up u17
      replace hy := hy.up u17
      replace hz := hz.up u17
      replace d5 := d5.up u17
      replace C := fun k'  u => C k'  (u17.trans u)
      refine SCmp_s d5 d6 (by omega) (by omega) ?_
      intro k18  u18 
      refine ⟨_, rfl, ?_⟩
      replace hx := hx.up u18
      replace hy := hy.up u18
      replace hz := hz.up u18
      replace d5 := d5.up u18
      replace d6 := d6.up u18
      replace C := fun k'  u => C k'  (u18.trans u)
      rw [toQ_sub]
      rw [toQ_mul, toQ_mul]
      refine SSign_s hz (by omega) ?_
      intro k19  u19 
      refine ⟨_, rfl, ?_⟩
      replace hx := hx.up u19
      replace hy := hy.up u19
      replace hz := hz.up u19
      replace d5 := d5.up u19
      replace d6 := d6.up u19
      replace C := fun k'  u => C k'  (u19.trans u)
      refine SCmp_s hx hy (by omega) (by omega) ?_
      intro k20  u20 
      refine ⟨_, rfl, ?_⟩
      replace hx := hx.up u20
      replace hy := hy.up u20
      replace hz := hz.up u20
      replace d5 := d5.up u20
      replace d6 := d6.up u20
      replace C := fun k'  u => C k'  (u20.trans u)
      rw [toQ_sub]
      rw [Plain.C.ord7 (x.toQ) (y.toQ) (z.toQ), beq_self_eq_true]
      intro k21 u21
      replace hx := hx.up u21
      replace hy := hy.up u21
      replace hz := hz.up u21
      replace d5 := d5.up u21
      replace d6 := d6.up u21
      exact C _ u21
  · refine SMul_s hx hz (by omega) (by omega) ?_
    intro k15 csd5 u15 d5
    refine ⟨csd5, d5.seg, rfl, ?_⟩
    replace hx := hx.up u15
    replace hy := hy.up u15
    replace hz := hz.up u15
    replace C := fun k'  u => C k'  (u15.trans u)
    refine SMul_s hy hz (by omega) (by omega) ?_
    intro k16 csd6 u16 d6
    refine ⟨csd6, d6.seg, rfl, ?_⟩
    replace hx := hx.up u16
    replace hy := hy.up u16
    replace hz := hz.up u16
    replace d5 := d5.up u16
    replace C := fun k'  u => C k'  (u16.trans u)
    refine SCmp_s d5 d6 (by omega) (by omega) ?_
    intro k17  u17 
    refine ⟨_, rfl, ?_⟩
    replace hx := hx.up u17
    replace hy := hy.up u17
    replace hz := hz.up u17
    replace d5 := d5.up u17
    replace d6 := d6.up u17
    replace C := fun k'  u => C k'  (u17.trans u)
    rw [toQ_sub]
    rw [toQ_mul, toQ_mul]
    refine SSign_s hz (by omega) ?_
    intro k18  u18 
    refine ⟨_, rfl, ?_⟩
    replace hx := hx.up u18
    replace hy := hy.up u18
    replace hz := hz.up u18
    replace d5 := d5.up u18
    replace d6 := d6.up u18
    replace C := fun k'  u => C k'  (u18.trans u)
    refine SCmp_s hx hy (by omega) (by omega) ?_
    intro k19  u19 
    refine ⟨_, rfl, ?_⟩
    replace hx := hx.up u19
    replace hy := hy.up u19
    replace hz := hz.up u19
    replace d5 := d5.up u19
    replace d6 := d6.up u19
    replace C := fun k'  u => C k'  (u19.trans u)
    rw [toQ_sub]
    rw [Plain.C.ord7 (x.toQ) (y.toQ) (z.toQ), beq_self_eq_true]
    intro k20 u20
    replace hx := hx.up u20
    replace hy := hy.up u20
    replace hz := hz.up u20
    replace d5 := d5.up u20
    replace d6 := d6.up u20
    exact C _ u20

end
end Go.Proofs.Ytpjakokgmgggiaa
