/- Fractions and Surds are ordered: what the law's function returns. (Printed by gen/law2.py.) -/
import Derived.Test.YtpjakokgmgggiaaL1
namespace Go.Proofs.Ytpjakokgmgggiaa
open Go.RowKit Num Plain
open Sy (Up Sees CallsG Seg)

section
variable {k : World} {R : World → Value → Prop} {K L : Nat}
theorem toQ_real (q : Rat) : (Q4.real q).toQ = em q := rfl
theorem sg_real (x y : Rat) : Plain.C.sg ((Q4.real x).sub (Q4.real y)).toQ = A.sg (x - y) := by
  have e : ((Q4.real x).sub (Q4.real y)).toQ = (⟨⟨x - y, 0⟩, 0⟩ : Q23) := by
    refine Q23.ext' (Q2.ext' ?_ ?_) (Q2.ext' ?_ ?_)
    · show x + -y = x - y
      grind
    · show (0 : Rat) + -0 = 0
      grind
    · show (0 : Rat) + -0 = 0
      grind
    · show (0 : Rat) + -0 = 0
      grind
  rw [e]
  generalize x - y = z
  have hN2 : B.NN (⟨z, 0⟩ : Q2) = z * z := by show z * z - 2 * (0 * 0) = z * z; grind
  have hN3 : Plain.C.NN (⟨⟨z, 0⟩, 0⟩ : Q23) = (⟨z, 0⟩ : Q2) * ⟨z, 0⟩ := by
    show (⟨z, 0⟩ : Q2) * ⟨z, 0⟩ - 3 * ((0 : Q2) * 0) = _
    refine Q2.ext' ?_ ?_
    · show z * z + 2 * (0 * 0) - (3 * (0 * 0 + 2 * (0 * 0)) + 2 * (0 * (0 * 0 + 0 * 0))) = z * z + 2 * (0 * 0)
      grind
    · show z * 0 + 0 * z - (3 * (0 * 0 + 0 * 0) + 0 * (0 * 0 + 2 * (0 * 0))) = z * 0 + 0 * z
      grind
  have pos2 : ∀ w : Rat, A.pos w → B.pos (⟨w, 0⟩ : Q2) := fun w hw => .inl ⟨by
    show (0 : Rat) < w * w - 2 * (0 * 0)
    have := A.mul hw hw
    unfold A.pos at this
    grind, hw⟩
  have pos3 : ∀ w : Rat, A.pos w → Plain.C.pos (⟨⟨w, 0⟩, 0⟩ : Q23) := fun w hw => .inl ⟨by
    have e3 : Plain.C.NN (⟨⟨w, 0⟩, 0⟩ : Q23) = (⟨w, 0⟩ : Q2) * ⟨w, 0⟩ := by
      show (⟨w, 0⟩ : Q2) * ⟨w, 0⟩ - 3 * ((0 : Q2) * 0) = _
      refine Q2.ext' ?_ ?_
      · show w * w + 2 * (0 * 0) - (3 * (0 * 0 + 2 * (0 * 0)) + 2 * (0 * (0 * 0 + 0 * 0))) = w * w + 2 * (0 * 0)
        grind
      · show w * 0 + 0 * w - (3 * (0 * 0 + 0 * 0) + 0 * (0 * 0 + 2 * (0 * 0))) = w * 0 + 0 * w
        grind
    rw [e3]
    exact B.mul (pos2 w hw) (pos2 w hw), pos2 w hw⟩
  rcases A.sg_cases z with ⟨h, h1⟩ | ⟨h, h1⟩ | ⟨h, h1⟩
  · rw [h, h1]; exact Plain.C.sg_zero
  · rw [h]; exact Plain.C.sg_pos (pos3 z h1)
  · rw [h]
    refine Plain.C.sg_neg ?_
    have := pos3 (-z) h1
    have e4 : -(⟨⟨z, 0⟩, 0⟩ : Q23) = ⟨⟨-z, 0⟩, 0⟩ := by
      refine Q23.ext' (Q2.ext' ?_ ?_) (Q2.ext' ?_ ?_)
      · rfl
      · show -(0 : Rat) = 0
        grind
      · show -(0 : Rat) = 0
        grind
      · show -(0 : Rat) = 0
        grind
    rw [e4]
    exact this

theorem order_s {n0 n1 n2 n3 n4 n5 n6 n7 n8 n9 n10 n11 n12 n13 n14 n15 n16 n17 n18 n19 n20 n21 n22 n23 : Int} (h0 : In64 n0) (h1 : In64 n1) (h2 : In64 n2) (h3 : In64 n3) (h4 : In64 n4) (h5 : In64 n5) (h6 : In64 n6) (h7 : In64 n7) (h8 : In64 n8) (h9 : In64 n9) (h10 : In64 n10) (h11 : In64 n11) (h12 : In64 n12) (h13 : In64 n13) (h14 : In64 n14) (h15 : In64 n15) (h16 : In64 n16) (h17 : In64 n17) (h18 : In64 n18) (h19 : In64 n19) (h20 : In64 n20) (h21 : In64 n21) (h22 : In64 n22) (h23 : In64 n23) (C : ∀ k', Up k k' → R k' (.bool true)) :
    ∀ k0, Up k k0 → CallsG Try.prog 7 #[.agg #[.int .i64 n0, .int .i64 n1, .int .i64 n2, .int .i64 n3, .int .i64 n4, .int .i64 n5, .int .i64 n6, .int .i64 n7], .agg #[.int .i64 n8, .int .i64 n9, .int .i64 n10, .int .i64 n11, .int .i64 n12, .int .i64 n13, .int .i64 n14, .int .i64 n15], .agg #[.int .i64 n16, .int .i64 n17, .int .i64 n18, .int .i64 n19, .int .i64 n20, .int .i64 n21, .int .i64 n22, .int .i64 n23]] k0 R := by
  intro k0 u0
  replace C := fun k' u => C k' (u0.trans u)
  refine order_vc ?_
  refine awake_s ?_
  intro k1 u1
  refine ⟨true, rfl, fun h => (by cases h), fun _ => ?_⟩
  replace C := fun k' u => C k' (u1.trans u)
  refine small_s ?_
  intro q0 b0 v0
  refine ⟨b0, rfl, fun _ => ?_, fun _ => ?_⟩
  · refine awake_s ?_
    intro k2 u2
    refine ⟨true, rfl, ?_⟩
    intro k3 u3
    exact C k3 ((v0.trans u2).trans u3)
  replace C := fun k' u => C k' (v0.trans u)
  refine small_s ?_
  intro q1 b1 v1
  refine ⟨b1, rfl, fun _ => ?_, fun _ => ?_⟩
  · refine awake_s ?_
    intro k2 u2
    refine ⟨true, rfl, ?_⟩
    intro k3 u3
    exact C k3 ((v1.trans u2).trans u3)
  replace C := fun k' u => C k' (v1.trans u)
  refine small_s ?_
  intro q2 b2 v2
  refine ⟨b2, rfl, fun _ => ?_, fun _ => ?_⟩
  · refine awake_s ?_
    intro k2 u2
    refine ⟨true, rfl, ?_⟩
    intro k3 u3
    exact C k3 ((v2.trans u2).trans u3)
  replace C := fun k' u => C k' (v2.trans u)
  refine Of_s h0 h1 ?_
  intro w1 c1 u1 x1
  refine ⟨c1, x1.seg, rfl, ?_⟩
  replace C := fun k' u => C k' (u1.trans u)
  refine Of_s h8 h9 ?_
  intro w2 c2 u2 x2
  refine ⟨c2, x2.seg, rfl, ?_⟩
  replace x1 := x1.up u2
  replace C := fun k' u => C k' (u2.trans u)
  refine Of_s h16 h17 ?_
  intro w3 c3 u3 x3
  refine ⟨c3, x3.seg, rfl, ?_⟩
  replace x1 := x1.up u3
  replace x2 := x2.up u3
  replace C := fun k' u => C k' (u3.trans u)
  refine ordq_s x1 x2 x3 (by omega) (by omega) ?_
  intro w4 u4
  refine ⟨true, rfl, fun _ => ?_, fun h => (by cases h)⟩
  replace x1 := x1.up u4
  replace x2 := x2.up u4
  replace x3 := x3.up u4
  replace C := fun k' u => C k' (u4.trans u)
  refine OfQuad_s h0 h1 h2 h3 h4 h5 h6 h7 ?_
  intro y0 d0 p0 s0
  refine ⟨d0, s0.seg, rfl, ?_⟩
  replace x1 := x1.up p0
  replace x2 := x2.up p0
  replace x3 := x3.up p0
  replace C := fun k' u => C k' (p0.trans u)
  refine OfQuad_s h8 h9 h10 h11 h12 h13 h14 h15 ?_
  intro y1 d1 p1 s1
  refine ⟨d1, s1.seg, rfl, ?_⟩
  replace x1 := x1.up p1
  replace x2 := x2.up p1
  replace x3 := x3.up p1
  replace s0 := s0.up p1
  replace C := fun k' u => C k' (p1.trans u)
  refine OfQuad_s h16 h17 h18 h19 h20 h21 h22 h23 ?_
  intro y2 d2 p2 s2
  refine ⟨d2, s2.seg, rfl, ?_⟩
  replace x1 := x1.up p2
  replace x2 := x2.up p2
  replace x3 := x3.up p2
  replace s0 := s0.up p2
  replace s1 := s1.up p2
  replace C := fun k' u => C k' (p2.trans u)
  refine ords_s s0 s1 s2 (by omega) (by omega) ?_
  intro w5 u5
  refine ⟨true, rfl, fun _ => ?_, fun h => (by cases h)⟩
  replace x1 := x1.up u5
  replace x2 := x2.up u5
  replace x3 := x3.up u5
  replace s0 := s0.up u5
  replace s1 := s1.up u5
  replace s2 := s2.up u5
  replace C := fun k' u => C k' (u5.trans u)
  refine SOf_s (SurdV.nil (K := 1) (by omega)) x1 ?_
  intro w6 c6 u6 t1
  refine ⟨c6, t1.seg, rfl, ?_⟩
  replace x1 := x1.up u6
  replace x2 := x2.up u6
  replace x3 := x3.up u6
  replace s0 := s0.up u6
  replace s1 := s1.up u6
  replace s2 := s2.up u6
  replace C := fun k' u => C k' (u6.trans u)
  refine SOf_s (SurdV.nil (K := 1) (by omega)) x2 ?_
  intro w7 c7 u7 t2
  refine ⟨c7, t2.seg, rfl, ?_⟩
  replace x1 := x1.up u7
  replace x2 := x2.up u7
  replace x3 := x3.up u7
  replace s0 := s0.up u7
  replace s1 := s1.up u7
  replace s2 := s2.up u7
  replace t1 := t1.up u7
  replace C := fun k' u => C k' (u7.trans u)
  refine SCmp_s t1 t2 (by omega) (by omega) ?_
  intro w8 u8
  refine ⟨_, rfl, ?_⟩
  replace x1 := x1.up u8
  replace x2 := x2.up u8
  replace x3 := x3.up u8
  replace s0 := s0.up u8
  replace s1 := s1.up u8
  replace s2 := s2.up u8
  replace t1 := t1.up u8
  replace t2 := t2.up u8
  replace C := fun k' u => C k' (u8.trans u)
  refine QCmp_s x1 x2 (by omega) (by omega) ?_
  intro w9 u9
  refine ⟨_, rfl, ?_⟩
  replace x1 := x1.up u9
  replace x2 := x2.up u9
  replace x3 := x3.up u9
  replace s0 := s0.up u9
  replace s1 := s1.up u9
  replace s2 := s2.up u9
  replace t1 := t1.up u9
  replace t2 := t2.up u9
  replace C := fun k' u => C k' (u9.trans u)
  intro k9 u10
  rw [← sgRat, sg_real, beq_self_eq_true]
  exact C k9 u10
end
end Go.Proofs.Ytpjakokgmgggiaa
