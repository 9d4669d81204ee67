/- Texts are equal exactly if the numbers are: what the law's function returns. -/
import Derived.Test.YtpjakokgmgggiaaL1
import Derived.Test.YtpjakokgmgggiaaTx
namespace Go.Proofs.Ytpjakokgmgggiaa
open Go.RowKit Num Plain
open Sy (Up Sees CallsG Seg)

section
variable {k : World} {R : World → Value → Prop} {K L : Nat}
theorem sub_zero_iff {u v : Q4} : u.sub v = Q4.zero ↔ u = v := by
  have e : u.sub v = ⟨u.a + -v.a, u.b + -v.b, u.c + -v.c, u.d + -v.d⟩ := rfl
  rw [e]
  unfold Q4.zero
  constructor
  · intro h
    injection h with h1 h2 h3 h4
    exact Q4.ext' (by grind) (by grind) (by grind) (by grind)
  · rintro rfl
    exact Q4.ext' (show u.a + -u.a = 0 by grind) (show u.b + -u.b = 0 by grind) (show u.c + -u.c = 0 by grind) (show u.d + -u.d = 0 by grind)
theorem texts_s {n0 n1 n2 n3 n4 n5 n6 n7 n8 n9 n10 n11 n12 n13 n14 n15 : Int} (h0 : In64 n0) (h1 : In64 n1) (h2 : In64 n2) (h3 : In64 n3) (h4 : In64 n4) (h5 : In64 n5) (h6 : In64 n6) (h7 : In64 n7) (h8 : In64 n8) (h9 : In64 n9) (h10 : In64 n10) (h11 : In64 n11) (h12 : In64 n12) (h13 : In64 n13) (h14 : In64 n14) (h15 : In64 n15) (C : ∀ k', Up k k' → R k' (.bool true)) :
    ∀ k0, Up k k0 → CallsG Try.prog 4 #[.agg #[.int .i64 n0, .int .i64 n1, .int .i64 n2, .int .i64 n3, .int .i64 n4, .int .i64 n5, .int .i64 n6, .int .i64 n7], .agg #[.int .i64 n8, .int .i64 n9, .int .i64 n10, .int .i64 n11, .int .i64 n12, .int .i64 n13, .int .i64 n14, .int .i64 n15]] k0 R := by
  intro k0 u0
  replace C := fun k' u => C k' (u0.trans u)
  refine texts_vc ?_
  refine awake_s ?_
  intro k1 u1
  refine ⟨true, rfl, fun h => (by cases h), fun _ => ?_⟩
  replace C := fun k' u => C k' (u1.trans u)
  refine OfQuad_s h0 h1 h2 h3 h4 h5 h6 h7 ?_
  intro w1 c1 u1 x1
  refine ⟨c1, x1.seg, rfl, ?_⟩
  replace C := fun k' u => C k' (u1.trans u)
  refine OfQuad_s h8 h9 h10 h11 h12 h13 h14 h15 ?_
  intro w2 c2 u2 x2
  refine ⟨c2, x2.seg, rfl, ?_⟩
  replace x1 := x1.up u2
  replace C := fun k' u => C k' (u2.trans u)
  refine Of_s h0 h1 ?_
  intro w3 c3 u3 x3
  refine ⟨c3, x3.seg, rfl, ?_⟩
  replace x1 := x1.up u3
  replace x2 := x2.up u3
  replace C := fun k' u => C k' (u3.trans u)
  refine Of_s h8 h9 ?_
  intro w4 c4 u4 x4
  refine ⟨c4, x4.seg, rfl, ?_⟩
  replace x1 := x1.up u4
  replace x2 := x2.up u4
  replace x3 := x3.up u4
  replace C := fun k' u => C k' (u4.trans u)
  refine SText_s x1 (by omega) (by omega) ?_
  intro w5 u5
  refine ⟨_, rfl, ?_⟩
  replace x1 := x1.up u5
  replace x2 := x2.up u5
  replace x3 := x3.up u5
  replace x4 := x4.up u5
  replace C := fun k' u => C k' (u5.trans u)
  refine SText_s x2 (by omega) (by omega) ?_
  intro w6 u6
  refine ⟨_, rfl, ?_⟩
  replace x1 := x1.up u6
  replace x2 := x2.up u6
  replace x3 := x3.up u6
  replace x4 := x4.up u6
  replace C := fun k' u => C k' (u6.trans u)
  refine SSame_s x1 x2 (by omega) (by omega) ?_
  intro w7 u7 b hb
  refine ⟨b, rfl, fun _ => ?_, fun hf => ?_⟩
  · replace x3 := x3.up u7
    replace x4 := x4.up u7
    replace C := fun k' u => C k' (u7.trans u)
    refine QText_s x3 (by omega) ?_
    intro w8 u8
    refine ⟨_, rfl, ?_⟩
    replace x3 := x3.up u8
    replace x4 := x4.up u8
    replace C := fun k' u => C k' (u8.trans u)
    refine QText_s x4 (by omega) ?_
    intro w9 u9
    refine ⟨_, rfl, ?_⟩
    replace x3 := x3.up u9
    replace x4 := x4.up u9
    replace C := fun k' u => C k' (u9.trans u)
    refine QSame_s x3 x4 (by omega) (by omega) ?_
    intro w10 u10
    refine ⟨_, rfl, ?_⟩
    intro w11 u11
    have e : ((str (ratText (ofQ n0 n1))).toList == (str (ratText (ofQ n8 n9))).toList) = decide (ofQ n0 n1 = ofQ n8 n9) := by
      rw [Bool.eq_iff_iff, toList_inj, decide_eq_true_iff]
      exact ⟨fun h => ratText_inj (str_inj h), fun h => by rw [h]⟩
    have e' : (ByteArray.toList ⟨(ratText (ofQ n0 n1)).toArray⟩ == ByteArray.toList ⟨(ratText (ofQ n8 n9)).toArray⟩) = decide (ofQ n0 n1 = ofQ n8 n9) := e
    rw [e', beq_self_eq_true]
    exact C w11 (u10.trans u11)
  · exfalso
    have e : ((str (surdText ⟨ofQ n0 n1, ofQ n2 n3, ofQ n4 n5, ofQ n6 n7⟩)).toList == (str (surdText ⟨ofQ n8 n9, ofQ n10 n11, ofQ n12 n13, ofQ n14 n15⟩)).toList) = b := by
      rw [Bool.eq_iff_iff, toList_inj, hb, sub_zero_iff]
      exact ⟨fun h => surdText_inj (str_inj h), fun h => by rw [h]⟩
    rw [e, beq_self_eq_true] at hf
    cases hf
end
end Go.Proofs.Ytpjakokgmgggiaa
