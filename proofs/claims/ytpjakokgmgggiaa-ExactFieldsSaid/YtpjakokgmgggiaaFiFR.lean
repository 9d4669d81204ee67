/- Several texts in one. (Printed by prep.py.) -/
import Derived.Test.YtpjakokgmgggiaaProg
import Derived.Test.YtpjakokgmgggiaaFiSy14
import Derived.Test.YtpjakokgmgggiaaFiS6
import Derived.Test.YtpjakokgmgggiaaFiS4
import Derived.Test.YtpjakokgmgggiaaFiS5
import Derived.Test.YtpjakokgmgggiaaFiVFD
/- What is to be shown of the calls of some functions. (Printed by gen/vc.py.) -/
namespace Go.Proofs.Ytpjakokgmgggiaa
open Go.RowKit
open Sy (Up Sees CallsG Seg execFn_use)
set_option maxRecDepth 100000
variable {k : World} {R : World → Value → Prop}
theorem awake_vc
    (h : ∀ k0, Up k k0 → CallsG Try.prog 14 #[Value.int .i64 1] k0 fun k1 r0 => ∃ cs0, Seg 3 cs0 ∧ some (Value.agg cs0) = some r0 ∧
 ∀ k2, Up k1 k2 → CallsG Try.prog 14 #[Value.int .i64 0] k2 fun k3 r2 => ∃ cs1, Seg 3 cs1 ∧ some (Value.agg cs1) = some r2 ∧
 ∀ k4, Up k3 k4 → CallsG Try.prog 46 #[Value.agg (cs0.toList ++ (cs0.toList ++ (cs1.toList ++ (cs1.toList ++ ([]))))).toArray] k4 fun k5 r4 => ∃ cs2, Seg 9 cs2 ∧ some (Value.agg cs2) = some r4 ∧
 ∀ k6, Up k5 k6 → CallsG Try.prog 37 #[Value.agg cs2, Value.agg cs0] k6 fun k7 r6 => ∃ cs3, Seg 9 cs3 ∧ some (Value.agg cs3) = some r6 ∧
 ∀ k8, Up k7 k8 → CallsG Try.prog 47 #[Value.agg cs3, Value.agg cs2] k8 fun k9 r8 => ∃ cs4, Seg 9 cs4 ∧ ∃ n5, some (Value.tuple #[Value.agg cs4, Value.int .i64 n5]) = some r8 ∧
 (((n5 : Int) == 0) = true →
 (∀ k10, Up k9 k10 → CallsG Try.prog 23 #[Value.agg cs4] k10 fun k11 r10 => ∃ s6, some (Value.string s6) = some r10 ∧
 ∀ k12, Up k11 k12 → R k12 (Value.bool (ByteArray.toList s6 == ByteArray.toList ⟨#[45, 49, 43, 49, 114, 50]⟩)))) ∧
 (((n5 : Int) == 0) = false →
 (∀ k13, Up k9 k13 → R k13 (Value.bool false)))) :
    CallsG Try.prog 9 #[] k R :=
  execFn_use (cfg := { opq := [28, 53] }) (args := []) (vals := []) (kinds := []) (by kernel_rfl) trivial (by kernel_rfl) (by kernel_rfl) h
theorem Of_vc {n0 n1 : Int}
    (h : (((n1 : Int) == 0) = true →
 (∀ k0, Up k k0 → CallsG Try.prog 14 #[Value.int .i64 n0] k0 fun k1 r0 => ∃ cs2, Seg 3 cs2 ∧ some (Value.agg cs2) = some r0 ∧
 ∀ k2, Up k1 k2 → R k2 (Value.agg cs2))) ∧
 (((n1 : Int) == 0) = false →
 (∀ k3, Up k k3 → CallsG Try.prog 10 #[Value.int .i64 n0, Value.int .i64 n1] k3 fun k4 r3 => ∃ cs2, Seg 3 cs2 ∧ ∃ n3, some (Value.tuple #[Value.agg cs2, Value.int .i64 n3]) = some r3 ∧
 ∀ k5, Up k4 k5 → R k5 (Value.agg cs2)))) :
    CallsG Try.prog 22 #[Value.agg #[Value.int .i64 n0, Value.int .i64 n1]] k R :=
  execFn_use (cfg := { opq := [28] }) (args := [.agg [.var 0, .var 1]]) (vals := [Value.int .i64 n0, Value.int .i64 n1]) (kinds := [.int .i64, .int .i64]) (by kernel_rfl) ⟨⟨_, rfl⟩, ⟨⟨_, rfl⟩, trivial⟩⟩ (by kernel_rfl) (by kernel_rfl) h
theorem OfQuad_vc {n0 n1 n2 n3 n4 n5 n6 n7 : Int}
    (h : ∀ k0, Up k k0 → CallsG Try.prog 22 #[Value.agg #[Value.int .i64 n0, Value.int .i64 n1]] k0 fun k1 r0 => ∃ cs8, Seg 3 cs8 ∧ some (Value.agg cs8) = some r0 ∧
 ∀ k2, Up k1 k2 → CallsG Try.prog 22 #[Value.agg #[Value.int .i64 n2, Value.int .i64 n3]] k2 fun k3 r2 => ∃ cs9, Seg 3 cs9 ∧ some (Value.agg cs9) = some r2 ∧
 ∀ k4, Up k3 k4 → CallsG Try.prog 22 #[Value.agg #[Value.int .i64 n4, Value.int .i64 n5]] k4 fun k5 r4 => ∃ cs10, Seg 3 cs10 ∧ some (Value.agg cs10) = some r4 ∧
 ∀ k6, Up k5 k6 → CallsG Try.prog 22 #[Value.agg #[Value.int .i64 n6, Value.int .i64 n7]] k6 fun k7 r6 => ∃ cs11, Seg 3 cs11 ∧ some (Value.agg cs11) = some r6 ∧
 ∀ k8, Up k7 k8 → CallsG Try.prog 46 #[Value.agg (cs8.toList ++ (cs9.toList ++ (cs10.toList ++ (cs11.toList ++ ([]))))).toArray] k8 fun k9 r8 => ∃ cs12, Seg 9 cs12 ∧ some (Value.agg cs12) = some r8 ∧
 ∀ k10, Up k9 k10 → R k10 (Value.agg cs12)) :
    CallsG Try.prog 21 #[Value.agg #[Value.int .i64 n0, Value.int .i64 n1, Value.int .i64 n2, Value.int .i64 n3, Value.int .i64 n4, Value.int .i64 n5, Value.int .i64 n6, Value.int .i64 n7]] k R :=
  execFn_use (cfg := { opq := [28, 53] }) (args := [.agg [.var 0, .var 1, .var 2, .var 3, .var 4, .var 5, .var 6, .var 7]]) (vals := [Value.int .i64 n0, Value.int .i64 n1, Value.int .i64 n2, Value.int .i64 n3, Value.int .i64 n4, Value.int .i64 n5, Value.int .i64 n6, Value.int .i64 n7]) (kinds := [.int .i64, .int .i64, .int .i64, .int .i64, .int .i64, .int .i64, .int .i64, .int .i64]) (by kernel_rfl) ⟨⟨_, rfl⟩, ⟨⟨_, rfl⟩, ⟨⟨_, rfl⟩, ⟨⟨_, rfl⟩, ⟨⟨_, rfl⟩, ⟨⟨_, rfl⟩, ⟨⟨_, rfl⟩, ⟨⟨_, rfl⟩, trivial⟩⟩⟩⟩⟩⟩⟩⟩ (by kernel_rfl) (by kernel_rfl) h
theorem small_vc {n0 n1 n2 n3 n4 n5 n6 n7 : Int}
    (h : ((decide (((if (decide ((n0 : Int) < n1)) = true then n1 else n0) : Int) > 1099511627776)) = true →
 (∀ k0, Up k k0 → R k0 (Value.bool false))) ∧
 ((decide (((if (decide ((n0 : Int) < n1)) = true then n1 else n0) : Int) > 1099511627776)) = false →
 (((decide (((if (decide ((n1 : Int) < n0)) = true then n1 else n0) : Int) < (-1099511627776))) = true →
 (∀ k1, Up k k1 → R k1 (Value.bool false))) ∧
 ((decide (((if (decide ((n1 : Int) < n0)) = true then n1 else n0) : Int) < (-1099511627776))) = false →
 (((decide (((if (decide ((n2 : Int) < n3)) = true then n3 else n2) : Int) > 1099511627776)) = true →
 (∀ k2, Up k k2 → R k2 (Value.bool false))) ∧
 ((decide (((if (decide ((n2 : Int) < n3)) = true then n3 else n2) : Int) > 1099511627776)) = false →
 (((decide (((if (decide ((n3 : Int) < n2)) = true then n3 else n2) : Int) < (-1099511627776))) = true →
 (∀ k3, Up k k3 → R k3 (Value.bool false))) ∧
 ((decide (((if (decide ((n3 : Int) < n2)) = true then n3 else n2) : Int) < (-1099511627776))) = false →
 (((decide (((if (decide ((n4 : Int) < n5)) = true then n5 else n4) : Int) > 1099511627776)) = true →
 (∀ k4, Up k k4 → R k4 (Value.bool false))) ∧
 ((decide (((if (decide ((n4 : Int) < n5)) = true then n5 else n4) : Int) > 1099511627776)) = false →
 (((decide (((if (decide ((n5 : Int) < n4)) = true then n5 else n4) : Int) < (-1099511627776))) = true →
 (∀ k5, Up k k5 → R k5 (Value.bool false))) ∧
 ((decide (((if (decide ((n5 : Int) < n4)) = true then n5 else n4) : Int) < (-1099511627776))) = false →
 (((decide (((if (decide ((n6 : Int) < n7)) = true then n7 else n6) : Int) > 1099511627776)) = true →
 (∀ k6, Up k k6 → R k6 (Value.bool false))) ∧
 ((decide (((if (decide ((n6 : Int) < n7)) = true then n7 else n6) : Int) > 1099511627776)) = false →
 (((decide (((if (decide ((n7 : Int) < n6)) = true then n7 else n6) : Int) < (-1099511627776))) = true →
 (∀ k7, Up k k7 → R k7 (Value.bool false))) ∧
 ((decide (((if (decide ((n7 : Int) < n6)) = true then n7 else n6) : Int) < (-1099511627776))) = false →
 (∀ k8, Up k k8 → R k8 (Value.bool true)))))))))))))))))) :
    CallsG Try.prog 34 #[Value.agg #[Value.int .i64 n0, Value.int .i64 n1, Value.int .i64 n2, Value.int .i64 n3, Value.int .i64 n4, Value.int .i64 n5, Value.int .i64 n6, Value.int .i64 n7]] k R :=
  execFn_use (cfg := { opq := [] }) (args := [.agg [.var 0, .var 1, .var 2, .var 3, .var 4, .var 5, .var 6, .var 7]]) (vals := [Value.int .i64 n0, Value.int .i64 n1, Value.int .i64 n2, Value.int .i64 n3, Value.int .i64 n4, Value.int .i64 n5, Value.int .i64 n6, Value.int .i64 n7]) (kinds := [.int .i64, .int .i64, .int .i64, .int .i64, .int .i64, .int .i64, .int .i64, .int .i64]) (by kernel_rfl) ⟨⟨_, rfl⟩, ⟨⟨_, rfl⟩, ⟨⟨_, rfl⟩, ⟨⟨_, rfl⟩, ⟨⟨_, rfl⟩, ⟨⟨_, rfl⟩, ⟨⟨_, rfl⟩, ⟨⟨_, rfl⟩, trivial⟩⟩⟩⟩⟩⟩⟩⟩ (by kernel_rfl) (by kernel_rfl) h
end Go.Proofs.Ytpjakokgmgggiaa

/- The laws of layer 1: what they share; the laws of an order. (Printed by gen/law1.py.) -/
namespace Go.Proofs.Ytpjakokgmgggiaa
open Go.RowKit Num Plain
open Sy (Up Sees CallsG Seg)
section
variable {k : World} {R : World → Value → Prop} {K L : Nat}
theorem dec_one : dec 1 = [49] := by
 unfold dec
 rw [if_neg (by omega), dig_pos (by omega), show 1 / 10 = 0 from rfl, dig_zero]
 rfl
theorem awake_text : surdText ⟨-1, 1, 0, 0⟩ = [45, 49, 43, 49, 114, 50] := by
 have r1 : ratText (-1) = [45, 49] := by
   unfold ratText
   rw [show (-1 : Rat).num = -1 from rfl, show (-1 : Rat).den = 1 from rfl, if_pos (by omega), if_pos rfl, show (-1 : Int).natAbs = 1 from rfl, dec_one]
   rfl
 have r2 : ratText 1 = [49] := by
   unfold ratText
   rw [show (1 : Rat).num = 1 from rfl, show (1 : Rat).den = 1 from rfl, if_neg (by omega), if_pos rfl, show (1 : Int).natAbs = 1 from rfl, dec_one]
   rfl
 have p1 : addPart [] (-1) [] = [45, 49] := by
   unfold addPart
   rw [if_neg (by decide), if_neg (by simp), r1]; rfl
 have p2 : addPart [45, 49] 1 [114, 50] = [45, 49, 43, 49, 114, 50] := by
   unfold addPart
   rw [if_neg (by decide), if_pos ⟨by simp, by decide⟩, r2]; rfl
 have p3 : ∀ m : List UInt8, addPart [45, 49, 43, 49, 114, 50] 0 m = [45, 49, 43, 49, 114, 50] := fun m => by
   unfold addPart
   rw [if_pos rfl]
 unfold surdText
 simp only [body]
 rw [p1, p2, p3, p3]
 rfl
theorem awake_s (C : ∀ k', Up k k' → R k' (.bool true)) : ∀ k0, Up k k0 → CallsG Try.prog 9 #[] k0 R := by
 intro k0 u0
 replace C := fun k' u => C k' (u0.trans u)
 refine awake_vc ?_
 refine QInt_s (z := 1) (by omega) (by omega) ?_
 intro k1 c1 u1 h1
 refine ⟨c1, h1.seg, rfl, ?_⟩
 refine QInt_s (z := 0) (by omega) (by omega) ?_
 intro k2 c2 u2 h2
 refine ⟨c2, h2.seg, rfl, ?_⟩
 replace h1 := h1.up u2
 refine Make_s h1 h1 h2 h2 (by omega) (by omega) ?_
 intro k3 c3 u3 h3
 refine ⟨c3, h3.seg, rfl, ?_⟩
 refine SOf_s h3 (h1.up u3) ?_
 intro k4 c4 u4 h4
 refine ⟨c4, h4.seg, rfl, ?_⟩
 refine SDiv_s (h4.mono (show 1 ≤ 6 by omega)) ((h3.up u4).mono (show 5 * 1 + 1 ≤ 6 by omega)) (by omega) (by omega) ?_ ?_
 · intro k5 u5 hz
   exfalso
   have := congrArg Q4.a hz
   exact absurd this (by decide)
 · intro k5 c5 q u5 h5 hq
   refine ⟨c5, h5.seg, 0, rfl, fun _ => ?_, fun h => by cases h⟩
   have e : q = ⟨-1, 1, 0, 0⟩ := by
     apply toQ_inj
     have hx : (⟨((1 : Int) : Rat), ((1 : Int) : Rat), ((0 : Int) : Rat), ((0 : Int) : Rat)⟩ : Q4).toQ ≠ 0 := by
       intro h
       have := toQ_inj (h.trans toQ_zero.symm)
       exact absurd (congrArg Q4.a this) (by decide)
     generalize hX : (⟨((1 : Int) : Rat), ((1 : Int) : Rat), ((0 : Int) : Rat), ((0 : Int) : Rat)⟩ : Q4).toQ = X at hq hx
     have hw : (⟨-1, 1, 0, 0⟩ : Q4).toQ * X = (Q4.real ((1 : Int) : Rat)).toQ := by
       rw [← hX, ← toQ_mul]; congr 1
       have c1 : ((1 : Int) : Rat) = 1 := rfl
       have c0 : ((0 : Int) : Rat) = 0 := rfl
       rw [c1, c0]
       unfold Q4.mul Q4.real
       refine Q4.ext' ?_ ?_ ?_ ?_ <;> (dsimp only; grind)
     by_cases hd : q.toQ - (⟨-1, 1, 0, 0⟩ : Q4).toQ = 0
     · exact Plain.C.sub_eq hd
     · exfalso
       apply Plain.C.mul_ne hd hx
       have e : ∀ a b c : Q23, (a - b) * c = a * c - b * c := fun a b c => by
         (refine Q23.ext' (Q2.ext' ?_ ?_) (Q2.ext' ?_ ?_) <;> (simp only [Q23.mul_re, Q23.mul_im, Q23.sub_re, Q23.sub_im, Q2.add_re, Q2.add_im, Q2.mul_re, Q2.mul_im, Q2.sub_re, Q2.sub_im, Q2.three_re, Q2.three_im]; grind))
       rw [e, hq, hw]
       exact Plain.C.sg_eq_zero.1 ((Plain.C.ord2 _ _).2 rfl)
   subst e
   refine SText_s h5 (by omega) (by omega) ?_
   intro k6 u6
   refine ⟨_, rfl, ?_⟩
   intro k7 u7
   have ht : surdText ⟨-1, 1, 0, 0⟩ = [45, 49, 43, 49, 114, 50] := awake_text
   rw [ht]
   have hb : ((str [45, 49, 43, 49, 114, 50]).toList == (⟨#[45, 49, 43, 49, 114, 50]⟩ : ByteArray).toList) = true := toList_inj.2 rfl
   rw [hb]
   exact C k7 ((((((u1.trans u2).trans u3).trans u4).trans u5).trans u6).trans u7)
def ofQ (n d : Int) : Rat := if d = 0 then (n : Rat) else (n : Rat) / (d : Rat)
def In64 (n : Int) : Prop := -9223372036854775808 ≤ n ∧ n < 9223372036854775808
theorem Of_s {n d : Int} (hn : In64 n) (hd : In64 d) (C : ∀ k' ds, Up k k' → RatV k' ds (ofQ n d) 1 → R k' (.agg ds)) : ∀ k0, Up k k0 → CallsG Try.prog 22 #[.agg #[.int .i64 n, .int .i64 d]] k0 R := by
 intro k0 u0
 refine Of_vc ⟨fun hb => ?_, fun hb => ?_⟩
 · have e : d = 0 := eq_of_beq hb
   refine QInt_s hn.1 hn.2 ?_
   intro k1 c1 u1 h1
   refine ⟨c1, h1.seg, rfl, ?_⟩
   intro k2 u2
   refine C k2 c1 (u0.trans (u1.trans u2)) ?_
   unfold ofQ
   rw [if_pos e]
   exact h1.up u2
 · have e : ¬ d = 0 := by simpa using hb
   refine QNew_s hn.1 hn.2 hd.1 hd.2 ?_
   intro k1 c1 u1 h1
   refine ⟨c1, h1.seg, _, rfl, ?_⟩
   intro k2 u2
   refine C k2 c1 (u0.trans (u1.trans u2)) ?_
   unfold ofQ
   rw [if_neg e]
   exact h1.up u2
theorem OfQuad_s {n0 n1 n2 n3 n4 n5 n6 n7 : Int} (h0 : In64 n0) (h1 : In64 n1) (h2 : In64 n2) (h3 : In64 n3) (h4 : In64 n4) (h5 : In64 n5) (h6 : In64 n6) (h7 : In64 n7) (C : ∀ k' ds, Up k k' → SurdV k' ds ⟨ofQ n0 n1, ofQ n2 n3, ofQ n4 n5, ofQ n6 n7⟩ 6 → R k' (.agg ds)) :
   ∀ k0, Up k k0 → CallsG Try.prog 21 #[.agg #[.int .i64 n0, .int .i64 n1, .int .i64 n2, .int .i64 n3, .int .i64 n4, .int .i64 n5, .int .i64 n6, .int .i64 n7]] k0 R := by
 intro k0 u0
 replace C := fun k' ds u => C k' ds (u0.trans u)
 refine OfQuad_vc ?_
 refine Of_s h0 h1 ?_
 intro k1 c1 u1 q1
 refine ⟨c1, q1.seg, rfl, ?_⟩
 refine Of_s h2 h3 ?_
 intro k2 c2 u2 q2
 refine ⟨c2, q2.seg, rfl, ?_⟩
 refine Of_s h4 h5 ?_
 intro k3 c3 u3 q3
 refine ⟨c3, q3.seg, rfl, ?_⟩
 refine Of_s h6 h7 ?_
 intro k4 c4 u4 q4
 refine ⟨c4, q4.seg, rfl, ?_⟩
 refine Make_s (((q1.up u2).up u3).up u4) ((q2.up u3).up u4) (q3.up u4) q4 (by omega) (by omega) ?_
 intro k5 c5 u5 h5
 refine ⟨c5, h5.seg, rfl, ?_⟩
 intro k6 u6
 exact C k6 c5 (((((u1.trans u2).trans u3).trans u4).trans u5).trans u6) (h5.up u6)
theorem small_s {n0 n1 n2 n3 n4 n5 n6 n7 : Int} (C : ∀ k' b, Up k k' → R k' (.bool b)) :
   ∀ k0, Up k k0 → CallsG Try.prog 34 #[.agg #[.int .i64 n0, .int .i64 n1, .int .i64 n2, .int .i64 n3, .int .i64 n4, .int .i64 n5, .int .i64 n6, .int .i64 n7]] k0 R := by
 intro k0 u0
 replace C := fun k' b u => C k' b (u0.trans u)
 refine small_vc ?_
 refine ⟨fun _ k1 u1 => C k1 _ u1, fun _ => ?_⟩
 refine ⟨fun _ k1 u1 => C k1 _ u1, fun _ => ?_⟩
 refine ⟨fun _ k1 u1 => C k1 _ u1, fun _ => ?_⟩
 refine ⟨fun _ k1 u1 => C k1 _ u1, fun _ => ?_⟩
 refine ⟨fun _ k1 u1 => C k1 _ u1, fun _ => ?_⟩
 refine ⟨fun _ k1 u1 => C k1 _ u1, fun _ => ?_⟩
 refine ⟨fun _ k1 u1 => C k1 _ u1, fun _ => ?_⟩
 refine ⟨fun _ k1 u1 => C k1 _ u1, fun _ => ?_⟩
 exact fun k1 u1 => C k1 _ u1
end
end Go.Proofs.Ytpjakokgmgggiaa

/- Complex numbers of Surds, the turns by 24ths, and their sums. No program. -/
namespace Go.Proofs.Ytpjakokgmgggiaa
open Num Plain
structure W4 where
 (re im : Q4)
theorem W4.ext' {x y : W4} (h1 : x.re = y.re) (h2 : x.im = y.im) : x = y := by cases x; cases y; simp_all
instance : DecidableEq Q4 := fun x y => decidable_of_iff (x.a = y.a ∧ x.b = y.b ∧ x.c = y.c ∧ x.d = y.d)
 ⟨fun ⟨h1, h2, h3, h4⟩ => Q4.ext' h1 h2 h3 h4, fun h => by rw [h]; exact ⟨rfl, rfl, rfl, rfl⟩⟩
instance : DecidableEq W4 := fun x y => decidable_of_iff (x.re = y.re ∧ x.im = y.im)
 ⟨fun ⟨h1, h2⟩ => W4.ext' h1 h2, fun h => by rw [h]; exact ⟨rfl, rfl⟩⟩
def W4.add (x y : W4) : W4 := ⟨x.re.add y.re, x.im.add y.im⟩
def W4.sub (x y : W4) : W4 := ⟨x.re.sub y.re, x.im.sub y.im⟩
def W4.mul (x y : W4) : W4 := ⟨(x.re.mul y.re).sub (x.im.mul y.im), (x.re.mul y.im).add (x.im.mul y.re)⟩
def W4.neg (x : W4) : W4 := ⟨x.re.neg, x.im.neg⟩
def W4.conj (x : W4) : W4 := ⟨x.re, x.im.neg⟩
def W4.norm (x : W4) : Q4 := (x.re.mul x.re).add (x.im.mul x.im)
def W4.zero : W4 := ⟨Q4.zero, Q4.zero⟩
def W4.real (q : Rat) : W4 := ⟨Q4.real q, Q4.zero⟩
theorem Q4.sub_zero_iff {x y : Q4} : x.sub y = Q4.zero ↔ x = y := by
 constructor
 · intro h
   have ha := congrArg Q4.a h
   have hb := congrArg Q4.b h
   have hc := congrArg Q4.c h
   have hd := congrArg Q4.d h
   simp only [Q4.sub, Q4.add, Q4.neg, Q4.zero] at ha hb hc hd
   exact Q4.ext' (by grind) (by grind) (by grind) (by grind)
 · intro h
   subst h
   simp only [Q4.sub, Q4.add, Q4.neg, Q4.zero]
   exact Q4.ext' (by grind) (by grind) (by grind) (by grind)
def cosB : Nat → Q4
 | 0 => ⟨1, 0, 0, 0⟩
 | 1 => ⟨0, 1 / 4, 0, 1 / 4⟩
 | 2 => ⟨0, 0, 1 / 2, 0⟩
 | 3 => ⟨0, 1 / 2, 0, 0⟩
 | 4 => ⟨1 / 2, 0, 0, 0⟩
 | 5 => ⟨0, -1 / 4, 0, 1 / 4⟩
 | _ => ⟨0, 0, 0, 0⟩
def cosM (m : Nat) : Q4 := if 6 < m then (cosB (12 - m)).neg else cosB m
def cosQ (n : Nat) : Q4 := if 12 < n then cosM (24 - n) else cosM n
def turnW (n : Nat) : W4 := ⟨cosQ n, cosQ ((n + 18) % 24)⟩
def plc (k : Int) : Nat := (k % 24).toNat
def sumP (k : Nat) : Nat → W4
 | 0 => W4.zero
 | j + 1 => (sumP k j).add (turnW (j * k % 24))
def q4s (q : Rat) : Bool := (4 * q).den == 1 && decide ((4 * q).num.natAbs ≤ 1000)
def Q4.small (v : Q4) : Bool := q4s v.a && q4s v.b && q4s v.c && q4s v.d
def W4.small (v : W4) : Bool := v.re.small && v.im.small
end Go.Proofs.Ytpjakokgmgggiaa

/- Quotients of Surds and of complex numbers. No program. -/
namespace Go.Proofs.Ytpjakokgmgggiaa
open Num Plain
def Q4.t1 (y : Q4) : Q4 := ⟨y.a, -y.b, y.c, -y.d⟩
def Q4.t2 (y : Q4) : Q4 := ⟨y.a, y.b, -y.c, -y.d⟩
def Q4.cnj (y : Q4) : Q4 := (y.t1.mul y.t2).mul y.t1.t2
def Q4.div (x y : Q4) : Q4 := ⟨(x.mul y.cnj).a / (y.mul y.cnj).a, (x.mul y.cnj).b / (y.mul y.cnj).a, (x.mul y.cnj).c / (y.mul y.cnj).a, (x.mul y.cnj).d / (y.mul y.cnj).a⟩
theorem Q4.cnj_norm (y : Q4) : (y.mul y.cnj).b = 0 ∧ (y.mul y.cnj).c = 0 ∧ (y.mul y.cnj).d = 0 := by
 obtain ⟨a, b, c, d⟩ := y
 simp only [Q4.cnj, Q4.mul, Q4.t1, Q4.t2]
 refine ⟨?_, ?_, ?_⟩ <;> grind
theorem Q4.t1_ne {y : Q4} (h : y ≠ Q4.zero) : y.t1 ≠ Q4.zero := fun e => h (by
 have ha := congrArg Q4.a e
 have hb := congrArg Q4.b e
 have hc := congrArg Q4.c e
 have hd := congrArg Q4.d e
 simp only [Q4.t1, Q4.zero] at ha hb hc hd
 exact Q4.ext' ha (by show y.b = 0; grind) hc (by show y.d = 0; grind))
theorem Q4.t2_ne {y : Q4} (h : y ≠ Q4.zero) : y.t2 ≠ Q4.zero := fun e => h (by
 have ha := congrArg Q4.a e
 have hb := congrArg Q4.b e
 have hc := congrArg Q4.c e
 have hd := congrArg Q4.d e
 simp only [Q4.t2, Q4.zero] at ha hb hc hd
 exact Q4.ext' ha hb (by show y.c = 0; grind) (by show y.d = 0; grind))
theorem Q4.norm_ne {y : Q4} (h : y ≠ Q4.zero) : (y.mul y.cnj).a ≠ 0 := by
 intro ha
 obtain ⟨hb, hc, hd⟩ := Q4.cnj_norm y
 have e : y.mul y.cnj = Q4.zero := Q4.ext' ha hb hc hd
 have e2 : y.toQ * ((y.t1.toQ * y.t2.toQ) * y.t1.t2.toQ) = 0 := by
   rw [← toQ_mul, ← toQ_mul, ← toQ_mul]
   exact (congrArg Q4.toQ e).trans toQ_zero
 exact C.mul_ne (e4_ne.2 h) (C.mul_ne (C.mul_ne (e4_ne.2 (Q4.t1_ne h)) (e4_ne.2 (Q4.t2_ne h))) (e4_ne.2 (Q4.t2_ne (Q4.t1_ne h)))) e2
theorem Q4.div_mul {x y : Q4} (h : y ≠ Q4.zero) : (x.div y).toQ * y.toQ = x.toQ := by
 have hn := Q4.norm_ne h
 obtain ⟨hb, hc, hd⟩ := Q4.cnj_norm y
 have e2 : y.toQ * y.cnj.toQ = em (y.mul y.cnj).a := by
   rw [← toQ_mul]
   show e4 _ _ _ _ = e4 _ 0 0 0
   rw [hb, hc, hd]
 have e1 : (x.div y).toQ = (x.toQ * y.cnj.toQ) * em (1 / (y.mul y.cnj).a) := by
   rw [← toQ_mul]
   show e4 _ _ _ _ = e4 _ _ _ _ * _
   rw [e4_em]
   simp only [Rat.div_def, Rat.one_mul]
   rfl
 have e3 : em (y.mul y.cnj).a * em (1 / (y.mul y.cnj).a) = 1 := by
   rw [em_mul, Rat.div_def, Rat.one_mul, Rat.mul_inv_cancel _ hn, em_one]
 rw [e1]
 generalize em (1 / (y.mul y.cnj).a) = r at e3 ⊢
 rw [← e2] at e3
 generalize x.toQ = a at e3 ⊢
 generalize y.toQ = b at e3 ⊢
 generalize y.cnj.toQ = c at e3 ⊢
 have e4 : (a * c * r) * b = a * (b * c * r) := by
   (refine Q23.ext' (Q2.ext' ?_ ?_) (Q2.ext' ?_ ?_) <;> (simp only [Q23.mul_re, Q23.mul_im, Q2.add_re, Q2.add_im, Q2.mul_re, Q2.mul_im, Q2.three_re, Q2.three_im]; grind))
 rw [e4, e3]
 (refine Q23.ext' (Q2.ext' ?_ ?_) (Q2.ext' ?_ ?_) <;> (simp only [Q23.mul_re, Q23.mul_im, Q23.one_re, Q23.one_im, Q2.add_re, Q2.add_im, Q2.mul_re, Q2.mul_im, Q2.one_re, Q2.one_im, Q2.zero_re, Q2.zero_im, Q2.three_re, Q2.three_im]; grind))
theorem Q4.div_uniq {x y q : Q4} (h : y ≠ Q4.zero) (hq : q.toQ * y.toQ = x.toQ) : q = x.div y := by
 have e := Q4.div_mul (x := x) h
 apply toQ_inj
 have e1 : (q.sub (x.div y)).toQ * y.toQ = 0 := by
   rw [toQ_sub]
   have : (q.toQ - (x.div y).toQ) * y.toQ = q.toQ * y.toQ - (x.div y).toQ * y.toQ := by
     generalize q.toQ = a
     generalize (x.div y).toQ = b
     generalize y.toQ = c
     (refine Q23.ext' (Q2.ext' ?_ ?_) (Q2.ext' ?_ ?_) <;> (simp only [Q23.mul_re, Q23.mul_im, Q23.sub_re, Q23.sub_im, Q2.add_re, Q2.add_im, Q2.mul_re, Q2.mul_im, Q2.sub_re, Q2.sub_im, Q2.three_re, Q2.three_im]; grind))
   rw [this, hq, e]
   generalize x.toQ = a
   (refine Q23.ext' (Q2.ext' ?_ ?_) (Q2.ext' ?_ ?_) <;> (simp only [Q23.sub_re, Q23.sub_im, Q23.zero_re, Q23.zero_im, Q2.sub_re, Q2.sub_im, Q2.zero_re, Q2.zero_im]; grind))
 have e2 : q.sub (x.div y) = Q4.zero := Classical.byContradiction fun hn => C.mul_ne (e4_ne.2 hn) (e4_ne.2 h) e1
 rw [Q4.sub_zero_iff.1 e2]
theorem Q4.div_zero (x : Q4) : x.div Q4.zero = Q4.zero := by
 have h : (Q4.zero.mul Q4.zero.cnj).a = 0 := by simp only [Q4.cnj, Q4.mul, Q4.zero, Q4.t1, Q4.t2]; grind
 unfold Q4.div
 rw [h]
 refine Q4.ext' ?_ ?_ ?_ ?_ <;> (show _ / (0 : Rat) = 0; rw [Rat.div_def]; simp)
theorem Q4.zero_iff (v : Q4) : decide (v = Q4.zero) = (decide (v.a = 0) && decide (v.b = 0) && decide (v.c = 0) && decide (v.d = 0)) := by
 rw [Bool.eq_iff_iff]
 simp only [Bool.and_eq_true, decide_eq_true_iff]
 constructor
 · intro h; subst h; exact ⟨⟨⟨rfl, rfl⟩, rfl⟩, rfl⟩
 · intro ⟨⟨⟨h1, h2⟩, h3⟩, h4⟩; exact Q4.ext' h1 h2 h3 h4
def W4.div (x y : W4) : W4 := ⟨(x.mul y.conj).re.div y.norm, (x.mul y.conj).im.div y.norm⟩
theorem W4.div_zero (x : W4) : x.div W4.zero = W4.zero := by
 have h : W4.zero.norm = Q4.zero := by
   simp only [W4.norm, W4.zero, Q4.mul, Q4.add, Q4.zero]
   refine Q4.ext' ?_ ?_ ?_ ?_ <;> grind
 unfold W4.div
 rw [h, Q4.div_zero, Q4.div_zero]
 rfl
theorem W4.zero_iff (v : W4) : decide (v = W4.zero) = (decide (v.re = Q4.zero) && decide (v.im = Q4.zero)) := by
 rw [Bool.eq_iff_iff]
 simp only [Bool.and_eq_true, decide_eq_true_iff]
 constructor
 · intro h; subst h; exact ⟨rfl, rfl⟩
 · intro ⟨h1, h2⟩; exact W4.ext' h1 h2
theorem W4.same_iff (v w : W4) : decide (v = w) = (decide (v.re = w.re) && decide (v.im = w.im)) := by
 rw [Bool.eq_iff_iff]
 simp only [Bool.and_eq_true, decide_eq_true_iff]
 constructor
 · intro h; subst h; exact ⟨rfl, rfl⟩
 · intro ⟨h1, h2⟩; exact W4.ext' h1 h2
end Go.Proofs.Ytpjakokgmgggiaa

/- The laws of a field, for the parts of Surds and of Waves. No program. (Printed by gen/fieldz.py.) -/
namespace Go.Proofs.Ytpjakokgmgggiaa
open Num Plain
namespace Q23L
theorem add_comm (a b : Q23) : a + b = b + a := by (refine Q23.ext' (Q2.ext' ?_ ?_) (Q2.ext' ?_ ?_) <;> (simp only [Q23.add_re, Q23.add_im, Q2.add_re, Q2.add_im]; grind))
theorem add_assoc (a b c : Q23) : a + b + c = a + (b + c) := by (refine Q23.ext' (Q2.ext' ?_ ?_) (Q2.ext' ?_ ?_) <;> (simp only [Q23.add_re, Q23.add_im, Q2.add_re, Q2.add_im]; grind))
theorem mul_comm (a b : Q23) : a * b = b * a := by (refine Q23.ext' (Q2.ext' ?_ ?_) (Q2.ext' ?_ ?_) <;> (simp only [Q23.mul_re, Q23.mul_im, Q2.add_re, Q2.add_im, Q2.mul_re, Q2.mul_im, Q2.three_re, Q2.three_im]; grind))
theorem mul_assoc (a b c : Q23) : a * b * c = a * (b * c) := by (refine Q23.ext' (Q2.ext' ?_ ?_) (Q2.ext' ?_ ?_) <;> (simp only [Q23.mul_re, Q23.mul_im, Q2.add_re, Q2.add_im, Q2.mul_re, Q2.mul_im, Q2.three_re, Q2.three_im]; grind))
theorem add_mul (a b c : Q23) : (a + b) * c = a * c + b * c := by (refine Q23.ext' (Q2.ext' ?_ ?_) (Q2.ext' ?_ ?_) <;> (simp only [Q23.add_re, Q23.add_im, Q23.mul_re, Q23.mul_im, Q2.add_re, Q2.add_im, Q2.mul_re, Q2.mul_im, Q2.three_re, Q2.three_im]; grind))
theorem mul_add (a b c : Q23) : a * (b + c) = a * b + a * c := by (refine Q23.ext' (Q2.ext' ?_ ?_) (Q2.ext' ?_ ?_) <;> (simp only [Q23.add_re, Q23.add_im, Q23.mul_re, Q23.mul_im, Q2.add_re, Q2.add_im, Q2.mul_re, Q2.mul_im, Q2.three_re, Q2.three_im]; grind))
theorem sub_eq (a b : Q23) : a - b = a + -b := by (refine Q23.ext' (Q2.ext' ?_ ?_) (Q2.ext' ?_ ?_) <;> (simp only [Q23.add_re, Q23.add_im, Q23.neg_re, Q23.neg_im, Q23.sub_re, Q23.sub_im, Q2.add_re, Q2.add_im, Q2.neg_re, Q2.neg_im, Q2.sub_re, Q2.sub_im]; grind))
theorem neg_add (a b : Q23) : -(a + b) = -a + -b := by (refine Q23.ext' (Q2.ext' ?_ ?_) (Q2.ext' ?_ ?_) <;> (simp only [Q23.add_re, Q23.add_im, Q23.neg_re, Q23.neg_im, Q2.add_re, Q2.add_im, Q2.neg_re, Q2.neg_im]; grind))
theorem neg_neg (a : Q23) : - -a = a := by (refine Q23.ext' (Q2.ext' ?_ ?_) (Q2.ext' ?_ ?_) <;> (simp only [Q23.neg_re, Q23.neg_im, Q2.neg_re, Q2.neg_im]; grind))
theorem neg_mul (a b : Q23) : -a * b = -(a * b) := by (refine Q23.ext' (Q2.ext' ?_ ?_) (Q2.ext' ?_ ?_) <;> (simp only [Q23.mul_re, Q23.mul_im, Q23.neg_re, Q23.neg_im, Q2.add_re, Q2.add_im, Q2.mul_re, Q2.mul_im, Q2.neg_re, Q2.neg_im, Q2.three_re, Q2.three_im]; grind))
theorem mul_neg (a b : Q23) : a * -b = -(a * b) := by (refine Q23.ext' (Q2.ext' ?_ ?_) (Q2.ext' ?_ ?_) <;> (simp only [Q23.mul_re, Q23.mul_im, Q23.neg_re, Q23.neg_im, Q2.add_re, Q2.add_im, Q2.mul_re, Q2.mul_im, Q2.neg_re, Q2.neg_im, Q2.three_re, Q2.three_im]; grind))
theorem sub_add (a b : Q23) : a - b + b = a := by (refine Q23.ext' (Q2.ext' ?_ ?_) (Q2.ext' ?_ ?_) <;> (simp only [Q23.add_re, Q23.add_im, Q23.sub_re, Q23.sub_im, Q2.add_re, Q2.add_im, Q2.sub_re, Q2.sub_im]; grind))
theorem neg_add_self (a : Q23) : -a + a = 0 := by (refine Q23.ext' (Q2.ext' ?_ ?_) (Q2.ext' ?_ ?_) <;> (simp only [Q23.add_re, Q23.add_im, Q23.neg_re, Q23.neg_im, Q23.zero_re, Q23.zero_im, Q2.add_re, Q2.add_im, Q2.neg_re, Q2.neg_im, Q2.zero_re, Q2.zero_im]; grind))
theorem add_left (a b c : Q23) : a + (b + c) = b + (a + c) := by (refine Q23.ext' (Q2.ext' ?_ ?_) (Q2.ext' ?_ ?_) <;> (simp only [Q23.add_re, Q23.add_im, Q2.add_re, Q2.add_im]; grind))
end Q23L
open Q23L
theorem Q4.add_comm (x y : Q4) : x.add y = y.add x := toQ_inj (by rw [toQ_add, toQ_add, Q23L.add_comm])
theorem Q4.mul_comm (x y : Q4) : x.mul y = y.mul x := toQ_inj (by rw [toQ_mul, toQ_mul, Q23L.mul_comm])
theorem Q4.add_assoc (x y z : Q4) : (x.add y).add z = x.add (y.add z) := toQ_inj (by simp only [toQ_add, Q23L.add_assoc])
theorem Q4.mul_assoc (x y z : Q4) : (x.mul y).mul z = x.mul (y.mul z) := toQ_inj (by simp only [toQ_mul, Q23L.mul_assoc])
theorem Q4.add_mul (x y z : Q4) : (x.add y).mul z = (x.mul z).add (y.mul z) := toQ_inj (by simp only [toQ_mul, toQ_add, Q23L.add_mul])
theorem Q4.sub_add (x y : Q4) : (x.sub y).add y = x := toQ_inj (by simp only [toQ_add, toQ_sub, Q23L.sub_add])
theorem Q4.neg_add (x : Q4) : x.neg.add x = Q4.zero := toQ_inj (by rw [toQ_add, toQ_neg, Q23L.neg_add_self]; rfl)
theorem Q4.div_mul' {x y : Q4} (h : y ≠ Q4.zero) : (x.div y).mul y = x := toQ_inj (by rw [toQ_mul, Q4.div_mul h])
theorem W4.add_comm (x y : W4) : x.add y = y.add x := W4.ext' (Q4.add_comm _ _) (Q4.add_comm _ _)
theorem W4.add_assoc (x y z : W4) : (x.add y).add z = x.add (y.add z) := W4.ext' (Q4.add_assoc _ _ _) (Q4.add_assoc _ _ _)
theorem W4.sub_add (x y : W4) : (x.sub y).add y = x := W4.ext' (Q4.sub_add _ _) (Q4.sub_add _ _)
theorem W4.neg_add (x : W4) : x.neg.add x = W4.zero := W4.ext' (Q4.neg_add _) (Q4.neg_add _)
theorem W4.mul_comm (x y : W4) : x.mul y = y.mul x := W4.ext' (by unfold W4.mul; rw [Q4.mul_comm x.re, Q4.mul_comm x.im]) (by show (x.re.mul y.im).add (x.im.mul y.re) = (y.re.mul x.im).add (y.im.mul x.re); rw [Q4.add_comm, Q4.mul_comm x.im, Q4.mul_comm x.re])
theorem W4.mul_assoc (x y z : W4) : (x.mul y).mul z = x.mul (y.mul z) := by
 refine W4.ext' (toQ_inj ?_) (toQ_inj ?_)
 · simp only [W4.mul, toQ_sub, toQ_mul, toQ_add, Q23L.sub_eq, Q23L.add_mul, Q23L.mul_add, Q23L.neg_mul, Q23L.mul_neg, Q23L.neg_add, Q23L.mul_assoc, Q23L.add_assoc]
   simp only [Q23L.add_assoc, Q23L.add_comm]
 · simp only [W4.mul, toQ_sub, toQ_mul, toQ_add, Q23L.sub_eq, Q23L.add_mul, Q23L.mul_add, Q23L.neg_mul, Q23L.mul_neg, Q23L.mul_assoc, Q23L.add_assoc]
   simp only [Q23L.add_assoc, Q23L.add_comm, Q23L.add_left]
theorem W4.add_mul (x y z : W4) : (x.add y).mul z = (x.mul z).add (y.mul z) := by
 refine W4.ext' (toQ_inj ?_) (toQ_inj ?_)
 · simp only [W4.mul, W4.add, toQ_sub, toQ_mul, toQ_add, Q23L.sub_eq, Q23L.add_mul, Q23L.neg_add, Q23L.add_assoc]
   simp only [Q23L.add_left]
 · simp only [W4.mul, W4.add, toQ_mul, toQ_add, Q23L.add_mul, Q23L.add_assoc]
   simp only [Q23L.add_assoc, Q23L.add_comm, Q23L.add_left]
theorem W4.mul_conj (x y : W4) : (x.mul y).conj = x.conj.mul y.conj := by
 refine W4.ext' (toQ_inj ?_) (toQ_inj ?_)
 · simp only [W4.mul, W4.conj, toQ_sub, toQ_mul, toQ_neg, Q23L.neg_mul, Q23L.mul_neg, Q23L.neg_neg]
 · simp only [W4.mul, W4.conj, toQ_add, toQ_mul, toQ_neg, Q23L.neg_mul, Q23L.mul_neg, Q23L.neg_add]
theorem sq_no {a b : Q23} (h : a + b * b = 0) (ha : C.pos a) : False := by
 rcases C.tri b with h0 | h0 | h0
 · rw [h0] at h
   have e : a + (0 : Q23) * 0 = a := by (refine Q23.ext' (Q2.ext' ?_ ?_) (Q2.ext' ?_ ?_) <;> (simp only [Q23.add_re, Q23.add_im, Q23.mul_re, Q23.mul_im, Q23.zero_re, Q23.zero_im, Q2.add_re, Q2.add_im, Q2.mul_re, Q2.mul_im, Q2.zero_re, Q2.zero_im, Q2.three_re, Q2.three_im]; grind))
   rw [e] at h
   rw [h] at ha
   exact C.zero ha
 · have := C.add ha (C.mul h0 h0)
   rw [h] at this
   exact C.zero this
 · have e : b * b = -b * -b := by rw [Q23L.neg_mul, Q23L.mul_neg, Q23L.neg_neg]
   rw [e] at h
   have := C.add ha (C.mul h0 h0)
   rw [h] at this
   exact C.zero this
theorem sq_sum {a b : Q23} (h : a * a + b * b = 0) : a = 0 ∧ b = 0 := by
 have ha : a = 0 := by
   rcases C.tri a with h0 | h0 | h0
   · exact h0
   · exact (sq_no h (C.mul h0 h0)).elim
   · have : a * a = -a * -a := by rw [Q23L.neg_mul, Q23L.mul_neg, Q23L.neg_neg]
     rw [this] at h
     exact (sq_no h (C.mul h0 h0)).elim
 refine ⟨ha, ?_⟩
 rw [ha] at h
 have hb : b * b = 0 := by
   have e : (0 : Q23) * 0 + b * b = b * b := by (refine Q23.ext' (Q2.ext' ?_ ?_) (Q2.ext' ?_ ?_) <;> (simp only [Q23.add_re, Q23.add_im, Q23.mul_re, Q23.mul_im, Q23.zero_re, Q23.zero_im, Q2.add_re, Q2.add_im, Q2.mul_re, Q2.mul_im, Q2.zero_re, Q2.zero_im, Q2.three_re, Q2.three_im]; grind))
   rw [← e, h]
 refine Classical.byContradiction fun hn => C.mul_ne hn hn hb
theorem W4.norm_ne {y : W4} (h : y ≠ W4.zero) : y.norm ≠ Q4.zero := by
 intro hn
 have := congrArg Q4.toQ hn
 rw [toQ_zero] at this
 unfold W4.norm at this
 rw [toQ_add, toQ_mul, toQ_mul] at this
 obtain ⟨h1, h2⟩ := sq_sum this
 exact h (W4.ext' (toQ_inj (h1.trans toQ_zero.symm)) (toQ_inj (h2.trans toQ_zero.symm)))
theorem wdiv_re {p q a b c d n : Q23} (hn : n = c * c + d * d) (e1 : p * n = a * c - b * -d) (e2 : q * n = a * -d + b * c) : (p * c - q * d) * n = a * n := by
 have h1 : (p * c - q * d) * n = (p * n) * c - (q * n) * d := by (refine Q23.ext' (Q2.ext' ?_ ?_) (Q2.ext' ?_ ?_) <;> (simp only [Q23.mul_re, Q23.mul_im, Q23.sub_re, Q23.sub_im, Q2.add_re, Q2.add_im, Q2.mul_re, Q2.mul_im, Q2.sub_re, Q2.sub_im, Q2.three_re, Q2.three_im]; grind))
 rw [h1, e1, e2, hn]
 (refine Q23.ext' (Q2.ext' ?_ ?_) (Q2.ext' ?_ ?_) <;> (simp only [Q23.add_re, Q23.add_im, Q23.mul_re, Q23.mul_im, Q23.neg_re, Q23.neg_im, Q23.sub_re, Q23.sub_im, Q2.add_re, Q2.add_im, Q2.mul_re, Q2.mul_im, Q2.neg_re, Q2.neg_im, Q2.sub_re, Q2.sub_im, Q2.three_re, Q2.three_im]; grind))
theorem wdiv_im {p q a b c d n : Q23} (hn : n = c * c + d * d) (e1 : p * n = a * c - b * -d) (e2 : q * n = a * -d + b * c) : (p * d + q * c) * n = b * n := by
 have h1 : (p * d + q * c) * n = (p * n) * d + (q * n) * c := by (refine Q23.ext' (Q2.ext' ?_ ?_) (Q2.ext' ?_ ?_) <;> (simp only [Q23.add_re, Q23.add_im, Q23.mul_re, Q23.mul_im, Q2.add_re, Q2.add_im, Q2.mul_re, Q2.mul_im, Q2.three_re, Q2.three_im]; grind))
 rw [h1, e1, e2, hn]
 (refine Q23.ext' (Q2.ext' ?_ ?_) (Q2.ext' ?_ ?_) <;> (simp only [Q23.add_re, Q23.add_im, Q23.mul_re, Q23.mul_im, Q23.neg_re, Q23.neg_im, Q23.sub_re, Q23.sub_im, Q2.add_re, Q2.add_im, Q2.mul_re, Q2.mul_im, Q2.neg_re, Q2.neg_im, Q2.sub_re, Q2.sub_im, Q2.three_re, Q2.three_im]; grind))
theorem cancel {a b n : Q23} (hn : n ≠ 0) (h : a * n = b * n) : a = b := by
 have h1 : (a - b) * n = 0 := by
   have : (a - b) * n = a * n - b * n := by (refine Q23.ext' (Q2.ext' ?_ ?_) (Q2.ext' ?_ ?_) <;> (simp only [Q23.mul_re, Q23.mul_im, Q23.sub_re, Q23.sub_im, Q2.add_re, Q2.add_im, Q2.mul_re, Q2.mul_im, Q2.sub_re, Q2.sub_im, Q2.three_re, Q2.three_im]; grind))
   rw [this, h]
   generalize b * n = c
   (refine Q23.ext' (Q2.ext' ?_ ?_) (Q2.ext' ?_ ?_) <;> (simp only [Q23.sub_re, Q23.sub_im, Q23.zero_re, Q23.zero_im, Q2.sub_re, Q2.sub_im, Q2.zero_re, Q2.zero_im]; grind))
 have h2 : a - b = 0 := Classical.byContradiction fun h0 => C.mul_ne h0 hn h1
 have h3 : a = (a - b) + b := by rw [Q23L.sub_add]
 rw [h3, h2]
 (refine Q23.ext' (Q2.ext' ?_ ?_) (Q2.ext' ?_ ?_) <;> (simp only [Q23.add_re, Q23.add_im, Q23.zero_re, Q23.zero_im, Q2.add_re, Q2.add_im, Q2.zero_re, Q2.zero_im]; grind))
theorem W4.mul_div {x y : W4} (h : y ≠ W4.zero) : (x.div y).mul y = x := by
 have hn := e4_ne.2 (W4.norm_ne h)
 have e1 := Q4.div_mul (x := (x.mul y.conj).re) (W4.norm_ne h)
 have e2 := Q4.div_mul (x := (x.mul y.conj).im) (W4.norm_ne h)
 have hN : y.norm.toQ = y.re.toQ * y.re.toQ + y.im.toQ * y.im.toQ := by unfold W4.norm; rw [toQ_add, toQ_mul, toQ_mul]
 have f1 : (x.mul y.conj).re.toQ = x.re.toQ * y.re.toQ - x.im.toQ * -y.im.toQ := by show ((x.re.mul y.re).sub (x.im.mul y.im.neg)).toQ = _; rw [toQ_sub, toQ_mul, toQ_mul, toQ_neg]
 have f2 : (x.mul y.conj).im.toQ = x.re.toQ * -y.im.toQ + x.im.toQ * y.re.toQ := by show ((x.re.mul y.im.neg).add (x.im.mul y.re)).toQ = _; rw [toQ_add, toQ_mul, toQ_mul, toQ_neg]
 rw [f1] at e1
 rw [f2] at e2
 refine W4.ext' (toQ_inj (cancel hn ?_)) (toQ_inj (cancel hn ?_))
 · show (((x.div y).re.mul y.re).sub ((x.div y).im.mul y.im)).toQ * _ = _
   rw [toQ_sub, toQ_mul, toQ_mul]
   exact wdiv_re hN e1 e2
 · show (((x.div y).re.mul y.im).add ((x.div y).im.mul y.re)).toQ * _ = _
   rw [toQ_add, toQ_mul, toQ_mul]
   exact wdiv_im hN e1 e2
end Go.Proofs.Ytpjakokgmgggiaa

/- What is to be shown of the calls of some functions. (Printed by gen/vc.py.) -/
namespace Go.Proofs.Ytpjakokgmgggiaa
open Go.RowKit
open Sy (Up Sees CallsG Seg execFn_use)
set_option maxRecDepth 100000
variable {k : World} {R : World → Value → Prop}
theorem wAdd_vc {cs0 cs1 cs2 cs3 : Array Value} (hcs0 : Seg 9 cs0) (hcs1 : Seg 9 cs1) (hcs2 : Seg 9 cs2) (hcs3 : Seg 9 cs3)
    (h : ∀ k0, Up k k0 → CallsG Try.prog 75 #[Value.agg cs0, Value.agg cs2] k0 fun k1 r0 => ∃ cs4, Seg 9 cs4 ∧ some (Value.agg cs4) = some r0 ∧
 ∀ k2, Up k1 k2 → CallsG Try.prog 75 #[Value.agg cs1, Value.agg cs3] k2 fun k3 r2 => ∃ cs5, Seg 9 cs5 ∧ some (Value.agg cs5) = some r2 ∧
 ∀ k4, Up k3 k4 → R k4 (Value.agg (cs4.toList ++ (cs5.toList ++ ([]))).toArray)) :
    CallsG Try.prog 158 #[Value.agg (cs0.toList ++ (cs1.toList ++ ([]))).toArray, Value.agg (cs2.toList ++ (cs3.toList ++ ([]))).toArray] k R :=
  execFn_use (cfg := { opq := [53] }) (args := [.agg [.seg 0 9, .seg 1 9], .agg [.seg 2 9, .seg 3 9]]) (vals := [Value.agg cs0, Value.agg cs1, Value.agg cs2, Value.agg cs3]) (kinds := [.seg 9, .seg 9, .seg 9, .seg 9]) (by kernel_rfl) ⟨⟨cs0, rfl, hcs0⟩, ⟨⟨cs1, rfl, hcs1⟩, ⟨⟨cs2, rfl, hcs2⟩, ⟨⟨cs3, rfl, hcs3⟩, trivial⟩⟩⟩⟩ (by kernel_rfl) (by kernel_rfl) h
theorem wSub_vc {cs0 cs1 cs2 cs3 : Array Value} (hcs0 : Seg 9 cs0) (hcs1 : Seg 9 cs1) (hcs2 : Seg 9 cs2) (hcs3 : Seg 9 cs3)
    (h : ∀ k0, Up k k0 → CallsG Try.prog 60 #[Value.agg cs0, Value.agg cs2] k0 fun k1 r0 => ∃ cs4, Seg 9 cs4 ∧ some (Value.agg cs4) = some r0 ∧
 ∀ k2, Up k1 k2 → CallsG Try.prog 60 #[Value.agg cs1, Value.agg cs3] k2 fun k3 r2 => ∃ cs5, Seg 9 cs5 ∧ some (Value.agg cs5) = some r2 ∧
 ∀ k4, Up k3 k4 → R k4 (Value.agg (cs4.toList ++ (cs5.toList ++ ([]))).toArray)) :
    CallsG Try.prog 164 #[Value.agg (cs0.toList ++ (cs1.toList ++ ([]))).toArray, Value.agg (cs2.toList ++ (cs3.toList ++ ([]))).toArray] k R :=
  execFn_use (cfg := { opq := [53] }) (args := [.agg [.seg 0 9, .seg 1 9], .agg [.seg 2 9, .seg 3 9]]) (vals := [Value.agg cs0, Value.agg cs1, Value.agg cs2, Value.agg cs3]) (kinds := [.seg 9, .seg 9, .seg 9, .seg 9]) (by kernel_rfl) ⟨⟨cs0, rfl, hcs0⟩, ⟨⟨cs1, rfl, hcs1⟩, ⟨⟨cs2, rfl, hcs2⟩, ⟨⟨cs3, rfl, hcs3⟩, trivial⟩⟩⟩⟩ (by kernel_rfl) (by kernel_rfl) h
theorem wMul_vc {cs0 cs1 cs2 cs3 : Array Value} (hcs0 : Seg 9 cs0) (hcs1 : Seg 9 cs1) (hcs2 : Seg 9 cs2) (hcs3 : Seg 9 cs3)
    (h : ∀ k0, Up k k0 → CallsG Try.prog 42 #[Value.agg cs0, Value.agg cs2] k0 fun k1 r0 => ∃ cs4, Seg 9 cs4 ∧ some (Value.agg cs4) = some r0 ∧
 ∀ k2, Up k1 k2 → CallsG Try.prog 42 #[Value.agg cs1, Value.agg cs3] k2 fun k3 r2 => ∃ cs5, Seg 9 cs5 ∧ some (Value.agg cs5) = some r2 ∧
 ∀ k4, Up k3 k4 → CallsG Try.prog 60 #[Value.agg cs4, Value.agg cs5] k4 fun k5 r4 => ∃ cs6, Seg 9 cs6 ∧ some (Value.agg cs6) = some r4 ∧
 ∀ k6, Up k5 k6 → CallsG Try.prog 42 #[Value.agg cs0, Value.agg cs3] k6 fun k7 r6 => ∃ cs7, Seg 9 cs7 ∧ some (Value.agg cs7) = some r6 ∧
 ∀ k8, Up k7 k8 → CallsG Try.prog 42 #[Value.agg cs1, Value.agg cs2] k8 fun k9 r8 => ∃ cs8, Seg 9 cs8 ∧ some (Value.agg cs8) = some r8 ∧
 ∀ k10, Up k9 k10 → CallsG Try.prog 75 #[Value.agg cs7, Value.agg cs8] k10 fun k11 r10 => ∃ cs9, Seg 9 cs9 ∧ some (Value.agg cs9) = some r10 ∧
 ∀ k12, Up k11 k12 → R k12 (Value.agg (cs6.toList ++ (cs9.toList ++ ([]))).toArray)) :
    CallsG Try.prog 40 #[Value.agg (cs0.toList ++ (cs1.toList ++ ([]))).toArray, Value.agg (cs2.toList ++ (cs3.toList ++ ([]))).toArray] k R :=
  execFn_use (cfg := { opq := [53] }) (args := [.agg [.seg 0 9, .seg 1 9], .agg [.seg 2 9, .seg 3 9]]) (vals := [Value.agg cs0, Value.agg cs1, Value.agg cs2, Value.agg cs3]) (kinds := [.seg 9, .seg 9, .seg 9, .seg 9]) (by kernel_rfl) ⟨⟨cs0, rfl, hcs0⟩, ⟨⟨cs1, rfl, hcs1⟩, ⟨⟨cs2, rfl, hcs2⟩, ⟨⟨cs3, rfl, hcs3⟩, trivial⟩⟩⟩⟩ (by kernel_rfl) (by kernel_rfl) h
theorem wNeg_vc {cs0 cs1 : Array Value} (hcs0 : Seg 9 cs0) (hcs1 : Seg 9 cs1)
    (h : ∀ k0, Up k k0 → CallsG Try.prog 90 #[Value.agg cs0] k0 fun k1 r0 => ∃ cs2, Seg 9 cs2 ∧ some (Value.agg cs2) = some r0 ∧
 ∀ k2, Up k1 k2 → CallsG Try.prog 90 #[Value.agg cs1] k2 fun k3 r2 => ∃ cs3, Seg 9 cs3 ∧ some (Value.agg cs3) = some r2 ∧
 ∀ k4, Up k3 k4 → R k4 (Value.agg (cs2.toList ++ (cs3.toList ++ ([]))).toArray)) :
    CallsG Try.prog 162 #[Value.agg (cs0.toList ++ (cs1.toList ++ ([]))).toArray] k R :=
  execFn_use (cfg := { opq := [53] }) (args := [.agg [.seg 0 9, .seg 1 9]]) (vals := [Value.agg cs0, Value.agg cs1]) (kinds := [.seg 9, .seg 9]) (by kernel_rfl) ⟨⟨cs0, rfl, hcs0⟩, ⟨⟨cs1, rfl, hcs1⟩, trivial⟩⟩ (by kernel_rfl) (by kernel_rfl) h
theorem wConj_vc {cs0 cs1 : Array Value} (hcs0 : Seg 9 cs0) (hcs1 : Seg 9 cs1)
    (h : ∀ k0, Up k k0 → CallsG Try.prog 90 #[Value.agg cs1] k0 fun k1 r0 => ∃ cs2, Seg 9 cs2 ∧ some (Value.agg cs2) = some r0 ∧
 ∀ k2, Up k1 k2 → R k2 (Value.agg (cs0.toList ++ (cs2.toList ++ ([]))).toArray)) :
    CallsG Try.prog 159 #[Value.agg (cs0.toList ++ (cs1.toList ++ ([]))).toArray] k R :=
  execFn_use (cfg := { opq := [53] }) (args := [.agg [.seg 0 9, .seg 1 9]]) (vals := [Value.agg cs0, Value.agg cs1]) (kinds := [.seg 9, .seg 9]) (by kernel_rfl) ⟨⟨cs0, rfl, hcs0⟩, ⟨⟨cs1, rfl, hcs1⟩, trivial⟩⟩ (by kernel_rfl) (by kernel_rfl) h
theorem wZero_vc {cs0 cs1 : Array Value} (hcs0 : Seg 9 cs0) (hcs1 : Seg 9 cs1)
    (h : ∀ k0, Up k k0 → CallsG Try.prog 61 #[Value.agg cs0] k0 fun k1 r0 => ∃ b2, some (Value.bool b2) = some r0 ∧
 (b2 = true →
 (∀ k2, Up k1 k2 → CallsG Try.prog 61 #[Value.agg cs1] k2 fun k3 r2 => ∃ b3, some (Value.bool b3) = some r2 ∧
 ∀ k4, Up k3 k4 → R k4 (Value.bool b3))) ∧
 (b2 = false →
 (∀ k5, Up k1 k5 → R k5 (Value.bool false)))) :
    CallsG Try.prog 165 #[Value.agg (cs0.toList ++ (cs1.toList ++ ([]))).toArray] k R :=
  execFn_use (cfg := { opq := [53] }) (args := [.agg [.seg 0 9, .seg 1 9]]) (vals := [Value.agg cs0, Value.agg cs1]) (kinds := [.seg 9, .seg 9]) (by kernel_rfl) ⟨⟨cs0, rfl, hcs0⟩, ⟨⟨cs1, rfl, hcs1⟩, trivial⟩⟩ (by kernel_rfl) (by kernel_rfl) h
theorem wSame_vc {cs0 cs1 cs2 cs3 : Array Value} (hcs0 : Seg 9 cs0) (hcs1 : Seg 9 cs1) (hcs2 : Seg 9 cs2) (hcs3 : Seg 9 cs3)
    (h : ∀ k0, Up k k0 → CallsG Try.prog 24 #[Value.agg cs0, Value.agg cs2] k0 fun k1 r0 => ∃ b4, some (Value.bool b4) = some r0 ∧
 (b4 = true →
 (∀ k2, Up k1 k2 → CallsG Try.prog 24 #[Value.agg cs1, Value.agg cs3] k2 fun k3 r2 => ∃ b5, some (Value.bool b5) = some r2 ∧
 ∀ k4, Up k3 k4 → R k4 (Value.bool b5))) ∧
 (b4 = false →
 (∀ k5, Up k1 k5 → R k5 (Value.bool false)))) :
    CallsG Try.prog 163 #[Value.agg (cs0.toList ++ (cs1.toList ++ ([]))).toArray, Value.agg (cs2.toList ++ (cs3.toList ++ ([]))).toArray] k R :=
  execFn_use (cfg := { opq := [53] }) (args := [.agg [.seg 0 9, .seg 1 9], .agg [.seg 2 9, .seg 3 9]]) (vals := [Value.agg cs0, Value.agg cs1, Value.agg cs2, Value.agg cs3]) (kinds := [.seg 9, .seg 9, .seg 9, .seg 9]) (by kernel_rfl) ⟨⟨cs0, rfl, hcs0⟩, ⟨⟨cs1, rfl, hcs1⟩, ⟨⟨cs2, rfl, hcs2⟩, ⟨⟨cs3, rfl, hcs3⟩, trivial⟩⟩⟩⟩ (by kernel_rfl) (by kernel_rfl) h
theorem wNorm_vc {cs0 cs1 : Array Value} (hcs0 : Seg 9 cs0) (hcs1 : Seg 9 cs1)
    (h : ∀ k0, Up k k0 → CallsG Try.prog 42 #[Value.agg cs0, Value.agg cs0] k0 fun k1 r0 => ∃ cs2, Seg 9 cs2 ∧ some (Value.agg cs2) = some r0 ∧
 ∀ k2, Up k1 k2 → CallsG Try.prog 42 #[Value.agg cs1, Value.agg cs1] k2 fun k3 r2 => ∃ cs3, Seg 9 cs3 ∧ some (Value.agg cs3) = some r2 ∧
 ∀ k4, Up k3 k4 → CallsG Try.prog 75 #[Value.agg cs2, Value.agg cs3] k4 fun k5 r4 => ∃ cs4, Seg 9 cs4 ∧ some (Value.agg cs4) = some r4 ∧
 ∀ k6, Up k5 k6 → R k6 (Value.agg cs4)) :
    CallsG Try.prog 41 #[Value.agg (cs0.toList ++ (cs1.toList ++ ([]))).toArray] k R :=
  execFn_use (cfg := { opq := [53] }) (args := [.agg [.seg 0 9, .seg 1 9]]) (vals := [Value.agg cs0, Value.agg cs1]) (kinds := [.seg 9, .seg 9]) (by kernel_rfl) ⟨⟨cs0, rfl, hcs0⟩, ⟨⟨cs1, rfl, hcs1⟩, trivial⟩⟩ (by kernel_rfl) (by kernel_rfl) h
theorem wDiv_vc {cs0 cs1 cs2 cs3 : Array Value} (hcs0 : Seg 9 cs0) (hcs1 : Seg 9 cs1) (hcs2 : Seg 9 cs2) (hcs3 : Seg 9 cs3)
    (h : ∀ k0, Up k k0 → CallsG Try.prog 165 #[Value.agg (cs2.toList ++ (cs3.toList ++ ([]))).toArray] k0 fun k1 r0 => ∃ b4, some (Value.bool b4) = some r0 ∧
 (b4 = true →
 (∀ k2, Up k1 k2 → R k2 (Value.tuple #[Value.agg #[Value.bool false, Value.slice none 0 0, Value.bool false, Value.slice none 0 0, Value.bool false, Value.slice none 0 0, Value.bool false, Value.slice none 0 0, Value.slice none 0 0, Value.bool false, Value.slice none 0 0, Value.bool false, Value.slice none 0 0, Value.bool false, Value.slice none 0 0, Value.bool false, Value.slice none 0 0, Value.slice none 0 0], Value.int .i64 3]))) ∧
 (b4 = false →
 (∀ k3, Up k1 k3 → CallsG Try.prog 159 #[Value.agg (cs2.toList ++ (cs3.toList ++ ([]))).toArray] k3 fun k4 r3 => ∃ cs5, Seg 9 cs5 ∧ ∃ cs6, Seg 9 cs6 ∧ some (Value.agg (cs5.toList ++ (cs6.toList ++ ([]))).toArray) = some r3 ∧
 ∀ k5, Up k4 k5 → CallsG Try.prog 40 #[Value.agg (cs0.toList ++ (cs1.toList ++ ([]))).toArray, Value.agg (cs5.toList ++ (cs6.toList ++ ([]))).toArray] k5 fun k6 r5 => ∃ cs7, Seg 9 cs7 ∧ ∃ cs8, Seg 9 cs8 ∧ some (Value.agg (cs7.toList ++ (cs8.toList ++ ([]))).toArray) = some r5 ∧
 ∀ k7, Up k6 k7 → CallsG Try.prog 41 #[Value.agg (cs2.toList ++ (cs3.toList ++ ([]))).toArray] k7 fun k8 r7 => ∃ cs9, Seg 9 cs9 ∧ some (Value.agg cs9) = some r7 ∧
 ∀ k9, Up k8 k9 → CallsG Try.prog 47 #[Value.agg cs7, Value.agg cs9] k9 fun k10 r9 => ∃ cs10, Seg 9 cs10 ∧ ∃ n11, some (Value.tuple #[Value.agg cs10, Value.int .i64 n11]) = some r9 ∧
 ∀ k11, Up k10 k11 → CallsG Try.prog 47 #[Value.agg cs8, Value.agg cs9] k11 fun k12 r11 => ∃ cs12, Seg 9 cs12 ∧ ∃ n13, some (Value.tuple #[Value.agg cs12, Value.int .i64 n13]) = some r11 ∧
 ∀ k13, Up k12 k13 → R k13 (Value.tuple #[Value.agg (cs10.toList ++ (cs12.toList ++ ([]))).toArray, Value.int .i64 0])))) :
    CallsG Try.prog 160 #[Value.agg (cs0.toList ++ (cs1.toList ++ ([]))).toArray, Value.agg (cs2.toList ++ (cs3.toList ++ ([]))).toArray] k R :=
  execFn_use (cfg := { opq := [53] }) (args := [.agg [.seg 0 9, .seg 1 9], .agg [.seg 2 9, .seg 3 9]]) (vals := [Value.agg cs0, Value.agg cs1, Value.agg cs2, Value.agg cs3]) (kinds := [.seg 9, .seg 9, .seg 9, .seg 9]) (by kernel_rfl) ⟨⟨cs0, rfl, hcs0⟩, ⟨⟨cs1, rfl, hcs1⟩, ⟨⟨cs2, rfl, hcs2⟩, ⟨⟨cs3, rfl, hcs3⟩, trivial⟩⟩⟩⟩ (by kernel_rfl) (by kernel_rfl) h
theorem pair_vc {cs0 cs1 : Array Value} (hcs0 : Seg 9 cs0) (hcs1 : Seg 9 cs1)
   (h : ∀ k0, Up k k0 → R k0 (Value.agg (cs0.toList ++ (cs1.toList ++ ([]))).toArray)) :
   CallsG Try.prog 72 #[Value.agg cs0, Value.agg cs1] k R :=
 execFn_use (cfg := { opq := [53] }) (args := [.agg [.seg 0 9], .agg [.seg 1 9]]) (vals := [Value.agg cs0, Value.agg cs1]) (kinds := [.seg 9, .seg 9]) (by kernel_rfl) ⟨⟨cs0, rfl, hcs0⟩, ⟨⟨cs1, rfl, hcs1⟩, trivial⟩⟩ (by kernel_rfl) (by kernel_rfl) h
end Go.Proofs.Ytpjakokgmgggiaa

/- Waves of the program. (Printed by gen/waves.py.) -/
namespace Go.Proofs.Ytpjakokgmgggiaa
open Go.RowKit Num Plain
open Sy (Up Sees CallsG Seg)
def cat2 (c0 c1 : Array Value) : Array Value := (c0.toList ++ (c1.toList ++ ([]))).toArray
theorem seg_cat2 {m n : Nat} {c0 c1 : Array Value} (h0 : Seg m c0) (h1 : Seg n c1) : Seg (m + n) (cat2 c0 c1) := by
 obtain ⟨a0, b0⟩ := h0
 obtain ⟨a1, b1⟩ := h1
 refine ⟨by simp [cat2, a0, a1], fun u hu => ?_⟩
 simp only [cat2, List.append_nil, List.mem_append] at hu
 rcases hu with hu | hu
 · exact b0 u hu
 · exact b1 u hu
def WaveV (k : World) (cs : Array Value) (w : W4) (K : Nat) : Prop := ∃ c0 c1 : Array Value, cs = cat2 c0 c1 ∧ SurdV k c0 w.re K ∧ SurdV k c1 w.im K
section
variable {k k' : World} {cs cs' c0 c1 : Array Value} {R : World → Value → Prop} {v v' : Q4} {x y : W4} {K L : Nat}
theorem WaveV.up (h : WaveV k cs x K) (u : Up k k') : WaveV k' cs x K := by
 obtain ⟨c0, c1, e, h0, h1⟩ := h
 exact ⟨c0, c1, e, h0.up u, h1.up u⟩
theorem WaveV.mono (h : WaveV k cs x K) (hL : K ≤ L) : WaveV k cs x L := by
 obtain ⟨c0, c1, e, h0, h1⟩ := h
 exact ⟨c0, c1, e, h0.mono hL, h1.mono hL⟩
theorem WaveV.seg (h : WaveV k cs x K) : Seg 18 cs := by
 obtain ⟨c0, c1, rfl, h0, h1⟩ := h
 exact seg_cat2 h0.seg h1.seg
theorem SZero_d (hx : SurdV k cs v K) (hK : K ≤ 268435456) (C : ∀ k', Up k k' → R k' (.bool (decide (v = Q4.zero)))) :
   ∀ k0, Up k k0 → CallsG Try.prog 61 #[.agg cs] k0 R :=
 SZero_s hx hK fun k' u b hb => by
   have e : b = decide (v = Q4.zero) := by rw [Bool.eq_iff_iff, hb, decide_eq_true_iff]
   rw [e]; exact C k' u
theorem SSame_d (hx : SurdV k cs v K) (hy : SurdV k cs' v' K) (hK1 : 1 ≤ K) (hK : K ≤ 134217727) (C : ∀ k', Up k k' → R k' (.bool (decide (v = v')))) :
   ∀ k0, Up k k0 → CallsG Try.prog 24 #[.agg cs, .agg cs'] k0 R :=
 SSame_s hx hy hK1 hK fun k' u b hb => by
   have e : b = decide (v = v') := by rw [Bool.eq_iff_iff, hb, decide_eq_true_iff, Q4.sub_zero_iff]
   rw [e]; exact C k' u
theorem SDiv_z (hx : SurdV k cs v K) (hy : SurdV k cs' v' K) (hz : v' = Q4.zero) (hK : K ≤ 33554431) (C : ∀ k', Up k k' → R k' (.tuple #[.agg #[.bool false, .slice none 0 0, .bool false, .slice none 0 0, .bool false, .slice none 0 0, .bool false, .slice none 0 0, .slice none 0 0], .int .i64 3])) :
   ∀ k0, Up k k0 → CallsG Try.prog 47 #[.agg cs, .agg cs'] k0 R := by
 intro k0 u0
 obtain ⟨_, _, _, _, D, d, e, x0, x1, x2, x3, m, rfl, hm, hg, rfl, i0, i1, i2, i3, lx, hd⟩ := hx.up u0
 have hy' := hy.up u0
 obtain ⟨_, _, _, _, D', d', e', y0, y1, y2, y3, n, rfl, hn, hg', rfl, j0, j1, j2, j3, ly, hd'⟩ := hy'
 obtain ⟨bx0, Ax0, nx0, cx0, rfl, i0⟩ := i0.dest
 obtain ⟨by0, Ay0, ny0, cy0, rfl, j0⟩ := j0.dest
 obtain ⟨bx1, Ax1, nx1, cx1, rfl, i1⟩ := i1.dest
 obtain ⟨by1, Ay1, ny1, cy1, rfl, j1⟩ := j1.dest
 obtain ⟨bx2, Ax2, nx2, cx2, rfl, i2⟩ := i2.dest
 obtain ⟨by2, Ay2, ny2, cy2, rfl, j2⟩ := j2.dest
 obtain ⟨bx3, Ax3, nx3, cx3, rfl, i3⟩ := i3.dest
 obtain ⟨by3, Ay3, ny3, cy3, rfl, j3⟩ := j3.dest
 replace hy := hy.up u0
 replace C := fun k' u => C k' (u0.trans u)
 refine SDiv_vc2 ?_
 refine SZero_s hy (by omega) ?_
 intro k1 u1 b hb
 refine ⟨b, rfl, fun _ k2 u2 => C k2 (u1.trans u2), fun hbf => ?_⟩
 rw [hb.2 hz] at hbf
 cases hbf
theorem SDiv_d (hx : SurdV k cs v K) (hy : SurdV k cs' v' K) (hK1 : 1 ≤ K) (hK : K ≤ 33554431)
   (C : ∀ k' ds, Up k k' → SurdV k' ds (v.div v') (5 * K + 12) → R k' (.tuple #[.agg ds, .int .i64 (if v' = Q4.zero then 3 else 0)])) :
   ∀ k0, Up k k0 → CallsG Try.prog 47 #[.agg cs, .agg cs'] k0 R := by
 by_cases hz : v' = Q4.zero
 · rw [if_pos hz, hz, Q4.div_zero] at C
   exact SDiv_z hx hy hz hK (fun k' u => C k' _ u (SurdV.nil (Nat.zero_le _)))
 · rw [if_neg hz] at C
   refine SDiv_s hx hy hK1 hK (fun k' u h => absurd h hz) (fun k' ds q u h e => ?_)
   rw [Q4.div_uniq hz e] at h
   exact C k' ds u (h.mono (by omega))
theorem WAdd_s (hx : WaveV k cs x K) (hy : WaveV k cs' y K) (hK1 : 1 ≤ K) (hK : K ≤ 134217727) (C : ∀ k' ds, Up k k' → WaveV k' ds (x.add y) (2 * K + 1) → R k' (.agg ds)) :
   ∀ k0, Up k k0 → CallsG Try.prog 158 #[.agg cs, .agg cs'] k0 R := by
 intro k0 u0
 obtain ⟨a, b, rfl, a0, b0⟩ := hx.up u0
 obtain ⟨c, d, rfl, c0, d0⟩ := hy.up u0
 refine wAdd_vc a0.seg b0.seg c0.seg d0.seg ?_
 refine SAdd_s a0 c0 hK1 (by omega) fun k1 e1 u1 h1 => ⟨e1, h1.seg, rfl, ?_⟩
 refine SAdd_s (b0.up u1) (d0.up u1) hK1 (by omega) fun k3 e3 u3 h3 => ⟨e3, h3.seg, rfl, fun k4 u4 => ?_⟩
 exact C k4 _ (((u0.trans u1).trans u3).trans u4) ⟨e1, e3, rfl, (h1.up u3).up u4, h3.up u4⟩
theorem WSub_s (hx : WaveV k cs x K) (hy : WaveV k cs' y K) (hK1 : 1 ≤ K) (hK : K ≤ 134217727) (C : ∀ k' ds, Up k k' → WaveV k' ds (x.sub y) (2 * K + 1) → R k' (.agg ds)) :
   ∀ k0, Up k k0 → CallsG Try.prog 164 #[.agg cs, .agg cs'] k0 R := by
 intro k0 u0
 obtain ⟨a, b, rfl, a0, b0⟩ := hx.up u0
 obtain ⟨c, d, rfl, c0, d0⟩ := hy.up u0
 refine wSub_vc a0.seg b0.seg c0.seg d0.seg ?_
 refine SSub_s a0 c0 hK1 (by omega) fun k1 e1 u1 h1 => ⟨e1, h1.seg, rfl, ?_⟩
 refine SSub_s (b0.up u1) (d0.up u1) hK1 (by omega) fun k3 e3 u3 h3 => ⟨e3, h3.seg, rfl, fun k4 u4 => ?_⟩
 exact C k4 _ (((u0.trans u1).trans u3).trans u4) ⟨e1, e3, rfl, (h1.up u3).up u4, h3.up u4⟩
theorem WMul_s (hx : WaveV k cs x K) (hy : WaveV k cs' y K) (hK1 : 1 ≤ K) (hK : K ≤ 33554431) (C : ∀ k' ds, Up k k' → WaveV k' ds (x.mul y) (4 * K + 9) → R k' (.agg ds)) :
   ∀ k0, Up k k0 → CallsG Try.prog 40 #[.agg cs, .agg cs'] k0 R := by
 intro k0 u0
 obtain ⟨a, b, rfl, a0, b0⟩ := hx.up u0
 obtain ⟨c, d, rfl, c0, d0⟩ := hy.up u0
 refine wMul_vc a0.seg b0.seg c0.seg d0.seg ?_
 refine SMul_s a0 c0 hK1 (by omega) fun k1 e1 u1 h1 => ⟨e1, h1.seg, rfl, ?_⟩
 refine SMul_s (b0.up u1) (d0.up u1) hK1 (by omega) fun k2 e2 u2 h2 => ⟨e2, h2.seg, rfl, ?_⟩
 refine SSub_s (h1.up u2) h2 (by omega) (by omega) fun k3 e3 u3 h3 => ⟨e3, h3.seg, rfl, ?_⟩
 have u123 := (u1.trans u2).trans u3
 refine SMul_s (a0.up u123) (d0.up u123) hK1 (by omega) fun k4 e4 u4 h4 => ⟨e4, h4.seg, rfl, ?_⟩
 refine SMul_s (b0.up (u123.trans u4)) (c0.up (u123.trans u4)) hK1 (by omega) fun k5 e5 u5 h5 => ⟨e5, h5.seg, rfl, ?_⟩
 refine SAdd_s (h4.up u5) h5 (by omega) (by omega) fun k6 e6 u6 h6 => ⟨e6, h6.seg, rfl, fun k7 u7 => ?_⟩
 exact C k7 _ (((((u0.trans u123).trans u4).trans u5).trans u6).trans u7) ⟨e3, e6, rfl, ((((h3.up u4).up u5).up u6).up u7).mono (by omega), (h6.up u7).mono (by omega)⟩
theorem WNeg_s (hx : WaveV k cs x K) (hK : K ≤ 268435456) (C : ∀ k' ds, Up k k' → WaveV k' ds x.neg K → R k' (.agg ds)) :
   ∀ k0, Up k k0 → CallsG Try.prog 162 #[.agg cs] k0 R := by
 intro k0 u0
 obtain ⟨a, b, rfl, a0, b0⟩ := hx.up u0
 refine wNeg_vc a0.seg b0.seg ?_
 refine SNeg_s a0 hK fun k1 e1 u1 h1 => ⟨e1, h1.seg, rfl, ?_⟩
 refine SNeg_s (b0.up u1) hK fun k2 e2 u2 h2 => ⟨e2, h2.seg, rfl, fun k4 u4 => ?_⟩
 exact C k4 _ (((u0.trans u1).trans u2).trans u4) ⟨e1, e2, rfl, (h1.up u2).up u4, h2.up u4⟩
theorem WConj_s (hx : WaveV k cs x K) (hK : K ≤ 268435456) (C : ∀ k' ds, Up k k' → WaveV k' ds x.conj K → R k' (.agg ds)) :
   ∀ k0, Up k k0 → CallsG Try.prog 159 #[.agg cs] k0 R := by
 intro k0 u0
 obtain ⟨a, b, rfl, a0, b0⟩ := hx.up u0
 refine wConj_vc a0.seg b0.seg ?_
 refine SNeg_s b0 hK fun k2 e2 u2 h2 => ⟨e2, h2.seg, rfl, fun k4 u4 => ?_⟩
 exact C k4 _ ((u0.trans u2).trans u4) ⟨a, e2, rfl, (a0.up u2).up u4, h2.up u4⟩
theorem WZero_s (hx : WaveV k cs x K) (hK : K ≤ 268435456) (C : ∀ k', Up k k' → R k' (.bool (decide (x = W4.zero)))) :
   ∀ k0, Up k k0 → CallsG Try.prog 165 #[.agg cs] k0 R := by
 intro k0 u0
 obtain ⟨a, b, rfl, a0, b0⟩ := hx.up u0
 rw [W4.zero_iff] at C
 refine wZero_vc a0.seg b0.seg (SZero_d a0 hK fun k1 u1 => ⟨_, rfl, fun h => ?_, fun h k5 u5 => ?_⟩)
 · rw [h] at C
   exact SZero_d (b0.up u1) hK fun k2 u2 => ⟨_, rfl, fun k3 u3 => C k3 (((u0.trans u1).trans u2).trans u3)⟩
 · rw [h] at C
   exact C k5 ((u0.trans u1).trans u5)
theorem WSame_s (hx : WaveV k cs x K) (hy : WaveV k cs' y K) (hK1 : 1 ≤ K) (hK : K ≤ 134217727) (C : ∀ k', Up k k' → R k' (.bool (decide (x = y)))) :
   ∀ k0, Up k k0 → CallsG Try.prog 163 #[.agg cs, .agg cs'] k0 R := by
 intro k0 u0
 obtain ⟨a, b, rfl, a0, b0⟩ := hx.up u0
 obtain ⟨c, d, rfl, c0, d0⟩ := hy.up u0
 rw [W4.same_iff] at C
 refine wSame_vc a0.seg b0.seg c0.seg d0.seg (SSame_d a0 c0 hK1 hK fun k1 u1 => ⟨_, rfl, fun h => ?_, fun h k5 u5 => ?_⟩)
 · rw [h] at C
   exact SSame_d (b0.up u1) (d0.up u1) hK1 hK fun k2 u2 => ⟨_, rfl, fun k3 u3 => C k3 (((u0.trans u1).trans u2).trans u3)⟩
 · rw [h] at C
   exact C k5 ((u0.trans u1).trans u5)
theorem WNorm_s (hx : WaveV k cs x K) (hK1 : 1 ≤ K) (hK : K ≤ 33554431) (C : ∀ k' ds, Up k k' → SurdV k' ds x.norm (4 * K + 9) → R k' (.agg ds)) :
   ∀ k0, Up k k0 → CallsG Try.prog 41 #[.agg cs] k0 R := by
 intro k0 u0
 obtain ⟨a, b, rfl, a0, b0⟩ := hx.up u0
 refine wNorm_vc a0.seg b0.seg ?_
 refine SMul_s a0 a0 hK1 (by omega) fun k1 e1 u1 h1 => ⟨e1, h1.seg, rfl, ?_⟩
 refine SMul_s (b0.up u1) (b0.up u1) hK1 (by omega) fun k2 e2 u2 h2 => ⟨e2, h2.seg, rfl, ?_⟩
 refine SAdd_s (h1.up u2) h2 (by omega) (by omega) fun k3 e3 u3 h3 => ⟨e3, h3.seg, rfl, fun k4 u4 => ?_⟩
 exact C k4 _ ((((u0.trans u1).trans u2).trans u3).trans u4) ((h3.up u4).mono (by omega))
theorem pair_s (hx : SurdV k cs v K) (hy : SurdV k cs' v' K) (C : ∀ k' ds, Up k k' → WaveV k' ds ⟨v, v'⟩ K → R k' (.agg ds)) :
   ∀ k0, Up k k0 → CallsG Try.prog 72 #[.agg cs, .agg cs'] k0 R :=
 fun _ u0 => pair_vc hx.seg hy.seg fun k1 u1 => C k1 _ (u0.trans u1) ⟨cs, cs', rfl, (hx.up u0).up u1, (hy.up u0).up u1⟩
theorem WDiv_s (hx : WaveV k cs x K) (hy : WaveV k cs' y K) (hK1 : 1 ≤ K) (hK : K ≤ 4194304) (C : ∀ k' ds, Up k k' → WaveV k' ds (x.div y) (20 * K + 57) → R k' (.tuple #[.agg ds, .int .i64 (if y = W4.zero then 3 else 0)])) :
   ∀ k0, Up k k0 → CallsG Try.prog 160 #[.agg cs, .agg cs'] k0 R := by
 intro k0 u0
 replace hx := hx.up u0
 replace hy := hy.up u0
 have hx' := hx
 have hy' := hy
 obtain ⟨a, b, rfl, a0, b0⟩ := hx'
 obtain ⟨c, d, rfl, c0, d0⟩ := hy'
 refine wDiv_vc a0.seg b0.seg c0.seg d0.seg (WZero_s hy (by omega) fun k1 u1 => ⟨_, rfl, fun hz k2 u2 => ?_, fun hz => ?_⟩)
 · have hz := of_decide_eq_true hz
   rw [if_pos hz, hz, W4.div_zero] at C
   exact C k2 _ ((u0.trans u1).trans u2) ⟨#[.bool false, .slice none 0 0, .bool false, .slice none 0 0, .bool false, .slice none 0 0, .bool false, .slice none 0 0, .slice none 0 0], #[.bool false, .slice none 0 0, .bool false, .slice none 0 0, .bool false, .slice none 0 0, .bool false, .slice none 0 0, .slice none 0 0], rfl, SurdV.nil (Nat.zero_le _), SurdV.nil (Nat.zero_le _)⟩
 · have hz := of_decide_eq_false hz
   rw [if_neg hz] at C
   refine WConj_s (hy.up u1) (by omega) fun k4 e4 u4 h4 => ?_
   have h4' := h4
   obtain ⟨p, q, rfl, p0, q0⟩ := h4'
   refine ⟨p, p0.seg, q, q0.seg, rfl, ?_⟩
   refine WMul_s ((hx.up u1).up u4) h4 hK1 (by omega) fun k6 e6 u6 h6 => ?_
   obtain ⟨r, s, rfl, r0, s0⟩ := h6
   refine ⟨r, r0.seg, s, s0.seg, rfl, ?_⟩
   refine WNorm_s (((hy.up u1).up u4).up u6) hK1 (by omega) fun k8 e8 u8 h8 => ⟨e8, h8.seg, rfl, ?_⟩
   refine SDiv_d (r0.up u8) h8 (by omega) (by omega) fun k10 e10 u10 h10 => ⟨e10, h10.seg, _, rfl, ?_⟩
   refine SDiv_d ((s0.up u8).up u10) (h8.up u10) (by omega) (by omega) fun k12 e12 u12 h12 => ⟨e12, h12.seg, _, rfl, fun k13 u13 => ?_⟩
   exact C k13 _ (((((((u0.trans u1).trans u4).trans u6).trans u8).trans u10).trans u12).trans u13) ⟨e10, e12, rfl, ((h10.up u12).up u13).mono (by omega), (h12.up u13).mono (by omega)⟩
end
end Go.Proofs.Ytpjakokgmgggiaa

/- What is to be shown of the calls of some functions. (Printed by gen/vc.py.) -/
namespace Go.Proofs.Ytpjakokgmgggiaa
open Go.RowKit
open Sy (Up Sees CallsG Seg execFn_use)
set_option maxRecDepth 100000
variable {k : World} {R : World → Value → Prop}
theorem OfWave_vc {n0 n1 n2 n3 n4 n5 n6 n7 n8 n9 n10 n11 n12 n13 n14 n15 : Int}
    (h : ∀ k0, Up k k0 → CallsG Try.prog 21 #[Value.agg #[Value.int .i64 n0, Value.int .i64 n1, Value.int .i64 n2, Value.int .i64 n3, Value.int .i64 n4, Value.int .i64 n5, Value.int .i64 n6, Value.int .i64 n7]] k0 fun k1 r0 => ∃ cs16, Seg 9 cs16 ∧ some (Value.agg cs16) = some r0 ∧
 ∀ k2, Up k1 k2 → CallsG Try.prog 21 #[Value.agg #[Value.int .i64 n8, Value.int .i64 n9, Value.int .i64 n10, Value.int .i64 n11, Value.int .i64 n12, Value.int .i64 n13, Value.int .i64 n14, Value.int .i64 n15]] k2 fun k3 r2 => ∃ cs17, Seg 9 cs17 ∧ some (Value.agg cs17) = some r2 ∧
 ∀ k4, Up k3 k4 → CallsG Try.prog 72 #[Value.agg cs16, Value.agg cs17] k4 fun k5 r4 => ∃ cs18, Seg 9 cs18 ∧ ∃ cs19, Seg 9 cs19 ∧ some (Value.agg (cs18.toList ++ (cs19.toList ++ ([]))).toArray) = some r4 ∧
 ∀ k6, Up k5 k6 → R k6 (Value.agg (cs18.toList ++ (cs19.toList ++ ([]))).toArray)) :
    CallsG Try.prog 33 #[Value.agg #[Value.int .i64 n0, Value.int .i64 n1, Value.int .i64 n2, Value.int .i64 n3, Value.int .i64 n4, Value.int .i64 n5, Value.int .i64 n6, Value.int .i64 n7, Value.int .i64 n8, Value.int .i64 n9, Value.int .i64 n10, Value.int .i64 n11, Value.int .i64 n12, Value.int .i64 n13, Value.int .i64 n14, Value.int .i64 n15]] k R :=
  execFn_use (cfg := { opq := [53] }) (args := [.agg [.var 0, .var 1, .var 2, .var 3, .var 4, .var 5, .var 6, .var 7, .var 8, .var 9, .var 10, .var 11, .var 12, .var 13, .var 14, .var 15]]) (vals := [Value.int .i64 n0, Value.int .i64 n1, Value.int .i64 n2, Value.int .i64 n3, Value.int .i64 n4, Value.int .i64 n5, Value.int .i64 n6, Value.int .i64 n7, Value.int .i64 n8, Value.int .i64 n9, Value.int .i64 n10, Value.int .i64 n11, Value.int .i64 n12, Value.int .i64 n13, Value.int .i64 n14, Value.int .i64 n15]) (kinds := [.int .i64, .int .i64, .int .i64, .int .i64, .int .i64, .int .i64, .int .i64, .int .i64, .int .i64, .int .i64, .int .i64, .int .i64, .int .i64, .int .i64, .int .i64, .int .i64]) (by kernel_rfl) ⟨⟨_, rfl⟩, ⟨⟨_, rfl⟩, ⟨⟨_, rfl⟩, ⟨⟨_, rfl⟩, ⟨⟨_, rfl⟩, ⟨⟨_, rfl⟩, ⟨⟨_, rfl⟩, ⟨⟨_, rfl⟩, ⟨⟨_, rfl⟩, ⟨⟨_, rfl⟩, ⟨⟨_, rfl⟩, ⟨⟨_, rfl⟩, ⟨⟨_, rfl⟩, ⟨⟨_, rfl⟩, ⟨⟨_, rfl⟩, ⟨⟨_, rfl⟩, trivial⟩⟩⟩⟩⟩⟩⟩⟩⟩⟩⟩⟩⟩⟩⟩⟩ (by kernel_rfl) (by kernel_rfl) h
theorem smallWave_vc {n0 n1 n2 n3 n4 n5 n6 n7 n8 n9 n10 n11 n12 n13 n14 n15 : Int}
    (h : ∀ k0, Up k k0 → CallsG Try.prog 34 #[Value.agg #[Value.int .i64 n0, Value.int .i64 n1, Value.int .i64 n2, Value.int .i64 n3, Value.int .i64 n4, Value.int .i64 n5, Value.int .i64 n6, Value.int .i64 n7]] k0 fun k1 r0 => ∃ b16, some (Value.bool b16) = some r0 ∧
 (b16 = true →
 (∀ k2, Up k1 k2 → CallsG Try.prog 34 #[Value.agg #[Value.int .i64 n8, Value.int .i64 n9, Value.int .i64 n10, Value.int .i64 n11, Value.int .i64 n12, Value.int .i64 n13, Value.int .i64 n14, Value.int .i64 n15]] k2 fun k3 r2 => ∃ b17, some (Value.bool b17) = some r2 ∧
 ∀ k4, Up k3 k4 → R k4 (Value.bool b17))) ∧
 (b16 = false →
 (∀ k5, Up k1 k5 → R k5 (Value.bool false)))) :
    CallsG Try.prog 29 #[Value.agg #[Value.int .i64 n0, Value.int .i64 n1, Value.int .i64 n2, Value.int .i64 n3, Value.int .i64 n4, Value.int .i64 n5, Value.int .i64 n6, Value.int .i64 n7, Value.int .i64 n8, Value.int .i64 n9, Value.int .i64 n10, Value.int .i64 n11, Value.int .i64 n12, Value.int .i64 n13, Value.int .i64 n14, Value.int .i64 n15]] k R :=
  execFn_use (cfg := { opq := [] }) (args := [.agg [.var 0, .var 1, .var 2, .var 3, .var 4, .var 5, .var 6, .var 7, .var 8, .var 9, .var 10, .var 11, .var 12, .var 13, .var 14, .var 15]]) (vals := [Value.int .i64 n0, Value.int .i64 n1, Value.int .i64 n2, Value.int .i64 n3, Value.int .i64 n4, Value.int .i64 n5, Value.int .i64 n6, Value.int .i64 n7, Value.int .i64 n8, Value.int .i64 n9, Value.int .i64 n10, Value.int .i64 n11, Value.int .i64 n12, Value.int .i64 n13, Value.int .i64 n14, Value.int .i64 n15]) (kinds := [.int .i64, .int .i64, .int .i64, .int .i64, .int .i64, .int .i64, .int .i64, .int .i64, .int .i64, .int .i64, .int .i64, .int .i64, .int .i64, .int .i64, .int .i64, .int .i64]) (by kernel_rfl) ⟨⟨_, rfl⟩, ⟨⟨_, rfl⟩, ⟨⟨_, rfl⟩, ⟨⟨_, rfl⟩, ⟨⟨_, rfl⟩, ⟨⟨_, rfl⟩, ⟨⟨_, rfl⟩, ⟨⟨_, rfl⟩, ⟨⟨_, rfl⟩, ⟨⟨_, rfl⟩, ⟨⟨_, rfl⟩, ⟨⟨_, rfl⟩, ⟨⟨_, rfl⟩, ⟨⟨_, rfl⟩, ⟨⟨_, rfl⟩, ⟨⟨_, rfl⟩, trivial⟩⟩⟩⟩⟩⟩⟩⟩⟩⟩⟩⟩⟩⟩⟩⟩ (by kernel_rfl) (by kernel_rfl) h
end Go.Proofs.Ytpjakokgmgggiaa

/- What is to be shown of the calls of some functions. (Printed by gen/vc.py.) -/
namespace Go.Proofs.Ytpjakokgmgggiaa
open Go.RowKit
open Sy (Up Sees CallsG Seg execFn_use)
set_option maxRecDepth 100000
variable {k : World} {R : World → Value → Prop}
theorem SConj_vc {cs0 : Array Value} (hcs0 : Seg 9 cs0)
   (h : ∀ k0, Up k k0 → R k0 (Value.agg cs0)) :
   CallsG Try.prog 156 #[Value.agg cs0] k R :=
 execFn_use (cfg := { opq := [53] }) (args := [.agg [.seg 0 9]]) (vals := [Value.agg cs0]) (kinds := [.seg 9]) (by kernel_rfl) ⟨⟨cs0, rfl, hcs0⟩, trivial⟩ (by kernel_rfl) (by kernel_rfl) h
end Go.Proofs.Ytpjakokgmgggiaa

/- The laws of a field: fractions, Surds, Waves; what ExactFields computes. (Printed by gen/fieldz.py.) -/
namespace Go.Proofs.Ytpjakokgmgggiaa
open Go.RowKit Num Plain
open Sy (Up Sees CallsG Seg)
section
variable {k k' : World} {R : World → Value → Prop} {K L : Nat} {cs cs' cx cy cz : Array Value}
theorem QSame_t {x y : Rat} (hx : RatV k cs x K) (hy : RatV k cs' y K) (e : x = y) (hK1 : 1 ≤ K) (hK : K ≤ 17179869184) (C : ∀ k', Up k k' → R k' (.bool true)) :
   ∀ k0, Up k k0 → CallsG Try.prog 26 #[.agg cs, .agg cs'] k0 R := QSame_s hx hy hK1 hK fun k' u => by rw [decide_eq_true e]; exact C k' u
theorem QZero_t {x : Rat} (hx : RatV k cs x K) (e : x = 0) (hK : K ≤ 17179869184) (C : ∀ k', Up k k' → R k' (.bool true)) :
   ∀ k0, Up k k0 → CallsG Try.prog 18 #[.agg cs] k0 R := QZero_s hx hK fun k' u => by rw [decide_eq_true e]; exact C k' u
theorem FSame_t {x y : Q4} (hx : SurdV k cs x K) (hy : SurdV k cs' y K) (e : x = y) (hK1 : 1 ≤ K) (hK : K ≤ 134217727) (C : ∀ k', Up k k' → R k' (.bool true)) :
   ∀ k0, Up k k0 → CallsG Try.prog 24 #[.agg cs, .agg cs'] k0 R := SSame_d hx hy hK1 hK fun k' u => by rw [decide_eq_true e]; exact C k' u
theorem FZero_t {x : Q4} (hx : SurdV k cs x K) (e : x = Q4.zero) (hK : K ≤ 268435456) (C : ∀ k', Up k k' → R k' (.bool true)) :
   ∀ k0, Up k k0 → CallsG Try.prog 61 #[.agg cs] k0 R := SZero_d hx hK fun k' u => by rw [decide_eq_true e]; exact C k' u
theorem SConj_s {x : Q4} (hx : SurdV k cs x K) (C : ∀ k' ds, Up k k' → SurdV k' ds x K → R k' (.agg ds)) :
   ∀ k0, Up k k0 → CallsG Try.prog 156 #[.agg cs] k0 R := fun _ u0 => SConj_vc hx.seg fun k1 u1 => C k1 cs (u0.trans u1) ((hx.up u0).up u1)
theorem GSame_t {x y : W4} (hx : WaveV k cs x K) (hy : WaveV k cs' y K) (e : x = y) (hK1 : 1 ≤ K) (hK : K ≤ 134217727) (C : ∀ k', Up k k' → R k' (.bool true)) :
   ∀ k0, Up k k0 → CallsG Try.prog 163 #[.agg cs, .agg cs'] k0 R := WSame_s hx hy hK1 hK fun k' u => by rw [decide_eq_true e]; exact C k' u
theorem GZero_t {x : W4} (hx : WaveV k cs x K) (e : x = W4.zero) (hK : K ≤ 268435456) (C : ∀ k', Up k k' → R k' (.bool true)) :
   ∀ k0, Up k k0 → CallsG Try.prog 165 #[.agg cs] k0 R := WZero_s hx hK fun k' u => by rw [decide_eq_true e]; exact C k' u
set_option maxRecDepth 4000 in
theorem fieldq_s {x y z : Rat} (hx : RatV k cx x 1) (hy : RatV k cy y 1) (hz : RatV k cz z 1) (C : ∀ k', Up k k' → R k' (.bool true)) :
   ∀ k0, Up k k0 → CallsG Try.prog 30 #[.agg cx, .agg cy, .agg cz] k0 R := by
 intro k0 u0
 replace C := fun k' u => C k' (u0.trans u)
 replace hx := hx.up u0
 replace hy := hy.up u0
 replace hz := hz.up u0
 clear u0
 refine fieldq_vc hx.seg hy.seg hz.seg ?_
 refine QAdd_s (K := 1) (hx.mono (by decide)) (hy.mono (by decide)) (by decide) (by decide) fun k1 d1 u1 p1 => ⟨d1, p1.seg, rfl, ?_⟩
 replace hx := hx.up u1
 replace hy := hy.up u1
 replace hz := hz.up u1
 replace C := fun k' u => C k' (u1.trans u)
 clear u1
 refine QAdd_s (K := 1) (hy.mono (by decide)) (hx.mono (by decide)) (by decide) (by decide) fun k2 d2 u2 p2 => ⟨d2, p2.seg, rfl, ?_⟩
 replace hx := hx.up u2
 replace hy := hy.up u2
 replace hz := hz.up u2
 replace p1 := p1.up u2
 replace C := fun k' u => C k' (u2.trans u)
 clear u2
 refine QSame_t (K := 3) (p1.mono (by decide)) (p2.mono (by decide)) (Rat.add_comm _ _) (by decide) (by decide) fun k3 u3 => ⟨_, rfl, fun h => (nomatch h), fun _ => ?_⟩
 clear p1 p2
 replace hx := hx.up u3
 replace hy := hy.up u3
 replace hz := hz.up u3
 replace C := fun k' u => C k' (u3.trans u)
 clear u3
 refine QMul_s (K := 1) (hx.mono (by decide)) (hy.mono (by decide)) (by decide) (by decide) fun k4 d4 u4 p3 => ⟨d4, p3.seg, rfl, ?_⟩
 replace hx := hx.up u4
 replace hy := hy.up u4
 replace hz := hz.up u4
 replace C := fun k' u => C k' (u4.trans u)
 clear u4
 refine QMul_s (K := 1) (hy.mono (by decide)) (hx.mono (by decide)) (by decide) (by decide) fun k5 d5 u5 p4 => ⟨d5, p4.seg, rfl, ?_⟩
 replace hx := hx.up u5
 replace hy := hy.up u5
 replace hz := hz.up u5
 replace p3 := p3.up u5
 replace C := fun k' u => C k' (u5.trans u)
 clear u5
 refine QSame_t (K := 3) (p3.mono (by decide)) (p4.mono (by decide)) (Rat.mul_comm _ _) (by decide) (by decide) fun k6 u6 => ⟨_, rfl, fun h => (nomatch h), fun _ => ?_⟩
 clear p3 p4
 replace hx := hx.up u6
 replace hy := hy.up u6
 replace hz := hz.up u6
 replace C := fun k' u => C k' (u6.trans u)
 clear u6
 refine QAdd_s (K := 1) (hx.mono (by decide)) (hy.mono (by decide)) (by decide) (by decide) fun k7 d7 u7 p5 => ⟨d7, p5.seg, rfl, ?_⟩
 replace hx := hx.up u7
 replace hy := hy.up u7
 replace hz := hz.up u7
 replace C := fun k' u => C k' (u7.trans u)
 clear u7
 refine QAdd_s (K := 3) (p5.mono (by decide)) (hz.mono (by decide)) (by decide) (by decide) fun k8 d8 u8 p6 => ⟨d8, p6.seg, rfl, ?_⟩
 clear p5
 replace hx := hx.up u8
 replace hy := hy.up u8
 replace hz := hz.up u8
 replace C := fun k' u => C k' (u8.trans u)
 clear u8
 refine QAdd_s (K := 1) (hy.mono (by decide)) (hz.mono (by decide)) (by decide) (by decide) fun k9 d9 u9 p7 => ⟨d9, p7.seg, rfl, ?_⟩
 replace hx := hx.up u9
 replace hy := hy.up u9
 replace hz := hz.up u9
 replace p6 := p6.up u9
 replace C := fun k' u => C k' (u9.trans u)
 clear u9
 refine QAdd_s (K := 3) (hx.mono (by decide)) (p7.mono (by decide)) (by decide) (by decide) fun k10 d10 u10 p8 => ⟨d10, p8.seg, rfl, ?_⟩
 clear p7
 replace hx := hx.up u10
 replace hy := hy.up u10
 replace hz := hz.up u10
 replace p6 := p6.up u10
 replace C := fun k' u => C k' (u10.trans u)
 clear u10
 refine QSame_t (K := 7) (p6.mono (by decide)) (p8.mono (by decide)) (Rat.add_assoc _ _ _) (by decide) (by decide) fun k11 u11 => ⟨_, rfl, fun h => (nomatch h), fun _ => ?_⟩
 clear p6 p8
 replace hx := hx.up u11
 replace hy := hy.up u11
 replace hz := hz.up u11
 replace C := fun k' u => C k' (u11.trans u)
 clear u11
 refine QMul_s (K := 1) (hx.mono (by decide)) (hy.mono (by decide)) (by decide) (by decide) fun k12 d12 u12 p9 => ⟨d12, p9.seg, rfl, ?_⟩
 replace hx := hx.up u12
 replace hy := hy.up u12
 replace hz := hz.up u12
 replace C := fun k' u => C k' (u12.trans u)
 clear u12
 refine QMul_s (K := 3) (p9.mono (by decide)) (hz.mono (by decide)) (by decide) (by decide) fun k13 d13 u13 p10 => ⟨d13, p10.seg, rfl, ?_⟩
 clear p9
 replace hx := hx.up u13
 replace hy := hy.up u13
 replace hz := hz.up u13
 replace C := fun k' u => C k' (u13.trans u)
 clear u13
 refine QMul_s (K := 1) (hy.mono (by decide)) (hz.mono (by decide)) (by decide) (by decide) fun k14 d14 u14 p11 => ⟨d14, p11.seg, rfl, ?_⟩
 replace hx := hx.up u14
 replace hy := hy.up u14
 replace hz := hz.up u14
 replace p10 := p10.up u14
 replace C := fun k' u => C k' (u14.trans u)
 clear u14
 refine QMul_s (K := 3) (hx.mono (by decide)) (p11.mono (by decide)) (by decide) (by decide) fun k15 d15 u15 p12 => ⟨d15, p12.seg, rfl, ?_⟩
 clear p11
 replace hx := hx.up u15
 replace hy := hy.up u15
 replace hz := hz.up u15
 replace p10 := p10.up u15
 replace C := fun k' u => C k' (u15.trans u)
 clear u15
 refine QSame_t (K := 7) (p10.mono (by decide)) (p12.mono (by decide)) (Rat.mul_assoc _ _ _) (by decide) (by decide) fun k16 u16 => ⟨_, rfl, fun h => (nomatch h), fun _ => ?_⟩
 clear p10 p12
 replace hx := hx.up u16
 replace hy := hy.up u16
 replace hz := hz.up u16
 replace C := fun k' u => C k' (u16.trans u)
 clear u16
 refine QAdd_s (K := 1) (hx.mono (by decide)) (hy.mono (by decide)) (by decide) (by decide) fun k17 d17 u17 p13 => ⟨d17, p13.seg, rfl, ?_⟩
 replace hx := hx.up u17
 replace hy := hy.up u17
 replace hz := hz.up u17
 replace C := fun k' u => C k' (u17.trans u)
 clear u17
 refine QMul_s (K := 3) (p13.mono (by decide)) (hz.mono (by decide)) (by decide) (by decide) fun k18 d18 u18 p14 => ⟨d18, p14.seg, rfl, ?_⟩
 clear p13
 replace hx := hx.up u18
 replace hy := hy.up u18
 replace hz := hz.up u18
 replace C := fun k' u => C k' (u18.trans u)
 clear u18
 refine QMul_s (K := 1) (hx.mono (by decide)) (hz.mono (by decide)) (by decide) (by decide) fun k19 d19 u19 p15 => ⟨d19, p15.seg, rfl, ?_⟩
 replace hx := hx.up u19
 replace hy := hy.up u19
 replace hz := hz.up u19
 replace p14 := p14.up u19
 replace C := fun k' u => C k' (u19.trans u)
 clear u19
 refine QMul_s (K := 1) (hy.mono (by decide)) (hz.mono (by decide)) (by decide) (by decide) fun k20 d20 u20 p16 => ⟨d20, p16.seg, rfl, ?_⟩
 replace hx := hx.up u20
 replace hy := hy.up u20
 replace p14 := p14.up u20
 replace p15 := p15.up u20
 replace C := fun k' u => C k' (u20.trans u)
 clear u20
 refine QAdd_s (K := 3) (p15.mono (by decide)) (p16.mono (by decide)) (by decide) (by decide) fun k21 d21 u21 p17 => ⟨d21, p17.seg, rfl, ?_⟩
 clear p15 p16
 replace hx := hx.up u21
 replace hy := hy.up u21
 replace p14 := p14.up u21
 replace C := fun k' u => C k' (u21.trans u)
 clear u21
 refine QSame_t (K := 7) (p14.mono (by decide)) (p17.mono (by decide)) (Rat.add_mul _ _ _) (by decide) (by decide) fun k22 u22 => ⟨_, rfl, fun h => (nomatch h), fun _ => ?_⟩
 clear p14 p17
 replace hx := hx.up u22
 replace hy := hy.up u22
 replace C := fun k' u => C k' (u22.trans u)
 clear u22
 clear hz
 refine QSub_s (K := 1) (hx.mono (by decide)) (hy.mono (by decide)) (by decide) (by decide) fun k23 d23 u23 p18 => ⟨d23, p18.seg, rfl, ?_⟩
 replace hx := hx.up u23
 replace hy := hy.up u23
 replace C := fun k' u => C k' (u23.trans u)
 clear u23
 refine QAdd_s (K := 3) (p18.mono (by decide)) (hy.mono (by decide)) (by decide) (by decide) fun k24 d24 u24 p19 => ⟨d24, p19.seg, rfl, ?_⟩
 clear p18
 replace hx := hx.up u24
 replace hy := hy.up u24
 replace C := fun k' u => C k' (u24.trans u)
 clear u24
 refine QSame_t (K := 7) (p19.mono (by decide)) (hx.mono (by decide)) (by grind) (by decide) (by decide) fun k25 u25 => ⟨_, rfl, fun h => (nomatch h), fun _ => ?_⟩
 clear p19
 replace hx := hx.up u25
 replace hy := hy.up u25
 replace C := fun k' u => C k' (u25.trans u)
 clear u25
 refine QNeg_s hx (by decide) fun k26 d26 u26 p20 => ⟨d26, p20.seg, rfl, ?_⟩
 replace hx := hx.up u26
 replace hy := hy.up u26
 replace C := fun k' u => C k' (u26.trans u)
 clear u26
 refine QAdd_s (K := 1) (p20.mono (by decide)) (hx.mono (by decide)) (by decide) (by decide) fun k27 d27 u27 p21 => ⟨d27, p21.seg, rfl, ?_⟩
 clear p20
 replace hx := hx.up u27
 replace hy := hy.up u27
 replace C := fun k' u => C k' (u27.trans u)
 clear u27
 refine QZero_t p21 (Rat.neg_add_cancel _) (by decide) fun k28 u28 => ⟨_, rfl, fun h => (nomatch h), fun _ => ?_⟩
 clear p21
 replace hx := hx.up u28
 replace hy := hy.up u28
 replace C := fun k' u => C k' (u28.trans u)
 clear u28
 refine QMul_s (K := 1) (hx.mono (by decide)) (hy.mono (by decide)) (by decide) (by decide) fun k29 d29 u29 p22 => ⟨d29, p22.seg, rfl, ?_⟩
 replace hx := hx.up u29
 replace hy := hy.up u29
 replace C := fun k' u => C k' (u29.trans u)
 clear u29
 refine QConj_s p22 fun k30 d30 u30 p23 => ⟨d30, p23.seg, rfl, ?_⟩
 clear p22
 replace hx := hx.up u30
 replace hy := hy.up u30
 replace C := fun k' u => C k' (u30.trans u)
 clear u30
 refine QConj_s hx fun k31 d31 u31 p24 => ⟨d31, p24.seg, rfl, ?_⟩
 replace hx := hx.up u31
 replace hy := hy.up u31
 replace p23 := p23.up u31
 replace C := fun k' u => C k' (u31.trans u)
 clear u31
 refine QConj_s hy fun k32 d32 u32 p25 => ⟨d32, p25.seg, rfl, ?_⟩
 replace hx := hx.up u32
 replace hy := hy.up u32
 replace p23 := p23.up u32
 replace p24 := p24.up u32
 replace C := fun k' u => C k' (u32.trans u)
 clear u32
 refine QMul_s (K := 1) (p24.mono (by decide)) (p25.mono (by decide)) (by decide) (by decide) fun k33 d33 u33 p26 => ⟨d33, p26.seg, rfl, ?_⟩
 clear p24 p25
 replace hx := hx.up u33
 replace hy := hy.up u33
 replace p23 := p23.up u33
 replace C := fun k' u => C k' (u33.trans u)
 clear u33
 refine QSame_t (K := 3) (p23.mono (by decide)) (p26.mono (by decide)) rfl (by decide) (by decide) fun k34 u34 => ⟨_, rfl, fun h => (nomatch h), fun _ => ?_⟩
 clear p23 p26
 replace hx := hx.up u34
 replace hy := hy.up u34
 replace C := fun k' u => C k' (u34.trans u)
 clear u34
 refine QDiv_s hx hy (by decide) (by decide) fun k35 d35 u35 q => ⟨d35, q.seg, _, rfl, ?_⟩
 replace hx := hx.up u35
 replace hy := hy.up u35
 replace C := fun k' u => C k' (u35.trans u)
 clear u35
 refine QZero_s hy (by decide) fun k36 u36 => ⟨_, rfl, fun hA => ⟨fun _ k2 u2 => C k2 (u36.trans u2), fun hB => ?_⟩, fun hA => ?_⟩
 · have h0 : ¬ y = 0 := fun e => by rw [if_pos e] at hB; exact absurd hB (by decide)
   replace hx := hx.up u36
   replace hy := hy.up u36
   replace q := q.up u36
   replace C := fun k' u => C k' (u36.trans u)
   refine QMul_s (K := 2) (q.mono (by decide)) (hy.mono (by decide)) (by decide) (by decide) fun k37 d37 u37 p => ⟨d37, p.seg, rfl, ?_⟩
   replace hx := hx.up u37
   replace C := fun k' u => C k' (u37.trans u)
   clear u37
   exact QSame_t (K := 5) (p.mono (by decide)) (hx.mono (by decide)) (Rat.div_mul_cancel h0) (by decide) (by decide) fun k38 u38 => ⟨_, rfl, fun k2 u2 => C k2 (u38.trans u2)⟩
 · by_cases h0 : y = 0
   · rw [if_pos h0, decide_eq_true h0] at hA; exact absurd hA (by decide)
   · rw [if_neg h0, decide_eq_false h0] at hA; exact absurd hA (by decide)
set_option maxRecDepth 4000 in
theorem fieldf_s {x y z : Q4} (hx : SurdV k cx x 6) (hy : SurdV k cy y 6) (hz : SurdV k cz z 6) (C : ∀ k', Up k k' → R k' (.bool true)) :
   ∀ k0, Up k k0 → CallsG Try.prog 31 #[.agg cx, .agg cy, .agg cz] k0 R := by
 intro k0 u0
 replace C := fun k' u => C k' (u0.trans u)
 replace hx := hx.up u0
 replace hy := hy.up u0
 replace hz := hz.up u0
 clear u0
 refine fields_vc hx.seg hy.seg hz.seg ?_
 refine SAdd_s (K := 6) (hx.mono (by decide)) (hy.mono (by decide)) (by decide) (by decide) fun k1 d1 u1 p1 => ⟨d1, p1.seg, rfl, ?_⟩
 replace hx := hx.up u1
 replace hy := hy.up u1
 replace hz := hz.up u1
 replace C := fun k' u => C k' (u1.trans u)
 clear u1
 refine SAdd_s (K := 6) (hy.mono (by decide)) (hx.mono (by decide)) (by decide) (by decide) fun k2 d2 u2 p2 => ⟨d2, p2.seg, rfl, ?_⟩
 replace hx := hx.up u2
 replace hy := hy.up u2
 replace hz := hz.up u2
 replace p1 := p1.up u2
 replace C := fun k' u => C k' (u2.trans u)
 clear u2
 refine FSame_t (K := 13) (p1.mono (by decide)) (p2.mono (by decide)) (Q4.add_comm _ _) (by decide) (by decide) fun k3 u3 => ⟨_, rfl, fun h => (nomatch h), fun _ => ?_⟩
 clear p1 p2
 replace hx := hx.up u3
 replace hy := hy.up u3
 replace hz := hz.up u3
 replace C := fun k' u => C k' (u3.trans u)
 clear u3
 refine SMul_s (K := 6) (hx.mono (by decide)) (hy.mono (by decide)) (by decide) (by decide) fun k4 d4 u4 p3 => ⟨d4, p3.seg, rfl, ?_⟩
 replace hx := hx.up u4
 replace hy := hy.up u4
 replace hz := hz.up u4
 replace C := fun k' u => C k' (u4.trans u)
 clear u4
 refine SMul_s (K := 6) (hy.mono (by decide)) (hx.mono (by decide)) (by decide) (by decide) fun k5 d5 u5 p4 => ⟨d5, p4.seg, rfl, ?_⟩
 replace hx := hx.up u5
 replace hy := hy.up u5
 replace hz := hz.up u5
 replace p3 := p3.up u5
 replace C := fun k' u => C k' (u5.trans u)
 clear u5
 refine FSame_t (K := 16) (p3.mono (by decide)) (p4.mono (by decide)) (Q4.mul_comm _ _) (by decide) (by decide) fun k6 u6 => ⟨_, rfl, fun h => (nomatch h), fun _ => ?_⟩
 clear p3 p4
 replace hx := hx.up u6
 replace hy := hy.up u6
 replace hz := hz.up u6
 replace C := fun k' u => C k' (u6.trans u)
 clear u6
 refine SAdd_s (K := 6) (hx.mono (by decide)) (hy.mono (by decide)) (by decide) (by decide) fun k7 d7 u7 p5 => ⟨d7, p5.seg, rfl, ?_⟩
 replace hx := hx.up u7
 replace hy := hy.up u7
 replace hz := hz.up u7
 replace C := fun k' u => C k' (u7.trans u)
 clear u7
 refine SAdd_s (K := 13) (p5.mono (by decide)) (hz.mono (by decide)) (by decide) (by decide) fun k8 d8 u8 p6 => ⟨d8, p6.seg, rfl, ?_⟩
 clear p5
 replace hx := hx.up u8
 replace hy := hy.up u8
 replace hz := hz.up u8
 replace C := fun k' u => C k' (u8.trans u)
 clear u8
 refine SAdd_s (K := 6) (hy.mono (by decide)) (hz.mono (by decide)) (by decide) (by decide) fun k9 d9 u9 p7 => ⟨d9, p7.seg, rfl, ?_⟩
 replace hx := hx.up u9
 replace hy := hy.up u9
 replace hz := hz.up u9
 replace p6 := p6.up u9
 replace C := fun k' u => C k' (u9.trans u)
 clear u9
 refine SAdd_s (K := 13) (hx.mono (by decide)) (p7.mono (by decide)) (by decide) (by decide) fun k10 d10 u10 p8 => ⟨d10, p8.seg, rfl, ?_⟩
 clear p7
 replace hx := hx.up u10
 replace hy := hy.up u10
 replace hz := hz.up u10
 replace p6 := p6.up u10
 replace C := fun k' u => C k' (u10.trans u)
 clear u10
 refine FSame_t (K := 27) (p6.mono (by decide)) (p8.mono (by decide)) (Q4.add_assoc _ _ _) (by decide) (by decide) fun k11 u11 => ⟨_, rfl, fun h => (nomatch h), fun _ => ?_⟩
 clear p6 p8
 replace hx := hx.up u11
 replace hy := hy.up u11
 replace hz := hz.up u11
 replace C := fun k' u => C k' (u11.trans u)
 clear u11
 refine SMul_s (K := 6) (hx.mono (by decide)) (hy.mono (by decide)) (by decide) (by decide) fun k12 d12 u12 p9 => ⟨d12, p9.seg, rfl, ?_⟩
 replace hx := hx.up u12
 replace hy := hy.up u12
 replace hz := hz.up u12
 replace C := fun k' u => C k' (u12.trans u)
 clear u12
 refine SMul_s (K := 16) (p9.mono (by decide)) (hz.mono (by decide)) (by decide) (by decide) fun k13 d13 u13 p10 => ⟨d13, p10.seg, rfl, ?_⟩
 clear p9
 replace hx := hx.up u13
 replace hy := hy.up u13
 replace hz := hz.up u13
 replace C := fun k' u => C k' (u13.trans u)
 clear u13
 refine SMul_s (K := 6) (hy.mono (by decide)) (hz.mono (by decide)) (by decide) (by decide) fun k14 d14 u14 p11 => ⟨d14, p11.seg, rfl, ?_⟩
 replace hx := hx.up u14
 replace hy := hy.up u14
 replace hz := hz.up u14
 replace p10 := p10.up u14
 replace C := fun k' u => C k' (u14.trans u)
 clear u14
 refine SMul_s (K := 16) (hx.mono (by decide)) (p11.mono (by decide)) (by decide) (by decide) fun k15 d15 u15 p12 => ⟨d15, p12.seg, rfl, ?_⟩
 clear p11
 replace hx := hx.up u15
 replace hy := hy.up u15
 replace hz := hz.up u15
 replace p10 := p10.up u15
 replace C := fun k' u => C k' (u15.trans u)
 clear u15
 refine FSame_t (K := 36) (p10.mono (by decide)) (p12.mono (by decide)) (Q4.mul_assoc _ _ _) (by decide) (by decide) fun k16 u16 => ⟨_, rfl, fun h => (nomatch h), fun _ => ?_⟩
 clear p10 p12
 replace hx := hx.up u16
 replace hy := hy.up u16
 replace hz := hz.up u16
 replace C := fun k' u => C k' (u16.trans u)
 clear u16
 refine SAdd_s (K := 6) (hx.mono (by decide)) (hy.mono (by decide)) (by decide) (by decide) fun k17 d17 u17 p13 => ⟨d17, p13.seg, rfl, ?_⟩
 replace hx := hx.up u17
 replace hy := hy.up u17
 replace hz := hz.up u17
 replace C := fun k' u => C k' (u17.trans u)
 clear u17
 refine SMul_s (K := 13) (p13.mono (by decide)) (hz.mono (by decide)) (by decide) (by decide) fun k18 d18 u18 p14 => ⟨d18, p14.seg, rfl, ?_⟩
 clear p13
 replace hx := hx.up u18
 replace hy := hy.up u18
 replace hz := hz.up u18
 replace C := fun k' u => C k' (u18.trans u)
 clear u18
 refine SMul_s (K := 6) (hx.mono (by decide)) (hz.mono (by decide)) (by decide) (by decide) fun k19 d19 u19 p15 => ⟨d19, p15.seg, rfl, ?_⟩
 replace hx := hx.up u19
 replace hy := hy.up u19
 replace hz := hz.up u19
 replace p14 := p14.up u19
 replace C := fun k' u => C k' (u19.trans u)
 clear u19
 refine SMul_s (K := 6) (hy.mono (by decide)) (hz.mono (by decide)) (by decide) (by decide) fun k20 d20 u20 p16 => ⟨d20, p16.seg, rfl, ?_⟩
 replace hx := hx.up u20
 replace hy := hy.up u20
 replace p14 := p14.up u20
 replace p15 := p15.up u20
 replace C := fun k' u => C k' (u20.trans u)
 clear u20
 refine SAdd_s (K := 16) (p15.mono (by decide)) (p16.mono (by decide)) (by decide) (by decide) fun k21 d21 u21 p17 => ⟨d21, p17.seg, rfl, ?_⟩
 clear p15 p16
 replace hx := hx.up u21
 replace hy := hy.up u21
 replace p14 := p14.up u21
 replace C := fun k' u => C k' (u21.trans u)
 clear u21
 refine FSame_t (K := 33) (p14.mono (by decide)) (p17.mono (by decide)) (Q4.add_mul _ _ _) (by decide) (by decide) fun k22 u22 => ⟨_, rfl, fun h => (nomatch h), fun _ => ?_⟩
 clear p14 p17
 replace hx := hx.up u22
 replace hy := hy.up u22
 replace C := fun k' u => C k' (u22.trans u)
 clear u22
 clear hz
 refine SSub_s (K := 6) (hx.mono (by decide)) (hy.mono (by decide)) (by decide) (by decide) fun k23 d23 u23 p18 => ⟨d23, p18.seg, rfl, ?_⟩
 replace hx := hx.up u23
 replace hy := hy.up u23
 replace C := fun k' u => C k' (u23.trans u)
 clear u23
 refine SAdd_s (K := 13) (p18.mono (by decide)) (hy.mono (by decide)) (by decide) (by decide) fun k24 d24 u24 p19 => ⟨d24, p19.seg, rfl, ?_⟩
 clear p18
 replace hx := hx.up u24
 replace hy := hy.up u24
 replace C := fun k' u => C k' (u24.trans u)
 clear u24
 refine FSame_t (K := 27) (p19.mono (by decide)) (hx.mono (by decide)) (Q4.sub_add _ _) (by decide) (by decide) fun k25 u25 => ⟨_, rfl, fun h => (nomatch h), fun _ => ?_⟩
 clear p19
 replace hx := hx.up u25
 replace hy := hy.up u25
 replace C := fun k' u => C k' (u25.trans u)
 clear u25
 refine SNeg_s hx (by decide) fun k26 d26 u26 p20 => ⟨d26, p20.seg, rfl, ?_⟩
 replace hx := hx.up u26
 replace hy := hy.up u26
 replace C := fun k' u => C k' (u26.trans u)
 clear u26
 refine SAdd_s (K := 6) (p20.mono (by decide)) (hx.mono (by decide)) (by decide) (by decide) fun k27 d27 u27 p21 => ⟨d27, p21.seg, rfl, ?_⟩
 clear p20
 replace hx := hx.up u27
 replace hy := hy.up u27
 replace C := fun k' u => C k' (u27.trans u)
 clear u27
 refine FZero_t p21 (Q4.neg_add _) (by decide) fun k28 u28 => ⟨_, rfl, fun h => (nomatch h), fun _ => ?_⟩
 clear p21
 replace hx := hx.up u28
 replace hy := hy.up u28
 replace C := fun k' u => C k' (u28.trans u)
 clear u28
 refine SMul_s (K := 6) (hx.mono (by decide)) (hy.mono (by decide)) (by decide) (by decide) fun k29 d29 u29 p22 => ⟨d29, p22.seg, rfl, ?_⟩
 replace hx := hx.up u29
 replace hy := hy.up u29
 replace C := fun k' u => C k' (u29.trans u)
 clear u29
 refine SConj_s p22 fun k30 d30 u30 p23 => ⟨d30, p23.seg, rfl, ?_⟩
 clear p22
 replace hx := hx.up u30
 replace hy := hy.up u30
 replace C := fun k' u => C k' (u30.trans u)
 clear u30
 refine SConj_s hx fun k31 d31 u31 p24 => ⟨d31, p24.seg, rfl, ?_⟩
 replace hx := hx.up u31
 replace hy := hy.up u31
 replace p23 := p23.up u31
 replace C := fun k' u => C k' (u31.trans u)
 clear u31
 refine SConj_s hy fun k32 d32 u32 p25 => ⟨d32, p25.seg, rfl, ?_⟩
 replace hx := hx.up u32
 replace hy := hy.up u32
 replace p23 := p23.up u32
 replace p24 := p24.up u32
 replace C := fun k' u => C k' (u32.trans u)
 clear u32
 refine SMul_s (K := 6) (p24.mono (by decide)) (p25.mono (by decide)) (by decide) (by decide) fun k33 d33 u33 p26 => ⟨d33, p26.seg, rfl, ?_⟩
 clear p24 p25
 replace hx := hx.up u33
 replace hy := hy.up u33
 replace p23 := p23.up u33
 replace C := fun k' u => C k' (u33.trans u)
 clear u33
 refine FSame_t (K := 16) (p23.mono (by decide)) (p26.mono (by decide)) rfl (by decide) (by decide) fun k34 u34 => ⟨_, rfl, fun h => (nomatch h), fun _ => ?_⟩
 clear p23 p26
 replace hx := hx.up u34
 replace hy := hy.up u34
 replace C := fun k' u => C k' (u34.trans u)
 clear u34
 refine SDiv_d hx hy (by decide) (by decide) fun k35 d35 u35 q => ⟨d35, q.seg, _, rfl, ?_⟩
 replace hx := hx.up u35
 replace hy := hy.up u35
 replace C := fun k' u => C k' (u35.trans u)
 clear u35
 refine SZero_d hy (by decide) fun k36 u36 => ⟨_, rfl, fun hA => ⟨fun _ k2 u2 => C k2 (u36.trans u2), fun hB => ?_⟩, fun hA => ?_⟩
 · have h0 : ¬ y = Q4.zero := fun e => by rw [if_pos e] at hB; exact absurd hB (by decide)
   replace hx := hx.up u36
   replace hy := hy.up u36
   replace q := q.up u36
   replace C := fun k' u => C k' (u36.trans u)
   refine SMul_s (K := 42) (q.mono (by decide)) (hy.mono (by decide)) (by decide) (by decide) fun k37 d37 u37 p => ⟨d37, p.seg, rfl, ?_⟩
   replace hx := hx.up u37
   replace C := fun k' u => C k' (u37.trans u)
   clear u37
   exact FSame_t (K := 88) (p.mono (by decide)) (hx.mono (by decide)) (Q4.div_mul' h0) (by decide) (by decide) fun k38 u38 => ⟨_, rfl, fun k2 u2 => C k2 (u38.trans u2)⟩
 · by_cases h0 : y = Q4.zero
   · rw [if_pos h0, decide_eq_true h0] at hA; exact absurd hA (by decide)
   · rw [if_neg h0, decide_eq_false h0] at hA; exact absurd hA (by decide)
set_option maxRecDepth 4000 in
theorem fieldw_s {x y z : W4} (hx : WaveV k cx x 6) (hy : WaveV k cy y 6) (hz : WaveV k cz z 6) (C : ∀ k', Up k k' → R k' (.bool true)) :
   ∀ k0, Up k k0 → CallsG Try.prog 32 #[.agg cx, .agg cy, .agg cz] k0 R := by
 intro k0 u0
 replace C := fun k' u => C k' (u0.trans u)
 replace hx := hx.up u0
 replace hy := hy.up u0
 replace hz := hz.up u0
 clear u0
 refine fieldw_vc hx.seg hy.seg hz.seg ?_
 refine WAdd_s (K := 6) (hx.mono (by decide)) (hy.mono (by decide)) (by decide) (by decide) fun k1 d1 u1 p1 => ⟨d1, p1.seg, rfl, ?_⟩
 replace hx := hx.up u1
 replace hy := hy.up u1
 replace hz := hz.up u1
 replace C := fun k' u => C k' (u1.trans u)
 clear u1
 refine WAdd_s (K := 6) (hy.mono (by decide)) (hx.mono (by decide)) (by decide) (by decide) fun k2 d2 u2 p2 => ⟨d2, p2.seg, rfl, ?_⟩
 replace hx := hx.up u2
 replace hy := hy.up u2
 replace hz := hz.up u2
 replace p1 := p1.up u2
 replace C := fun k' u => C k' (u2.trans u)
 clear u2
 refine GSame_t (K := 13) (p1.mono (by decide)) (p2.mono (by decide)) (W4.add_comm _ _) (by decide) (by decide) fun k3 u3 => ⟨_, rfl, fun h => (nomatch h), fun _ => ?_⟩
 clear p1 p2
 replace hx := hx.up u3
 replace hy := hy.up u3
 replace hz := hz.up u3
 replace C := fun k' u => C k' (u3.trans u)
 clear u3
 refine WMul_s (K := 6) (hx.mono (by decide)) (hy.mono (by decide)) (by decide) (by decide) fun k4 d4 u4 p3 => ⟨d4, p3.seg, rfl, ?_⟩
 replace hx := hx.up u4
 replace hy := hy.up u4
 replace hz := hz.up u4
 replace C := fun k' u => C k' (u4.trans u)
 clear u4
 refine WMul_s (K := 6) (hy.mono (by decide)) (hx.mono (by decide)) (by decide) (by decide) fun k5 d5 u5 p4 => ⟨d5, p4.seg, rfl, ?_⟩
 replace hx := hx.up u5
 replace hy := hy.up u5
 replace hz := hz.up u5
 replace p3 := p3.up u5
 replace C := fun k' u => C k' (u5.trans u)
 clear u5
 refine GSame_t (K := 33) (p3.mono (by decide)) (p4.mono (by decide)) (W4.mul_comm _ _) (by decide) (by decide) fun k6 u6 => ⟨_, rfl, fun h => (nomatch h), fun _ => ?_⟩
 clear p3 p4
 replace hx := hx.up u6
 replace hy := hy.up u6
 replace hz := hz.up u6
 replace C := fun k' u => C k' (u6.trans u)
 clear u6
 refine WAdd_s (K := 6) (hx.mono (by decide)) (hy.mono (by decide)) (by decide) (by decide) fun k7 d7 u7 p5 => ⟨d7, p5.seg, rfl, ?_⟩
 replace hx := hx.up u7
 replace hy := hy.up u7
 replace hz := hz.up u7
 replace C := fun k' u => C k' (u7.trans u)
 clear u7
 refine WAdd_s (K := 13) (p5.mono (by decide)) (hz.mono (by decide)) (by decide) (by decide) fun k8 d8 u8 p6 => ⟨d8, p6.seg, rfl, ?_⟩
 clear p5
 replace hx := hx.up u8
 replace hy := hy.up u8
 replace hz := hz.up u8
 replace C := fun k' u => C k' (u8.trans u)
 clear u8
 refine WAdd_s (K := 6) (hy.mono (by decide)) (hz.mono (by decide)) (by decide) (by decide) fun k9 d9 u9 p7 => ⟨d9, p7.seg, rfl, ?_⟩
 replace hx := hx.up u9
 replace hy := hy.up u9
 replace hz := hz.up u9
 replace p6 := p6.up u9
 replace C := fun k' u => C k' (u9.trans u)
 clear u9
 refine WAdd_s (K := 13) (hx.mono (by decide)) (p7.mono (by decide)) (by decide) (by decide) fun k10 d10 u10 p8 => ⟨d10, p8.seg, rfl, ?_⟩
 clear p7
 replace hx := hx.up u10
 replace hy := hy.up u10
 replace hz := hz.up u10
 replace p6 := p6.up u10
 replace C := fun k' u => C k' (u10.trans u)
 clear u10
 refine GSame_t (K := 27) (p6.mono (by decide)) (p8.mono (by decide)) (W4.add_assoc _ _ _) (by decide) (by decide) fun k11 u11 => ⟨_, rfl, fun h => (nomatch h), fun _ => ?_⟩
 clear p6 p8
 replace hx := hx.up u11
 replace hy := hy.up u11
 replace hz := hz.up u11
 replace C := fun k' u => C k' (u11.trans u)
 clear u11
 refine WMul_s (K := 6) (hx.mono (by decide)) (hy.mono (by decide)) (by decide) (by decide) fun k12 d12 u12 p9 => ⟨d12, p9.seg, rfl, ?_⟩
 replace hx := hx.up u12
 replace hy := hy.up u12
 replace hz := hz.up u12
 replace C := fun k' u => C k' (u12.trans u)
 clear u12
 refine WMul_s (K := 33) (p9.mono (by decide)) (hz.mono (by decide)) (by decide) (by decide) fun k13 d13 u13 p10 => ⟨d13, p10.seg, rfl, ?_⟩
 clear p9
 replace hx := hx.up u13
 replace hy := hy.up u13
 replace hz := hz.up u13
 replace C := fun k' u => C k' (u13.trans u)
 clear u13
 refine WMul_s (K := 6) (hy.mono (by decide)) (hz.mono (by decide)) (by decide) (by decide) fun k14 d14 u14 p11 => ⟨d14, p11.seg, rfl, ?_⟩
 replace hx := hx.up u14
 replace hy := hy.up u14
 replace hz := hz.up u14
 replace p10 := p10.up u14
 replace C := fun k' u => C k' (u14.trans u)
 clear u14
 refine WMul_s (K := 33) (hx.mono (by decide)) (p11.mono (by decide)) (by decide) (by decide) fun k15 d15 u15 p12 => ⟨d15, p12.seg, rfl, ?_⟩
 clear p11
 replace hx := hx.up u15
 replace hy := hy.up u15
 replace hz := hz.up u15
 replace p10 := p10.up u15
 replace C := fun k' u => C k' (u15.trans u)
 clear u15
 refine GSame_t (K := 141) (p10.mono (by decide)) (p12.mono (by decide)) (W4.mul_assoc _ _ _) (by decide) (by decide) fun k16 u16 => ⟨_, rfl, fun h => (nomatch h), fun _ => ?_⟩
 clear p10 p12
 replace hx := hx.up u16
 replace hy := hy.up u16
 replace hz := hz.up u16
 replace C := fun k' u => C k' (u16.trans u)
 clear u16
 refine WAdd_s (K := 6) (hx.mono (by decide)) (hy.mono (by decide)) (by decide) (by decide) fun k17 d17 u17 p13 => ⟨d17, p13.seg, rfl, ?_⟩
 replace hx := hx.up u17
 replace hy := hy.up u17
 replace hz := hz.up u17
 replace C := fun k' u => C k' (u17.trans u)
 clear u17
 refine WMul_s (K := 13) (p13.mono (by decide)) (hz.mono (by decide)) (by decide) (by decide) fun k18 d18 u18 p14 => ⟨d18, p14.seg, rfl, ?_⟩
 clear p13
 replace hx := hx.up u18
 replace hy := hy.up u18
 replace hz := hz.up u18
 replace C := fun k' u => C k' (u18.trans u)
 clear u18
 refine WMul_s (K := 6) (hx.mono (by decide)) (hz.mono (by decide)) (by decide) (by decide) fun k19 d19 u19 p15 => ⟨d19, p15.seg, rfl, ?_⟩
 replace hx := hx.up u19
 replace hy := hy.up u19
 replace hz := hz.up u19
 replace p14 := p14.up u19
 replace C := fun k' u => C k' (u19.trans u)
 clear u19
 refine WMul_s (K := 6) (hy.mono (by decide)) (hz.mono (by decide)) (by decide) (by decide) fun k20 d20 u20 p16 => ⟨d20, p16.seg, rfl, ?_⟩
 replace hx := hx.up u20
 replace hy := hy.up u20
 replace p14 := p14.up u20
 replace p15 := p15.up u20
 replace C := fun k' u => C k' (u20.trans u)
 clear u20
 refine WAdd_s (K := 33) (p15.mono (by decide)) (p16.mono (by decide)) (by decide) (by decide) fun k21 d21 u21 p17 => ⟨d21, p17.seg, rfl, ?_⟩
 clear p15 p16
 replace hx := hx.up u21
 replace hy := hy.up u21
 replace p14 := p14.up u21
 replace C := fun k' u => C k' (u21.trans u)
 clear u21
 refine GSame_t (K := 67) (p14.mono (by decide)) (p17.mono (by decide)) (W4.add_mul _ _ _) (by decide) (by decide) fun k22 u22 => ⟨_, rfl, fun h => (nomatch h), fun _ => ?_⟩
 clear p14 p17
 replace hx := hx.up u22
 replace hy := hy.up u22
 replace C := fun k' u => C k' (u22.trans u)
 clear u22
 clear hz
 refine WSub_s (K := 6) (hx.mono (by decide)) (hy.mono (by decide)) (by decide) (by decide) fun k23 d23 u23 p18 => ⟨d23, p18.seg, rfl, ?_⟩
 replace hx := hx.up u23
 replace hy := hy.up u23
 replace C := fun k' u => C k' (u23.trans u)
 clear u23
 refine WAdd_s (K := 13) (p18.mono (by decide)) (hy.mono (by decide)) (by decide) (by decide) fun k24 d24 u24 p19 => ⟨d24, p19.seg, rfl, ?_⟩
 clear p18
 replace hx := hx.up u24
 replace hy := hy.up u24
 replace C := fun k' u => C k' (u24.trans u)
 clear u24
 refine GSame_t (K := 27) (p19.mono (by decide)) (hx.mono (by decide)) (W4.sub_add _ _) (by decide) (by decide) fun k25 u25 => ⟨_, rfl, fun h => (nomatch h), fun _ => ?_⟩
 clear p19
 replace hx := hx.up u25
 replace hy := hy.up u25
 replace C := fun k' u => C k' (u25.trans u)
 clear u25
 refine WNeg_s hx (by decide) fun k26 d26 u26 p20 => ⟨d26, p20.seg, rfl, ?_⟩
 replace hx := hx.up u26
 replace hy := hy.up u26
 replace C := fun k' u => C k' (u26.trans u)
 clear u26
 refine WAdd_s (K := 6) (p20.mono (by decide)) (hx.mono (by decide)) (by decide) (by decide) fun k27 d27 u27 p21 => ⟨d27, p21.seg, rfl, ?_⟩
 clear p20
 replace hx := hx.up u27
 replace hy := hy.up u27
 replace C := fun k' u => C k' (u27.trans u)
 clear u27
 refine GZero_t p21 (W4.neg_add _) (by decide) fun k28 u28 => ⟨_, rfl, fun h => (nomatch h), fun _ => ?_⟩
 clear p21
 replace hx := hx.up u28
 replace hy := hy.up u28
 replace C := fun k' u => C k' (u28.trans u)
 clear u28
 refine WMul_s (K := 6) (hx.mono (by decide)) (hy.mono (by decide)) (by decide) (by decide) fun k29 d29 u29 p22 => ⟨d29, p22.seg, rfl, ?_⟩
 replace hx := hx.up u29
 replace hy := hy.up u29
 replace C := fun k' u => C k' (u29.trans u)
 clear u29
 refine WConj_s p22 (by decide) fun k30 d30 u30 p23 => ⟨d30, p23.seg, rfl, ?_⟩
 clear p22
 replace hx := hx.up u30
 replace hy := hy.up u30
 replace C := fun k' u => C k' (u30.trans u)
 clear u30
 refine WConj_s hx (by decide) fun k31 d31 u31 p24 => ⟨d31, p24.seg, rfl, ?_⟩
 replace hx := hx.up u31
 replace hy := hy.up u31
 replace p23 := p23.up u31
 replace C := fun k' u => C k' (u31.trans u)
 clear u31
 refine WConj_s hy (by decide) fun k32 d32 u32 p25 => ⟨d32, p25.seg, rfl, ?_⟩
 replace hx := hx.up u32
 replace hy := hy.up u32
 replace p23 := p23.up u32
 replace p24 := p24.up u32
 replace C := fun k' u => C k' (u32.trans u)
 clear u32
 refine WMul_s (K := 6) (p24.mono (by decide)) (p25.mono (by decide)) (by decide) (by decide) fun k33 d33 u33 p26 => ⟨d33, p26.seg, rfl, ?_⟩
 clear p24 p25
 replace hx := hx.up u33
 replace hy := hy.up u33
 replace p23 := p23.up u33
 replace C := fun k' u => C k' (u33.trans u)
 clear u33
 refine GSame_t (K := 33) (p23.mono (by decide)) (p26.mono (by decide)) (W4.mul_conj _ _) (by decide) (by decide) fun k34 u34 => ⟨_, rfl, fun h => (nomatch h), fun _ => ?_⟩
 clear p23 p26
 replace hx := hx.up u34
 replace hy := hy.up u34
 replace C := fun k' u => C k' (u34.trans u)
 clear u34
 refine WDiv_s hx hy (by decide) (by decide) fun k35 d35 u35 q => ⟨d35, q.seg, _, rfl, ?_⟩
 replace hx := hx.up u35
 replace hy := hy.up u35
 replace C := fun k' u => C k' (u35.trans u)
 clear u35
 refine WZero_s hy (by decide) fun k36 u36 => ⟨_, rfl, fun hA => ⟨fun _ k2 u2 => C k2 (u36.trans u2), fun hB => ?_⟩, fun hA => ?_⟩
 · have h0 : ¬ y = W4.zero := fun e => by rw [if_pos e] at hB; exact absurd hB (by decide)
   replace hx := hx.up u36
   replace hy := hy.up u36
   replace q := q.up u36
   replace C := fun k' u => C k' (u36.trans u)
   refine WMul_s (K := 177) (q.mono (by decide)) (hy.mono (by decide)) (by decide) (by decide) fun k37 d37 u37 p => ⟨d37, p.seg, rfl, ?_⟩
   replace hx := hx.up u37
   replace C := fun k' u => C k' (u37.trans u)
   clear u37
   exact GSame_t (K := 717) (p.mono (by decide)) (hx.mono (by decide)) (W4.mul_div h0) (by decide) (by decide) fun k38 u38 => ⟨_, rfl, fun k2 u2 => C k2 (u38.trans u2)⟩
 · by_cases h0 : y = W4.zero
   · rw [if_pos h0, decide_eq_true h0] at hA; exact absurd hA (by decide)
   · rw [if_neg h0, decide_eq_false h0] at hA; exact absurd hA (by decide)
theorem smallWave_s {n0 n1 n2 n3 n4 n5 n6 n7 n8 n9 n10 n11 n12 n13 n14 n15 : Int} (C : ∀ k' b, Up k k' → R k' (.bool b)) :
   ∀ k0, Up k k0 → CallsG Try.prog 29 #[.agg #[.int .i64 n0, .int .i64 n1, .int .i64 n2, .int .i64 n3, .int .i64 n4, .int .i64 n5, .int .i64 n6, .int .i64 n7, .int .i64 n8, .int .i64 n9, .int .i64 n10, .int .i64 n11, .int .i64 n12, .int .i64 n13, .int .i64 n14, .int .i64 n15]] k0 R := by
 intro k0 u0
 refine smallWave_vc (small_s fun k1 b1 u1 => ⟨_, rfl, fun _ => ?_, fun _ k2 u2 => C k2 _ ((u0.trans u1).trans u2)⟩)
 exact small_s fun k3 b3 u3 => ⟨_, rfl, fun k4 u4 => C k4 _ (((u0.trans u1).trans u3).trans u4)⟩
theorem OfWave_s {n0 n1 n2 n3 n4 n5 n6 n7 n8 n9 n10 n11 n12 n13 n14 n15 : Int} (h0 : In64 n0) (h1 : In64 n1) (h2 : In64 n2) (h3 : In64 n3) (h4 : In64 n4) (h5 : In64 n5) (h6 : In64 n6) (h7 : In64 n7) (h8 : In64 n8) (h9 : In64 n9) (h10 : In64 n10) (h11 : In64 n11) (h12 : In64 n12) (h13 : In64 n13) (h14 : In64 n14) (h15 : In64 n15) (C : ∀ k' ds, Up k k' → WaveV k' ds ⟨⟨ofQ n0 n1, ofQ n2 n3, ofQ n4 n5, ofQ n6 n7⟩, ⟨ofQ n8 n9, ofQ n10 n11, ofQ n12 n13, ofQ n14 n15⟩⟩ 6 → R k' (.agg ds)) :
   ∀ k0, Up k k0 → CallsG Try.prog 33 #[.agg #[.int .i64 n0, .int .i64 n1, .int .i64 n2, .int .i64 n3, .int .i64 n4, .int .i64 n5, .int .i64 n6, .int .i64 n7, .int .i64 n8, .int .i64 n9, .int .i64 n10, .int .i64 n11, .int .i64 n12, .int .i64 n13, .int .i64 n14, .int .i64 n15]] k0 R := by
 intro k0 u0
 refine OfWave_vc (OfQuad_s h0 h1 h2 h3 h4 h5 h6 h7 fun k1 d1 u1 q1 => ⟨d1, q1.seg, rfl, ?_⟩)
 refine OfQuad_s h8 h9 h10 h11 h12 h13 h14 h15 fun k3 d3 u3 q3 => ⟨d3, q3.seg, rfl, ?_⟩
 refine pair_s (q1.up u3) q3 fun k5 d5 u5 q5 => ?_
 have q5' := q5
 obtain ⟨a, b, rfl, a0, b0⟩ := q5'
 exact ⟨a, a0.seg, b, b0.seg, rfl, fun k6 u6 => C k6 _ ((((u0.trans u1).trans u3).trans u5).trans u6) (q5.up u6)⟩
set_option maxRecDepth 4000 in
theorem fieldlaw_s {n0 n1 n2 n3 n4 n5 n6 n7 n8 n9 n10 n11 n12 n13 n14 n15 n16 n17 n18 n19 n20 n21 n22 n23 n24 n25 n26 n27 n28 n29 n30 n31 n32 n33 n34 n35 n36 n37 n38 n39 n40 n41 n42 n43 n44 n45 n46 n47 : Int} (h0 : In64 n0) (h1 : In64 n1) (h2 : In64 n2) (h3 : In64 n3) (h4 : In64 n4) (h5 : In64 n5) (h6 : In64 n6) (h7 : In64 n7) (h8 : In64 n8) (h9 : In64 n9) (h10 : In64 n10) (h11 : In64 n11) (h12 : In64 n12) (h13 : In64 n13) (h14 : In64 n14) (h15 : In64 n15) (h16 : In64 n16) (h17 : In64 n17) (h18 : In64 n18) (h19 : In64 n19) (h20 : In64 n20) (h21 : In64 n21) (h22 : In64 n22) (h23 : In64 n23) (h24 : In64 n24) (h25 : In64 n25) (h26 : In64 n26) (h27 : In64 n27) (h28 : In64 n28) (h29 : In64 n29) (h30 : In64 n30) (h31 : In64 n31) (h32 : In64 n32) (h33 : In64 n33) (h34 : In64 n34) (h35 : In64 n35) (h36 : In64 n36) (h37 : In64 n37) (h38 : In64 n38) (h39 : In64 n39) (h40 : In64 n40) (h41 : In64 n41) (h42 : In64 n42) (h43 : In64 n43) (h44 : In64 n44) (h45 : In64 n45) (h46 : In64 n46) (h47 : In64 n47) (C : ∀ k', Up k k' → R k' (.bool true)) :
   ∀ k0, Up k k0 → CallsG Try.prog 6 #[.agg #[.int .i64 n0, .int .i64 n1, .int .i64 n2, .int .i64 n3, .int .i64 n4, .int .i64 n5, .int .i64 n6, .int .i64 n7, .int .i64 n8, .int .i64 n9, .int .i64 n10, .int .i64 n11, .int .i64 n12, .int .i64 n13, .int .i64 n14, .int .i64 n15], .agg #[.int .i64 n16, .int .i64 n17, .int .i64 n18, .int .i64 n19, .int .i64 n20, .int .i64 n21, .int .i64 n22, .int .i64 n23, .int .i64 n24, .int .i64 n25, .int .i64 n26, .int .i64 n27, .int .i64 n28, .int .i64 n29, .int .i64 n30, .int .i64 n31], .agg #[.int .i64 n32, .int .i64 n33, .int .i64 n34, .int .i64 n35, .int .i64 n36, .int .i64 n37, .int .i64 n38, .int .i64 n39, .int .i64 n40, .int .i64 n41, .int .i64 n42, .int .i64 n43, .int .i64 n44, .int .i64 n45, .int .i64 n46, .int .i64 n47]] k0 R := by
 intro k0 u0
 replace C := fun k' u => C k' (u0.trans u)
 refine fieldlaw_vc ?_
 have aw : ∀ {k1 : World}, Up k0 k1 → ∀ k2, Up k1 k2 → CallsG Try.prog 9 #[] k2 fun k3 r2 => ∃ b : Bool, some (Value.bool b) = some r2 ∧ ∀ k4, Up k3 k4 → R k4 (Value.bool b) :=
   fun u1 => awake_s fun k3 u3 => ⟨_, rfl, fun k4 u4 => C k4 ((u1.trans u3).trans u4)⟩
 refine awake_s fun k1 u1 => ⟨_, rfl, fun h => (nomatch h), fun _ => ?_⟩
 refine smallWave_s fun k2 b2 u2 => ⟨_, rfl, fun _ => aw (u1.trans u2), fun _ => ?_⟩
 refine smallWave_s fun k3 b3 u3 => ⟨_, rfl, fun _ => aw ((u1.trans u2).trans u3), fun _ => ?_⟩
 refine smallWave_s fun k4 b4 u4 => ⟨_, rfl, fun _ => aw (((u1.trans u2).trans u3).trans u4), fun _ => ?_⟩
 clear aw
 replace C := fun k' u => C k' ((((u1.trans u2).trans u3).trans u4).trans u)
 refine Of_s h0 h1 fun k5 d5 u5 a => ⟨d5, a.seg, rfl, ?_⟩
 replace C := fun k' u => C k' (u5.trans u)
 clear u5
 refine Of_s h16 h17 fun k6 d6 u6 b => ⟨d6, b.seg, rfl, ?_⟩
 replace a := a.up u6
 replace C := fun k' u => C k' (u6.trans u)
 clear u6
 refine Of_s h32 h33 fun k7 d7 u7 d => ⟨d7, d.seg, rfl, ?_⟩
 replace a := a.up u7
 replace b := b.up u7
 replace C := fun k' u => C k' (u7.trans u)
 clear u7
 refine fieldq_s a b d fun k8 u8 => ⟨_, rfl, fun _ => ?_, fun h => (nomatch h)⟩
 clear a b d
 replace C := fun k' u => C k' (u8.trans u)
 clear u8
 refine OfQuad_s h0 h1 h2 h3 h4 h5 h6 h7 fun k9 d9 u9 a => ⟨d9, a.seg, rfl, ?_⟩
 replace C := fun k' u => C k' (u9.trans u)
 clear u9
 refine OfQuad_s h16 h17 h18 h19 h20 h21 h22 h23 fun k10 d10 u10 b => ⟨d10, b.seg, rfl, ?_⟩
 replace a := a.up u10
 replace C := fun k' u => C k' (u10.trans u)
 clear u10
 refine OfQuad_s h32 h33 h34 h35 h36 h37 h38 h39 fun k11 d11 u11 d => ⟨d11, d.seg, rfl, ?_⟩
 replace a := a.up u11
 replace b := b.up u11
 replace C := fun k' u => C k' (u11.trans u)
 clear u11
 refine fieldf_s a b d fun k12 u12 => ⟨_, rfl, fun _ => ?_, fun h => (nomatch h)⟩
 clear a b d
 replace C := fun k' u => C k' (u12.trans u)
 clear u12
 refine OfWave_s h0 h1 h2 h3 h4 h5 h6 h7 h8 h9 h10 h11 h12 h13 h14 h15 fun k13 d13 u13 a => ⟨d13, a.seg, rfl, ?_⟩
 replace C := fun k' u => C k' (u13.trans u)
 clear u13
 refine OfWave_s h16 h17 h18 h19 h20 h21 h22 h23 h24 h25 h26 h27 h28 h29 h30 h31 fun k14 d14 u14 b => ⟨d14, b.seg, rfl, ?_⟩
 replace a := a.up u14
 replace C := fun k' u => C k' (u14.trans u)
 clear u14
 refine OfWave_s h32 h33 h34 h35 h36 h37 h38 h39 h40 h41 h42 h43 h44 h45 h46 h47 fun k15 d15 u15 d => ⟨d15, d.seg, rfl, ?_⟩
 replace a := a.up u15
 replace b := b.up u15
 replace C := fun k' u => C k' (u15.trans u)
 clear u15
 exact fieldw_s a b d fun k5 u5 => ⟨_, rfl, fun k6 u6 => C k6 (u5.trans u6)⟩
end
end Go.Proofs.Ytpjakokgmgggiaa

