/- Several texts in one. (Printed by prep.py.) -/
import Derived.Test.YtpjakokgmgggiaaProg
import Derived.Test.YtpjakokgmgggiaaSiSy14
import Derived.Test.YtpjakokgmgggiaaSiS6
import Derived.Test.YtpjakokgmgggiaaSiS4
import Derived.Test.YtpjakokgmgggiaaSiS5
/- What is to be shown of the calls of some functions. (Printed by gen/vc.py.) -/
namespace Go.Proofs.Ytpjakokgmgggiaa
open Go.RowKit
open Sy (Up Sees CallsG Seg execFn_use)
set_option maxRecDepth 100000
variable {k : World} {R : World → Value → Prop}
theorem awake_vc
    (h : ∀ k0, Up k k0 → CallsG Try.prog 14 #[Value.int .i64 1] k0 fun k1 r0 => ∃ cs0, Seg 3 cs0 ∧ some (Value.agg cs0) = some r0 ∧
 ∀ k2, Up k1 k2 → CallsG Try.prog 14 #[Value.int .i64 0] k2 fun k3 r2 => ∃ cs1, Seg 3 cs1 ∧ some (Value.agg cs1) = some r2 ∧
 ∀ k4, Up k3 k4 → CallsG Try.prog 46 #[Value.agg (cs0.toList ++ (cs0.toList ++ (cs1.toList ++ (cs1.toList ++ ([]))))).toArray] k4 fun k5 r4 => ∃ cs2, Seg 9 cs2 ∧ some (Value.agg cs2) = some r4 ∧
 ∀ k6, Up k5 k6 → CallsG Try.prog 37 #[Value.agg cs2, Value.agg cs0] k6 fun k7 r6 => ∃ cs3, Seg 9 cs3 ∧ some (Value.agg cs3) = some r6 ∧
 ∀ k8, Up k7 k8 → CallsG Try.prog 47 #[Value.agg cs3, Value.agg cs2] k8 fun k9 r8 => ∃ cs4, Seg 9 cs4 ∧ ∃ n5, some (Value.tuple #[Value.agg cs4, Value.int .i64 n5]) = some r8 ∧
 (((n5 : Int) == 0) = true →
 (∀ k10, Up k9 k10 → CallsG Try.prog 23 #[Value.agg cs4] k10 fun k11 r10 => ∃ s6, some (Value.string s6) = some r10 ∧
 ∀ k12, Up k11 k12 → R k12 (Value.bool (ByteArray.toList s6 == ByteArray.toList ⟨#[45, 49, 43, 49, 114, 50]⟩)))) ∧
 (((n5 : Int) == 0) = false →
 (∀ k13, Up k9 k13 → R k13 (Value.bool false)))) :
    CallsG Try.prog 9 #[] k R :=
  execFn_use (cfg := { opq := [28, 53] }) (args := []) (vals := []) (kinds := []) (by kernel_rfl) trivial (by kernel_rfl) (by kernel_rfl) h
theorem Of_vc {n0 n1 : Int}
    (h : (((n1 : Int) == 0) = true →
 (∀ k0, Up k k0 → CallsG Try.prog 14 #[Value.int .i64 n0] k0 fun k1 r0 => ∃ cs2, Seg 3 cs2 ∧ some (Value.agg cs2) = some r0 ∧
 ∀ k2, Up k1 k2 → R k2 (Value.agg cs2))) ∧
 (((n1 : Int) == 0) = false →
 (∀ k3, Up k k3 → CallsG Try.prog 10 #[Value.int .i64 n0, Value.int .i64 n1] k3 fun k4 r3 => ∃ cs2, Seg 3 cs2 ∧ ∃ n3, some (Value.tuple #[Value.agg cs2, Value.int .i64 n3]) = some r3 ∧
 ∀ k5, Up k4 k5 → R k5 (Value.agg cs2)))) :
    CallsG Try.prog 22 #[Value.agg #[Value.int .i64 n0, Value.int .i64 n1]] k R :=
  execFn_use (cfg := { opq := [28] }) (args := [.agg [.var 0, .var 1]]) (vals := [Value.int .i64 n0, Value.int .i64 n1]) (kinds := [.int .i64, .int .i64]) (by kernel_rfl) ⟨⟨_, rfl⟩, ⟨⟨_, rfl⟩, trivial⟩⟩ (by kernel_rfl) (by kernel_rfl) h
theorem OfQuad_vc {n0 n1 n2 n3 n4 n5 n6 n7 : Int}
    (h : ∀ k0, Up k k0 → CallsG Try.prog 22 #[Value.agg #[Value.int .i64 n0, Value.int .i64 n1]] k0 fun k1 r0 => ∃ cs8, Seg 3 cs8 ∧ some (Value.agg cs8) = some r0 ∧
 ∀ k2, Up k1 k2 → CallsG Try.prog 22 #[Value.agg #[Value.int .i64 n2, Value.int .i64 n3]] k2 fun k3 r2 => ∃ cs9, Seg 3 cs9 ∧ some (Value.agg cs9) = some r2 ∧
 ∀ k4, Up k3 k4 → CallsG Try.prog 22 #[Value.agg #[Value.int .i64 n4, Value.int .i64 n5]] k4 fun k5 r4 => ∃ cs10, Seg 3 cs10 ∧ some (Value.agg cs10) = some r4 ∧
 ∀ k6, Up k5 k6 → CallsG Try.prog 22 #[Value.agg #[Value.int .i64 n6, Value.int .i64 n7]] k6 fun k7 r6 => ∃ cs11, Seg 3 cs11 ∧ some (Value.agg cs11) = some r6 ∧
 ∀ k8, Up k7 k8 → CallsG Try.prog 46 #[Value.agg (cs8.toList ++ (cs9.toList ++ (cs10.toList ++ (cs11.toList ++ ([]))))).toArray] k8 fun k9 r8 => ∃ cs12, Seg 9 cs12 ∧ some (Value.agg cs12) = some r8 ∧
 ∀ k10, Up k9 k10 → R k10 (Value.agg cs12)) :
    CallsG Try.prog 21 #[Value.agg #[Value.int .i64 n0, Value.int .i64 n1, Value.int .i64 n2, Value.int .i64 n3, Value.int .i64 n4, Value.int .i64 n5, Value.int .i64 n6, Value.int .i64 n7]] k R :=
  execFn_use (cfg := { opq := [28, 53] }) (args := [.agg [.var 0, .var 1, .var 2, .var 3, .var 4, .var 5, .var 6, .var 7]]) (vals := [Value.int .i64 n0, Value.int .i64 n1, Value.int .i64 n2, Value.int .i64 n3, Value.int .i64 n4, Value.int .i64 n5, Value.int .i64 n6, Value.int .i64 n7]) (kinds := [.int .i64, .int .i64, .int .i64, .int .i64, .int .i64, .int .i64, .int .i64, .int .i64]) (by kernel_rfl) ⟨⟨_, rfl⟩, ⟨⟨_, rfl⟩, ⟨⟨_, rfl⟩, ⟨⟨_, rfl⟩, ⟨⟨_, rfl⟩, ⟨⟨_, rfl⟩, ⟨⟨_, rfl⟩, ⟨⟨_, rfl⟩, trivial⟩⟩⟩⟩⟩⟩⟩⟩ (by kernel_rfl) (by kernel_rfl) h
theorem small_vc {n0 n1 n2 n3 n4 n5 n6 n7 : Int}
    (h : ((decide (((if (decide ((n0 : Int) < n1)) = true then n1 else n0) : Int) > 1099511627776)) = true →
 (∀ k0, Up k k0 → R k0 (Value.bool false))) ∧
 ((decide (((if (decide ((n0 : Int) < n1)) = true then n1 else n0) : Int) > 1099511627776)) = false →
 (((decide (((if (decide ((n1 : Int) < n0)) = true then n1 else n0) : Int) < (-1099511627776))) = true →
 (∀ k1, Up k k1 → R k1 (Value.bool false))) ∧
 ((decide (((if (decide ((n1 : Int) < n0)) = true then n1 else n0) : Int) < (-1099511627776))) = false →
 (((decide (((if (decide ((n2 : Int) < n3)) = true then n3 else n2) : Int) > 1099511627776)) = true →
 (∀ k2, Up k k2 → R k2 (Value.bool false))) ∧
 ((decide (((if (decide ((n2 : Int) < n3)) = true then n3 else n2) : Int) > 1099511627776)) = false →
 (((decide (((if (decide ((n3 : Int) < n2)) = true then n3 else n2) : Int) < (-1099511627776))) = true →
 (∀ k3, Up k k3 → R k3 (Value.bool false))) ∧
 ((decide (((if (decide ((n3 : Int) < n2)) = true then n3 else n2) : Int) < (-1099511627776))) = false →
 (((decide (((if (decide ((n4 : Int) < n5)) = true then n5 else n4) : Int) > 1099511627776)) = true →
 (∀ k4, Up k k4 → R k4 (Value.bool false))) ∧
 ((decide (((if (decide ((n4 : Int) < n5)) = true then n5 else n4) : Int) > 1099511627776)) = false →
 (((decide (((if (decide ((n5 : Int) < n4)) = true then n5 else n4) : Int) < (-1099511627776))) = true →
 (∀ k5, Up k k5 → R k5 (Value.bool false))) ∧
 ((decide (((if (decide ((n5 : Int) < n4)) = true then n5 else n4) : Int) < (-1099511627776))) = false →
 (((decide (((if (decide ((n6 : Int) < n7)) = true then n7 else n6) : Int) > 1099511627776)) = true →
 (∀ k6, Up k k6 → R k6 (Value.bool false))) ∧
 ((decide (((if (decide ((n6 : Int) < n7)) = true then n7 else n6) : Int) > 1099511627776)) = false →
 (((decide (((if (decide ((n7 : Int) < n6)) = true then n7 else n6) : Int) < (-1099511627776))) = true →
 (∀ k7, Up k k7 → R k7 (Value.bool false))) ∧
 ((decide (((if (decide ((n7 : Int) < n6)) = true then n7 else n6) : Int) < (-1099511627776))) = false →
 (∀ k8, Up k k8 → R k8 (Value.bool true)))))))))))))))))) :
    CallsG Try.prog 34 #[Value.agg #[Value.int .i64 n0, Value.int .i64 n1, Value.int .i64 n2, Value.int .i64 n3, Value.int .i64 n4, Value.int .i64 n5, Value.int .i64 n6, Value.int .i64 n7]] k R :=
  execFn_use (cfg := { opq := [] }) (args := [.agg [.var 0, .var 1, .var 2, .var 3, .var 4, .var 5, .var 6, .var 7]]) (vals := [Value.int .i64 n0, Value.int .i64 n1, Value.int .i64 n2, Value.int .i64 n3, Value.int .i64 n4, Value.int .i64 n5, Value.int .i64 n6, Value.int .i64 n7]) (kinds := [.int .i64, .int .i64, .int .i64, .int .i64, .int .i64, .int .i64, .int .i64, .int .i64]) (by kernel_rfl) ⟨⟨_, rfl⟩, ⟨⟨_, rfl⟩, ⟨⟨_, rfl⟩, ⟨⟨_, rfl⟩, ⟨⟨_, rfl⟩, ⟨⟨_, rfl⟩, ⟨⟨_, rfl⟩, ⟨⟨_, rfl⟩, trivial⟩⟩⟩⟩⟩⟩⟩⟩ (by kernel_rfl) (by kernel_rfl) h
end Go.Proofs.Ytpjakokgmgggiaa

/- The laws of layer 1: what they share; the laws of an order. (Printed by gen/law1.py.) -/
namespace Go.Proofs.Ytpjakokgmgggiaa
open Go.RowKit Num Plain
open Sy (Up Sees CallsG Seg)
section
variable {k : World} {R : World → Value → Prop} {K L : Nat}
theorem dec_one : dec 1 = [49] := by
 unfold dec
 rw [if_neg (by omega), dig_pos (by omega), show 1 / 10 = 0 from rfl, dig_zero]
 rfl
theorem awake_text : surdText ⟨-1, 1, 0, 0⟩ = [45, 49, 43, 49, 114, 50] := by
 have r1 : ratText (-1) = [45, 49] := by
   unfold ratText
   rw [show (-1 : Rat).num = -1 from rfl, show (-1 : Rat).den = 1 from rfl, if_pos (by omega), if_pos rfl, show (-1 : Int).natAbs = 1 from rfl, dec_one]
   rfl
 have r2 : ratText 1 = [49] := by
   unfold ratText
   rw [show (1 : Rat).num = 1 from rfl, show (1 : Rat).den = 1 from rfl, if_neg (by omega), if_pos rfl, show (1 : Int).natAbs = 1 from rfl, dec_one]
   rfl
 have p1 : addPart [] (-1) [] = [45, 49] := by
   unfold addPart
   rw [if_neg (by decide), if_neg (by simp), r1]; rfl
 have p2 : addPart [45, 49] 1 [114, 50] = [45, 49, 43, 49, 114, 50] := by
   unfold addPart
   rw [if_neg (by decide), if_pos ⟨by simp, by decide⟩, r2]; rfl
 have p3 : ∀ m : List UInt8, addPart [45, 49, 43, 49, 114, 50] 0 m = [45, 49, 43, 49, 114, 50] := fun m => by
   unfold addPart
   rw [if_pos rfl]
 unfold surdText
 simp only [body]
 rw [p1, p2, p3, p3]
 rfl
theorem awake_s (C : ∀ k', Up k k' → R k' (.bool true)) : ∀ k0, Up k k0 → CallsG Try.prog 9 #[] k0 R := by
 intro k0 u0
 replace C := fun k' u => C k' (u0.trans u)
 refine awake_vc ?_
 refine QInt_s (z := 1) (by omega) (by omega) ?_
 intro k1 c1 u1 h1
 refine ⟨c1, h1.seg, rfl, ?_⟩
 refine QInt_s (z := 0) (by omega) (by omega) ?_
 intro k2 c2 u2 h2
 refine ⟨c2, h2.seg, rfl, ?_⟩
 replace h1 := h1.up u2
 refine Make_s h1 h1 h2 h2 (by omega) (by omega) ?_
 intro k3 c3 u3 h3
 refine ⟨c3, h3.seg, rfl, ?_⟩
 refine SOf_s h3 (h1.up u3) ?_
 intro k4 c4 u4 h4
 refine ⟨c4, h4.seg, rfl, ?_⟩
 refine SDiv_s (h4.mono (show 1 ≤ 6 by omega)) ((h3.up u4).mono (show 5 * 1 + 1 ≤ 6 by omega)) (by omega) (by omega) ?_ ?_
 · intro k5 u5 hz
   exfalso
   have := congrArg Q4.a hz
   exact absurd this (by decide)
 · intro k5 c5 q u5 h5 hq
   refine ⟨c5, h5.seg, 0, rfl, fun _ => ?_, fun h => by cases h⟩
   have e : q = ⟨-1, 1, 0, 0⟩ := by
     apply toQ_inj
     have hx : (⟨((1 : Int) : Rat), ((1 : Int) : Rat), ((0 : Int) : Rat), ((0 : Int) : Rat)⟩ : Q4).toQ ≠ 0 := by
       intro h
       have := toQ_inj (h.trans toQ_zero.symm)
       exact absurd (congrArg Q4.a this) (by decide)
     generalize hX : (⟨((1 : Int) : Rat), ((1 : Int) : Rat), ((0 : Int) : Rat), ((0 : Int) : Rat)⟩ : Q4).toQ = X at hq hx
     have hw : (⟨-1, 1, 0, 0⟩ : Q4).toQ * X = (Q4.real ((1 : Int) : Rat)).toQ := by
       rw [← hX, ← toQ_mul]; congr 1
       have c1 : ((1 : Int) : Rat) = 1 := rfl
       have c0 : ((0 : Int) : Rat) = 0 := rfl
       rw [c1, c0]
       unfold Q4.mul Q4.real
       refine Q4.ext' ?_ ?_ ?_ ?_ <;> (dsimp only; grind)
     by_cases hd : q.toQ - (⟨-1, 1, 0, 0⟩ : Q4).toQ = 0
     · exact Plain.C.sub_eq hd
     · exfalso
       apply Plain.C.mul_ne hd hx
       have e : ∀ a b c : Q23, (a - b) * c = a * c - b * c := fun a b c => by
         (refine Q23.ext' (Q2.ext' ?_ ?_) (Q2.ext' ?_ ?_) <;> (simp only [Q23.mul_re, Q23.mul_im, Q23.sub_re, Q23.sub_im, Q2.add_re, Q2.add_im, Q2.mul_re, Q2.mul_im, Q2.sub_re, Q2.sub_im, Q2.three_re, Q2.three_im]; grind))
       rw [e, hq, hw]
       exact Plain.C.sg_eq_zero.1 ((Plain.C.ord2 _ _).2 rfl)
   subst e
   refine SText_s h5 (by omega) (by omega) ?_
   intro k6 u6
   refine ⟨_, rfl, ?_⟩
   intro k7 u7
   have ht : surdText ⟨-1, 1, 0, 0⟩ = [45, 49, 43, 49, 114, 50] := awake_text
   rw [ht]
   have hb : ((str [45, 49, 43, 49, 114, 50]).toList == (⟨#[45, 49, 43, 49, 114, 50]⟩ : ByteArray).toList) = true := toList_inj.2 rfl
   rw [hb]
   exact C k7 ((((((u1.trans u2).trans u3).trans u4).trans u5).trans u6).trans u7)
def ofQ (n d : Int) : Rat := if d = 0 then (n : Rat) else (n : Rat) / (d : Rat)
def In64 (n : Int) : Prop := -9223372036854775808 ≤ n ∧ n < 9223372036854775808
theorem Of_s {n d : Int} (hn : In64 n) (hd : In64 d) (C : ∀ k' ds, Up k k' → RatV k' ds (ofQ n d) 1 → R k' (.agg ds)) : ∀ k0, Up k k0 → CallsG Try.prog 22 #[.agg #[.int .i64 n, .int .i64 d]] k0 R := by
 intro k0 u0
 refine Of_vc ⟨fun hb => ?_, fun hb => ?_⟩
 · have e : d = 0 := eq_of_beq hb
   refine QInt_s hn.1 hn.2 ?_
   intro k1 c1 u1 h1
   refine ⟨c1, h1.seg, rfl, ?_⟩
   intro k2 u2
   refine C k2 c1 (u0.trans (u1.trans u2)) ?_
   unfold ofQ
   rw [if_pos e]
   exact h1.up u2
 · have e : ¬ d = 0 := by simpa using hb
   refine QNew_s hn.1 hn.2 hd.1 hd.2 ?_
   intro k1 c1 u1 h1
   refine ⟨c1, h1.seg, _, rfl, ?_⟩
   intro k2 u2
   refine C k2 c1 (u0.trans (u1.trans u2)) ?_
   unfold ofQ
   rw [if_neg e]
   exact h1.up u2
theorem OfQuad_s {n0 n1 n2 n3 n4 n5 n6 n7 : Int} (h0 : In64 n0) (h1 : In64 n1) (h2 : In64 n2) (h3 : In64 n3) (h4 : In64 n4) (h5 : In64 n5) (h6 : In64 n6) (h7 : In64 n7) (C : ∀ k' ds, Up k k' → SurdV k' ds ⟨ofQ n0 n1, ofQ n2 n3, ofQ n4 n5, ofQ n6 n7⟩ 6 → R k' (.agg ds)) :
   ∀ k0, Up k k0 → CallsG Try.prog 21 #[.agg #[.int .i64 n0, .int .i64 n1, .int .i64 n2, .int .i64 n3, .int .i64 n4, .int .i64 n5, .int .i64 n6, .int .i64 n7]] k0 R := by
 intro k0 u0
 replace C := fun k' ds u => C k' ds (u0.trans u)
 refine OfQuad_vc ?_
 refine Of_s h0 h1 ?_
 intro k1 c1 u1 q1
 refine ⟨c1, q1.seg, rfl, ?_⟩
 refine Of_s h2 h3 ?_
 intro k2 c2 u2 q2
 refine ⟨c2, q2.seg, rfl, ?_⟩
 refine Of_s h4 h5 ?_
 intro k3 c3 u3 q3
 refine ⟨c3, q3.seg, rfl, ?_⟩
 refine Of_s h6 h7 ?_
 intro k4 c4 u4 q4
 refine ⟨c4, q4.seg, rfl, ?_⟩
 refine Make_s (((q1.up u2).up u3).up u4) ((q2.up u3).up u4) (q3.up u4) q4 (by omega) (by omega) ?_
 intro k5 c5 u5 h5
 refine ⟨c5, h5.seg, rfl, ?_⟩
 intro k6 u6
 exact C k6 c5 (((((u1.trans u2).trans u3).trans u4).trans u5).trans u6) (h5.up u6)
theorem small_s {n0 n1 n2 n3 n4 n5 n6 n7 : Int} (C : ∀ k' b, Up k k' → R k' (.bool b)) :
   ∀ k0, Up k k0 → CallsG Try.prog 34 #[.agg #[.int .i64 n0, .int .i64 n1, .int .i64 n2, .int .i64 n3, .int .i64 n4, .int .i64 n5, .int .i64 n6, .int .i64 n7]] k0 R := by
 intro k0 u0
 replace C := fun k' b u => C k' b (u0.trans u)
 refine small_vc ?_
 refine ⟨fun _ k1 u1 => C k1 _ u1, fun _ => ?_⟩
 refine ⟨fun _ k1 u1 => C k1 _ u1, fun _ => ?_⟩
 refine ⟨fun _ k1 u1 => C k1 _ u1, fun _ => ?_⟩
 refine ⟨fun _ k1 u1 => C k1 _ u1, fun _ => ?_⟩
 refine ⟨fun _ k1 u1 => C k1 _ u1, fun _ => ?_⟩
 refine ⟨fun _ k1 u1 => C k1 _ u1, fun _ => ?_⟩
 refine ⟨fun _ k1 u1 => C k1 _ u1, fun _ => ?_⟩
 refine ⟨fun _ k1 u1 => C k1 _ u1, fun _ => ?_⟩
 exact fun k1 u1 => C k1 _ u1
end
end Go.Proofs.Ytpjakokgmgggiaa

/- Complex numbers of Surds, the turns by 24ths, and their sums. No program. -/
namespace Go.Proofs.Ytpjakokgmgggiaa
open Num Plain
structure W4 where
 (re im : Q4)
theorem W4.ext' {x y : W4} (h1 : x.re = y.re) (h2 : x.im = y.im) : x = y := by cases x; cases y; simp_all
instance : DecidableEq Q4 := fun x y => decidable_of_iff (x.a = y.a ∧ x.b = y.b ∧ x.c = y.c ∧ x.d = y.d)
 ⟨fun ⟨h1, h2, h3, h4⟩ => Q4.ext' h1 h2 h3 h4, fun h => by rw [h]; exact ⟨rfl, rfl, rfl, rfl⟩⟩
instance : DecidableEq W4 := fun x y => decidable_of_iff (x.re = y.re ∧ x.im = y.im)
 ⟨fun ⟨h1, h2⟩ => W4.ext' h1 h2, fun h => by rw [h]; exact ⟨rfl, rfl⟩⟩
def W4.add (x y : W4) : W4 := ⟨x.re.add y.re, x.im.add y.im⟩
def W4.sub (x y : W4) : W4 := ⟨x.re.sub y.re, x.im.sub y.im⟩
def W4.mul (x y : W4) : W4 := ⟨(x.re.mul y.re).sub (x.im.mul y.im), (x.re.mul y.im).add (x.im.mul y.re)⟩
def W4.neg (x : W4) : W4 := ⟨x.re.neg, x.im.neg⟩
def W4.conj (x : W4) : W4 := ⟨x.re, x.im.neg⟩
def W4.norm (x : W4) : Q4 := (x.re.mul x.re).add (x.im.mul x.im)
def W4.zero : W4 := ⟨Q4.zero, Q4.zero⟩
def W4.real (q : Rat) : W4 := ⟨Q4.real q, Q4.zero⟩
theorem Q4.sub_zero_iff {x y : Q4} : x.sub y = Q4.zero ↔ x = y := by
 constructor
 · intro h
   have ha := congrArg Q4.a h
   have hb := congrArg Q4.b h
   have hc := congrArg Q4.c h
   have hd := congrArg Q4.d h
   simp only [Q4.sub, Q4.add, Q4.neg, Q4.zero] at ha hb hc hd
   exact Q4.ext' (by grind) (by grind) (by grind) (by grind)
 · intro h
   subst h
   simp only [Q4.sub, Q4.add, Q4.neg, Q4.zero]
   exact Q4.ext' (by grind) (by grind) (by grind) (by grind)
def cosB : Nat → Q4
 | 0 => ⟨1, 0, 0, 0⟩
 | 1 => ⟨0, 1 / 4, 0, 1 / 4⟩
 | 2 => ⟨0, 0, 1 / 2, 0⟩
 | 3 => ⟨0, 1 / 2, 0, 0⟩
 | 4 => ⟨1 / 2, 0, 0, 0⟩
 | 5 => ⟨0, -1 / 4, 0, 1 / 4⟩
 | _ => ⟨0, 0, 0, 0⟩
def cosM (m : Nat) : Q4 := if 6 < m then (cosB (12 - m)).neg else cosB m
def cosQ (n : Nat) : Q4 := if 12 < n then cosM (24 - n) else cosM n
def turnW (n : Nat) : W4 := ⟨cosQ n, cosQ ((n + 18) % 24)⟩
def plc (k : Int) : Nat := (k % 24).toNat
theorem plc_lt (k : Int) : plc k < 24 := by unfold plc; omega
def sumP (k : Nat) : Nat → W4
 | 0 => W4.zero
 | j + 1 => (sumP k j).add (turnW (j * k % 24))
def q4s (q : Rat) : Bool := (4 * q).den == 1 && decide ((4 * q).num.natAbs ≤ 1000)
def Q4.small (v : Q4) : Bool := q4s v.a && q4s v.b && q4s v.c && q4s v.d
def W4.small (v : W4) : Bool := v.re.small && v.im.small
theorem turn_mul : ∀ a, a < 24 → ∀ b, b < 24 → (turnW a).mul (turnW b) = turnW ((a + b) % 24) := by decide +kernel
theorem turn_norm : ∀ a, a < 24 → (turnW a).norm = Q4.real 1 := by decide +kernel
end Go.Proofs.Ytpjakokgmgggiaa

/- Quotients of Surds and of complex numbers. No program. -/
namespace Go.Proofs.Ytpjakokgmgggiaa
open Num Plain
def Q4.t1 (y : Q4) : Q4 := ⟨y.a, -y.b, y.c, -y.d⟩
def Q4.t2 (y : Q4) : Q4 := ⟨y.a, y.b, -y.c, -y.d⟩
def Q4.cnj (y : Q4) : Q4 := (y.t1.mul y.t2).mul y.t1.t2
def Q4.div (x y : Q4) : Q4 := ⟨(x.mul y.cnj).a / (y.mul y.cnj).a, (x.mul y.cnj).b / (y.mul y.cnj).a, (x.mul y.cnj).c / (y.mul y.cnj).a, (x.mul y.cnj).d / (y.mul y.cnj).a⟩
def W4.div (x y : W4) : W4 := ⟨(x.mul y.conj).re.div y.norm, (x.mul y.conj).im.div y.norm⟩
end Go.Proofs.Ytpjakokgmgggiaa

/- The laws of a field, for the parts of Surds and of Waves. No program. (Printed by gen/fieldz.py.) -/
namespace Go.Proofs.Ytpjakokgmgggiaa
open Num Plain
namespace Q23L
theorem add_comm (a b : Q23) : a + b = b + a := by (refine Q23.ext' (Q2.ext' ?_ ?_) (Q2.ext' ?_ ?_) <;> (simp only [Q23.add_re, Q23.add_im, Q2.add_re, Q2.add_im]; grind))
theorem add_assoc (a b c : Q23) : a + b + c = a + (b + c) := by (refine Q23.ext' (Q2.ext' ?_ ?_) (Q2.ext' ?_ ?_) <;> (simp only [Q23.add_re, Q23.add_im, Q2.add_re, Q2.add_im]; grind))
theorem mul_comm (a b : Q23) : a * b = b * a := by (refine Q23.ext' (Q2.ext' ?_ ?_) (Q2.ext' ?_ ?_) <;> (simp only [Q23.mul_re, Q23.mul_im, Q2.add_re, Q2.add_im, Q2.mul_re, Q2.mul_im, Q2.three_re, Q2.three_im]; grind))
theorem mul_assoc (a b c : Q23) : a * b * c = a * (b * c) := by (refine Q23.ext' (Q2.ext' ?_ ?_) (Q2.ext' ?_ ?_) <;> (simp only [Q23.mul_re, Q23.mul_im, Q2.add_re, Q2.add_im, Q2.mul_re, Q2.mul_im, Q2.three_re, Q2.three_im]; grind))
theorem add_mul (a b c : Q23) : (a + b) * c = a * c + b * c := by (refine Q23.ext' (Q2.ext' ?_ ?_) (Q2.ext' ?_ ?_) <;> (simp only [Q23.add_re, Q23.add_im, Q23.mul_re, Q23.mul_im, Q2.add_re, Q2.add_im, Q2.mul_re, Q2.mul_im, Q2.three_re, Q2.three_im]; grind))
theorem mul_add (a b c : Q23) : a * (b + c) = a * b + a * c := by (refine Q23.ext' (Q2.ext' ?_ ?_) (Q2.ext' ?_ ?_) <;> (simp only [Q23.add_re, Q23.add_im, Q23.mul_re, Q23.mul_im, Q2.add_re, Q2.add_im, Q2.mul_re, Q2.mul_im, Q2.three_re, Q2.three_im]; grind))
theorem sub_eq (a b : Q23) : a - b = a + -b := by (refine Q23.ext' (Q2.ext' ?_ ?_) (Q2.ext' ?_ ?_) <;> (simp only [Q23.add_re, Q23.add_im, Q23.neg_re, Q23.neg_im, Q23.sub_re, Q23.sub_im, Q2.add_re, Q2.add_im, Q2.neg_re, Q2.neg_im, Q2.sub_re, Q2.sub_im]; grind))
theorem neg_add (a b : Q23) : -(a + b) = -a + -b := by (refine Q23.ext' (Q2.ext' ?_ ?_) (Q2.ext' ?_ ?_) <;> (simp only [Q23.add_re, Q23.add_im, Q23.neg_re, Q23.neg_im, Q2.add_re, Q2.add_im, Q2.neg_re, Q2.neg_im]; grind))
theorem neg_mul (a b : Q23) : -a * b = -(a * b) := by (refine Q23.ext' (Q2.ext' ?_ ?_) (Q2.ext' ?_ ?_) <;> (simp only [Q23.mul_re, Q23.mul_im, Q23.neg_re, Q23.neg_im, Q2.add_re, Q2.add_im, Q2.mul_re, Q2.mul_im, Q2.neg_re, Q2.neg_im, Q2.three_re, Q2.three_im]; grind))
theorem mul_neg (a b : Q23) : a * -b = -(a * b) := by (refine Q23.ext' (Q2.ext' ?_ ?_) (Q2.ext' ?_ ?_) <;> (simp only [Q23.mul_re, Q23.mul_im, Q23.neg_re, Q23.neg_im, Q2.add_re, Q2.add_im, Q2.mul_re, Q2.mul_im, Q2.neg_re, Q2.neg_im, Q2.three_re, Q2.three_im]; grind))
theorem add_left (a b c : Q23) : a + (b + c) = b + (a + c) := by (refine Q23.ext' (Q2.ext' ?_ ?_) (Q2.ext' ?_ ?_) <;> (simp only [Q23.add_re, Q23.add_im, Q2.add_re, Q2.add_im]; grind))
theorem mul_left (a b c : Q23) : a * (b * c) = b * (a * c) := by (refine Q23.ext' (Q2.ext' ?_ ?_) (Q2.ext' ?_ ?_) <;> (simp only [Q23.mul_re, Q23.mul_im, Q2.add_re, Q2.add_im, Q2.mul_re, Q2.mul_im, Q2.three_re, Q2.three_im]; grind))
end Q23L
open Q23L
theorem W4.mul_assoc (x y z : W4) : (x.mul y).mul z = x.mul (y.mul z) := by
 refine W4.ext' (toQ_inj ?_) (toQ_inj ?_)
 · simp only [W4.mul, toQ_sub, toQ_mul, toQ_add, Q23L.sub_eq, Q23L.add_mul, Q23L.mul_add, Q23L.neg_mul, Q23L.mul_neg, Q23L.neg_add, Q23L.mul_assoc, Q23L.add_assoc]
   simp only [Q23L.add_assoc, Q23L.add_comm]
 · simp only [W4.mul, toQ_sub, toQ_mul, toQ_add, Q23L.sub_eq, Q23L.add_mul, Q23L.mul_add, Q23L.neg_mul, Q23L.mul_neg, Q23L.mul_assoc, Q23L.add_assoc]
   simp only [Q23L.add_assoc, Q23L.add_comm, Q23L.add_left]
end Go.Proofs.Ytpjakokgmgggiaa

/- The greatest of all places, and Norms. No program. (Printed by gen/sizez.py.) -/
namespace Go.Proofs.Ytpjakokgmgggiaa
open Num Plain Q23L
noncomputable def sgd (a b : Q4) : Int := C.sg (a.sub b).toQ
theorem sgd_zero {a b : Q4} : sgd a b = 0 ↔ a = b := by
 unfold sgd
 rw [C.sg_eq_zero]
 constructor
 · intro h; exact Q4.sub_zero_iff.1 (toQ_inj (h.trans toQ_zero.symm))
 · intro h; rw [Q4.sub_zero_iff.2 h, toQ_zero]
theorem sgd_self (a : Q4) : sgd a a = 0 := sgd_zero.2 rfl
theorem sgd_neg (a b : Q4) : sgd b a = - sgd a b := by
 unfold sgd
 rw [← C.sg_minus, toQ_sub, toQ_sub]
 congr 1
 generalize a.toQ = p
 generalize b.toQ = q
 (refine Q23.ext' (Q2.ext' ?_ ?_) (Q2.ext' ?_ ?_) <;> (simp only [Q23.neg_re, Q23.neg_im, Q23.sub_re, Q23.sub_im, Q2.neg_re, Q2.neg_im, Q2.sub_re, Q2.sub_im]; grind))
theorem sgd_trans {a b c : Q4} (h : sgd a b ≤ 0) (h' : sgd b c ≤ 0) : sgd a c ≤ 0 := by
 unfold sgd at *
 rw [toQ_sub] at *
 exact C.ord6 h h'
theorem sgd_strict {a b c : Q4} (h : sgd a b ≤ 0) (h' : sgd b c < 0) : sgd a c < 0 := by
 have h1 := sgd_trans h (Int.le_of_lt h')
 have hne : sgd a c ≠ 0 := fun e => by
   have := sgd_zero.1 e
   subst this
   rw [sgd_neg] at h'
   omega
 omega
theorem turn_zero : turnW 0 = W4.real 1 := by decide +kernel
theorem W4.mul_one (x : W4) : x.mul (W4.real 1) = x := by
 refine W4.ext' (toQ_inj ?_) (toQ_inj ?_)
 · show ((x.re.mul (Q4.real 1)).sub (x.im.mul Q4.zero)).toQ = _
   rw [toQ_sub, toQ_mul, toQ_mul, toQ_zero, show (Q4.real 1).toQ = 1 from rfl]
   generalize x.re.toQ = p
   generalize x.im.toQ = q
   (refine Q23.ext' (Q2.ext' ?_ ?_) (Q2.ext' ?_ ?_) <;> (simp only [Q23.mul_re, Q23.mul_im, Q23.sub_re, Q23.sub_im, Q23.one_re, Q23.one_im, Q23.zero_re, Q23.zero_im, Q2.add_re, Q2.add_im, Q2.mul_re, Q2.mul_im, Q2.sub_re, Q2.sub_im, Q2.one_re, Q2.one_im, Q2.zero_re, Q2.zero_im, Q2.three_re, Q2.three_im]; grind))
 · show ((x.re.mul Q4.zero).add (x.im.mul (Q4.real 1))).toQ = _
   rw [toQ_add, toQ_mul, toQ_mul, toQ_zero, show (Q4.real 1).toQ = 1 from rfl]
   generalize x.re.toQ = p
   generalize x.im.toQ = q
   (refine Q23.ext' (Q2.ext' ?_ ?_) (Q2.ext' ?_ ?_) <;> (simp only [Q23.add_re, Q23.add_im, Q23.mul_re, Q23.mul_im, Q23.one_re, Q23.one_im, Q23.zero_re, Q23.zero_im, Q2.add_re, Q2.add_im, Q2.mul_re, Q2.mul_im, Q2.one_re, Q2.one_im, Q2.zero_re, Q2.zero_im, Q2.three_re, Q2.three_im]; grind))
def fAt (x : W4) (k : Nat) : Q4 := (x.mul (turnW ((24 - k) % 24))).re
theorem fAt_zero (x : W4) : fAt x 0 = x.re := by
 unfold fAt
 rw [show (24 - 0) % 24 = 0 from rfl, turn_zero, W4.mul_one]
noncomputable def hi (x : W4) : Nat → Nat × Q4
 | 0 => (0, x.re)
 | j + 1 => if 0 < sgd (fAt x (j + 1)) (hi x j).2 then (j + 1, fAt x (j + 1)) else hi x j
theorem hi_spec (x : W4) (j : Nat) : (hi x j).1 ≤ j ∧ (hi x j).2 = fAt x (hi x j).1 ∧ (∀ i, i ≤ j → sgd (fAt x i) (hi x j).2 ≤ 0) ∧ ∀ i, i < (hi x j).1 → sgd (fAt x i) (hi x j).2 < 0 := by
 induction j with
 | zero =>
   refine ⟨Nat.le_refl _, (fAt_zero x).symm, fun i hi => ?_, fun i hi => absurd hi (Nat.not_lt_zero _)⟩
   have : i = 0 := by omega
   subst this
   rw [fAt_zero]
   show sgd x.re x.re ≤ 0
   rw [sgd_self]
   decide
 | succ j ih =>
   obtain ⟨h1, h2, h3, h4⟩ := ih
   by_cases hc : 0 < sgd (fAt x (j + 1)) (hi x j).2
   · have e : hi x (j + 1) = (j + 1, fAt x (j + 1)) := by show (if _ then _ else _) = _; rw [if_pos hc]
     rw [e]
     have hb : sgd (hi x j).2 (fAt x (j + 1)) < 0 := by rw [sgd_neg]; omega
     have hs : ∀ i, i ≤ j → sgd (fAt x i) (fAt x (j + 1)) < 0 := fun i hi => sgd_strict (h3 i hi) hb
     refine ⟨Nat.le_refl _, rfl, fun i hi => ?_, fun i hi => hs i (by have : i < j + 1 := hi; omega)⟩
     by_cases e2 : i = j + 1
     · subst e2
       show sgd (fAt x (j + 1)) (fAt x (j + 1)) ≤ 0
       rw [sgd_self]
       decide
     · exact Int.le_of_lt (hs i (by omega))
   · have e : hi x (j + 1) = hi x j := by show (if _ then _ else _) = _; rw [if_neg hc]
     rw [e]
     refine ⟨by omega, h2, fun i hi => ?_, h4⟩
     by_cases e2 : i = j + 1
     · subst e2; omega
     · exact h3 i (by omega)
noncomputable def cnt (x : W4) (s : Q4) (k : Nat) : Nat := ((List.range k).filter fun i => decide (sgd (fAt x i) s = 0)).length
theorem cnt_succ (x : W4) (s : Q4) (k : Nat) : cnt x s (k + 1) = cnt x s k + (if sgd (fAt x k) s = 0 then 1 else 0) := by
 unfold cnt
 rw [List.range_succ, List.filter_append, List.length_append]
 congr 1
 by_cases h : sgd (fAt x k) s = 0
 · rw [if_pos h, List.filter_cons, if_pos (decide_eq_true h)]; rfl
 · rw [if_neg h, List.filter_cons, if_neg (by simp [h])]; rfl
theorem cnt_le (x : W4) (s : Q4) (k : Nat) : cnt x s k ≤ k := by
 unfold cnt
 have := List.length_filter_le (fun i => decide (sgd (fAt x i) s = 0)) (List.range k)
 rw [List.length_range] at this
 exact this
theorem first_at {x : W4} {k : Nat} (_hk : k < 24) (h : sgd (fAt x k) (hi x 23).2 = 0) (hc : cnt x (hi x 23).2 k = 0) : (hi x 23).1 = k := by
 obtain ⟨h1, h2, h3, h4⟩ := hi_spec x 23
 by_cases hlt : k < (hi x 23).1
 · have := h4 k hlt; omega
 · by_cases hgt : (hi x 23).1 < k
   · exfalso
     have hm : (hi x 23).1 ∈ (List.range k).filter fun i => decide (sgd (fAt x i) (hi x 23).2 = 0) := by
       rw [List.mem_filter, List.mem_range]
       refine ⟨hgt, decide_eq_true ?_⟩
       rw [← h2, sgd_self]
     have := List.length_pos_of_mem hm
     unfold cnt at hc
     omega
   · omega
theorem only_at {x : W4} (hc : cnt x (hi x 23).2 24 = 1) {k : Nat} (hk : k < 24) (h : fAt x k = (hi x 23).2) : k = (hi x 23).1 := by
 obtain ⟨h1, h2, h3, h4⟩ := hi_spec x 23
 unfold cnt at hc
 obtain ⟨c, hl⟩ := List.length_eq_one_iff.1 hc
 have m1 : k ∈ (List.range 24).filter fun i => decide (sgd (fAt x i) (hi x 23).2 = 0) := by
   rw [List.mem_filter, List.mem_range]; exact ⟨hk, decide_eq_true (by rw [h, sgd_self])⟩
 have m2 : (hi x 23).1 ∈ (List.range 24).filter fun i => decide (sgd (fAt x i) (hi x 23).2 = 0) := by
   rw [List.mem_filter, List.mem_range]; exact ⟨by omega, decide_eq_true (by rw [← h2, sgd_self])⟩
 rw [hl, List.mem_singleton] at m1 m2
 rw [m1, m2]
theorem fAt_turn (x : W4) {k : Nat} (hk : k < 24) : fAt (x.mul (turnW 1)) k = fAt x ((k + 23) % 24) := by
 unfold fAt
 rw [W4.mul_assoc, turn_mul 1 (by decide) _ (Nat.mod_lt _ (by decide))]
 congr 2
 congr 1
 omega
theorem hi_turn {x : W4} (hc : cnt x (hi x 23).2 24 = 1) : hi (x.mul (turnW 1)) 23 = (((hi x 23).1 + 1) % 24, (hi x 23).2) := by
 obtain ⟨h1, h2, h3, h4⟩ := hi_spec x 23
 obtain ⟨g1, g2, g3, g4⟩ := hi_spec (x.mul (turnW 1)) 23
 have e1 : sgd (hi x 23).2 (hi (x.mul (turnW 1)) 23).2 ≤ 0 := by
   have := g3 (((hi x 23).1 + 1) % 24) (by omega)
   rw [fAt_turn x (Nat.mod_lt _ (by decide)), show (((hi x 23).1 + 1) % 24 + 23) % 24 = (hi x 23).1 from by omega, ← h2] at this
   exact this
 have g2' := g2
 rw [fAt_turn x (by omega)] at g2'
 have e2 : sgd (hi (x.mul (turnW 1)) 23).2 (hi x 23).2 ≤ 0 := by
   rw [g2']
   exact h3 _ (by omega)
 have e3 : (hi (x.mul (turnW 1)) 23).2 = (hi x 23).2 := by
   rw [sgd_neg] at e1
   exact sgd_zero.1 (by omega)
 have e4 := only_at hc (Nat.mod_lt ((hi (x.mul (turnW 1)) 23).1 + 23) (by decide : 0 < 24)) (g2'.symm.trans e3)
 refine Prod.ext ?_ e3
 show _ = ((hi x 23).1 + 1) % 24
 omega
theorem W4.norm_mul (x y : W4) : (x.mul y).norm = x.norm.mul y.norm := by
 refine toQ_inj ?_
 simp only [W4.norm, W4.mul, toQ_add, toQ_mul, toQ_sub]
 generalize x.re.toQ = a
 generalize x.im.toQ = b
 generalize y.re.toQ = c
 generalize y.im.toQ = d
 have k1 : ∀ p q r t : Q23, (p - q) * (p - q) + (r + t) * (r + t) = (p * p + q * q + (r * r + t * t)) + ((r * t + t * r) - (p * q + q * p)) := by
   intro p q r t
   (refine Q23.ext' (Q2.ext' ?_ ?_) (Q2.ext' ?_ ?_) <;> (simp only [Q23.add_re, Q23.add_im, Q23.mul_re, Q23.mul_im, Q23.sub_re, Q23.sub_im, Q2.add_re, Q2.add_im, Q2.mul_re, Q2.mul_im, Q2.sub_re, Q2.sub_im, Q2.three_re, Q2.three_im]; grind))
 have k2 : a * d * (b * c) + b * c * (a * d) - (a * c * (b * d) + b * d * (a * c)) = 0 := by
   have s1 : a * d * (b * c) = a * c * (b * d) := by rw [Q23L.mul_assoc, Q23L.mul_assoc, Q23L.mul_left d, Q23L.mul_comm d c, Q23L.mul_left b c]
   have s2 : b * c * (a * d) = b * d * (a * c) := by rw [Q23L.mul_assoc, Q23L.mul_assoc, Q23L.mul_left c, Q23L.mul_comm c d, Q23L.mul_left a d]
   rw [s1, s2]
   generalize a * c * (b * d) = p
   generalize b * d * (a * c) = q
   (refine Q23.ext' (Q2.ext' ?_ ?_) (Q2.ext' ?_ ?_) <;> (simp only [Q23.add_re, Q23.add_im, Q23.sub_re, Q23.sub_im, Q23.zero_re, Q23.zero_im, Q2.add_re, Q2.add_im, Q2.sub_re, Q2.sub_im, Q2.zero_re, Q2.zero_im]; grind))
 rw [k1, k2]
 have sq : ∀ p q : Q23, p * q * (p * q) = p * p * (q * q) := fun p q => by rw [Q23L.mul_assoc, Q23L.mul_left q, ← Q23L.mul_assoc]
 rw [sq, sq, sq, sq]
 generalize a * a = p
 generalize b * b = q
 generalize c * c = r
 generalize d * d = t
 (refine Q23.ext' (Q2.ext' ?_ ?_) (Q2.ext' ?_ ?_) <;> (simp only [Q23.add_re, Q23.add_im, Q23.mul_re, Q23.mul_im, Q23.zero_re, Q23.zero_im, Q2.add_re, Q2.add_im, Q2.mul_re, Q2.mul_im, Q2.zero_re, Q2.zero_im, Q2.three_re, Q2.three_im]; grind))
def sg2F (a b : Rat) : Int := weighI a.num.sign b.num.sign (a * a - 2 * (b * b)).num.sign
theorem sg2_eq (a b : Rat) : B.sg (⟨a, b⟩ : Q2) = sg2F a b := by rw [← sg_q2, sgRat, sgRat, sgRat]; rfl
def sgF (v : Q4) : Int := weighI (sg2F v.a v.b) (sg2F v.c v.d) (sg2F (v.a * v.a + 2 * (v.b * v.b) - 3 * (v.c * v.c + 2 * (v.d * v.d))) (v.a * v.b + v.b * v.a - 3 * (v.c * v.d + v.d * v.c)))
theorem sgF_eq (v : Q4) : C.sg v.toQ = sgF v := by
 show C.sg (⟨⟨v.a, v.b⟩, ⟨v.c, v.d⟩⟩ : Q23) = _
 rw [← sg_q23, sg2_eq, sg2_eq]
 unfold sgF
 rw [← sg2_eq (v.a * v.a + 2 * (v.b * v.b) - 3 * (v.c * v.c + 2 * (v.d * v.d)))]
 congr 1
 congr 1
 refine Q2.ext' ?_ ?_ <;> (simp only [Q2.mul_re, Q2.mul_im, Q2.sub_re, Q2.sub_im, Q2.three_re, Q2.three_im]; grind)
theorem big_e1 (u v : Q23) : u * u - (u * u + v * v) = -(v * v) := by (refine Q23.ext' (Q2.ext' ?_ ?_) (Q2.ext' ?_ ?_) <;> (simp only [Q23.add_re, Q23.add_im, Q23.mul_re, Q23.mul_im, Q23.neg_re, Q23.neg_im, Q23.sub_re, Q23.sub_im, Q2.add_re, Q2.add_im, Q2.mul_re, Q2.mul_im, Q2.neg_re, Q2.neg_im, Q2.sub_re, Q2.sub_im, Q2.three_re, Q2.three_im]; grind))
theorem big_e2 (u v m : Q23) : (m + 1) * (u * u) - m * (u * u + v * v) = u * u - m * (v * v) := by (refine Q23.ext' (Q2.ext' ?_ ?_) (Q2.ext' ?_ ?_) <;> (simp only [Q23.add_re, Q23.add_im, Q23.mul_re, Q23.mul_im, Q23.sub_re, Q23.sub_im, Q23.one_re, Q23.one_im, Q2.add_re, Q2.add_im, Q2.mul_re, Q2.mul_im, Q2.sub_re, Q2.sub_im, Q2.one_re, Q2.one_im, Q2.zero_re, Q2.zero_im, Q2.three_re, Q2.three_im]; grind))
theorem big_e3 (u v c s m : Q23) : m * (((u * c + v * s) - u) * ((u * c - v * s) - u)) + (u * u) * (s * s - m * ((1 - c) * (1 - c))) = (s * s) * (u * u - m * (v * v)) := by (refine Q23.ext' (Q2.ext' ?_ ?_) (Q2.ext' ?_ ?_) <;> (simp only [Q23.add_re, Q23.add_im, Q23.mul_re, Q23.mul_im, Q23.sub_re, Q23.sub_im, Q23.one_re, Q23.one_im, Q2.add_re, Q2.add_im, Q2.mul_re, Q2.mul_im, Q2.sub_re, Q2.sub_im, Q2.one_re, Q2.one_im, Q2.zero_re, Q2.zero_im, Q2.three_re, Q2.three_im]; grind))
theorem big_law {u v c s n m : Q23} (hn : n = u * u + v * v) (hm : C.sg m = 1) (hs : C.sg s = 1) (hd : C.sg (s * s - m * ((1 - c) * (1 - c))) = 1)
   (h1 : C.sg ((u * c + v * s) - u) ≤ 0) (h2 : C.sg ((u * c - v * s) - u) ≤ 0) : C.sg (u * u - n) ≤ 0 ∧ 0 ≤ C.sg ((m + 1) * (u * u) - m * n) := by
 have m1 : ∀ p q : Q23, C.sg p ≤ 0 → C.sg q ≤ 0 → 0 ≤ C.sg (p * q) := fun p q hp hq => by
   rw [C.sg_mul]
   rcases C.sg_three p with a | a | a <;> rcases C.sg_three q with b | b | b <;> rw [a, b] <;> first | decide | (rw [a] at hp; exact absurd hp (by decide)) | (rw [b] at hq; exact absurd hq (by decide))
 have nn : ∀ p q : Q23, 0 ≤ C.sg p → 0 ≤ C.sg q → 0 ≤ C.sg (p + q) := fun p q hp hq => by
   have := C.sg_trans (x := -p) (y := -q) (by rw [C.sg_minus]; omega) (by rw [C.sg_minus]; omega)
   rw [← Q23L.neg_add, C.sg_minus] at this
   omega
 subst hn
 refine ⟨?_, ?_⟩
 · rw [big_e1, C.sg_minus]
   have := C.ord4 v
   omega
 · rw [big_e2]
   have p1 := m1 _ _ h1 h2
   have p24 : 0 ≤ C.sg (m * (((u * c + v * s) - u) * ((u * c - v * s) - u))) := by
     rw [C.sg_mul, hm]
     omega
   have p2 : 0 ≤ C.sg ((u * u) * (s * s - m * ((1 - c) * (1 - c)))) := by
     rw [C.sg_mul, hd]
     have := C.ord4 u
     omega
   have p3 := nn _ _ p24 p2
   rw [big_e3, C.sg_mul, C.sg_mul, hs] at p3
   omega
theorem big_e4 (a b m w : Q23) : ((m + 1) * (a * a) - m * b) * w = ((m + 1) * w) * (a * a) - b * (m * w) := by (refine Q23.ext' (Q2.ext' ?_ ?_) (Q2.ext' ?_ ?_) <;> (simp only [Q23.add_re, Q23.add_im, Q23.mul_re, Q23.mul_im, Q23.sub_re, Q23.sub_im, Q23.one_re, Q23.one_im, Q2.add_re, Q2.add_im, Q2.mul_re, Q2.mul_im, Q2.sub_re, Q2.sub_im, Q2.one_re, Q2.one_im, Q2.zero_re, Q2.zero_im, Q2.three_re, Q2.three_im]; grind))
theorem one_mul' (a : Q23) : 1 * a = a := by (refine Q23.ext' (Q2.ext' ?_ ?_) (Q2.ext' ?_ ?_) <;> (simp only [Q23.mul_re, Q23.mul_im, Q23.one_re, Q23.one_im, Q2.add_re, Q2.add_im, Q2.mul_re, Q2.mul_im, Q2.one_re, Q2.one_im, Q2.zero_re, Q2.zero_im, Q2.three_re, Q2.three_im]; grind))
theorem mul_one' (a : Q23) : a * 1 = a := by (refine Q23.ext' (Q2.ext' ?_ ?_) (Q2.ext' ?_ ?_) <;> (simp only [Q23.mul_re, Q23.mul_im, Q23.one_re, Q23.one_im, Q2.add_re, Q2.add_im, Q2.mul_re, Q2.mul_im, Q2.one_re, Q2.one_im, Q2.zero_re, Q2.zero_im, Q2.three_re, Q2.three_im]; grind))
theorem big_e5 (a b c d : Q23) : a * c - b * -d - a = (a * c + b * d) - a := by (refine Q23.ext' (Q2.ext' ?_ ?_) (Q2.ext' ?_ ?_) <;> (simp only [Q23.add_re, Q23.add_im, Q23.mul_re, Q23.mul_im, Q23.neg_re, Q23.neg_im, Q23.sub_re, Q23.sub_im, Q2.add_re, Q2.add_im, Q2.mul_re, Q2.mul_im, Q2.neg_re, Q2.neg_im, Q2.sub_re, Q2.sub_im, Q2.three_re, Q2.three_im]; grind))
theorem hi_norm (x : W4) : sgd ((hi x 23).2.mul (hi x 23).2) x.norm ≤ 0 ∧ 0 ≤ sgd ((hi x 23).2.mul (hi x 23).2) (x.norm.mul (Q4.real (24 / 25))) := by
 obtain ⟨h1, h2, h3, h4⟩ := hi_spec x 23
 generalize hat : (hi x 23).1 = t at *
 generalize (hi x 23).2 = s at *
 generalize hz : x.mul (turnW ((24 - t) % 24)) = z
 have hsz : s = z.re := by rw [h2, ← hz]; rfl
 have hnz : x.norm = z.norm := by
   rw [← hz, W4.norm_mul, turn_norm _ (Nat.mod_lt _ (by decide))]
   refine toQ_inj ?_
   rw [toQ_mul, show (Q4.real 1).toQ = 1 from rfl, mul_one']
 have f1 : fAt x ((t + 1) % 24) = (z.mul (turnW 23)).re := by
   rw [← hz, W4.mul_assoc, turn_mul _ (Nat.mod_lt _ (by decide)) 23 (by decide)]
   unfold fAt
   congr 3
   omega
 have f2 : fAt x ((t + 23) % 24) = (z.mul (turnW 1)).re := by
   rw [← hz, W4.mul_assoc, turn_mul _ (Nat.mod_lt _ (by decide)) 1 (by decide)]
   unfold fAt
   congr 3
   omega
 have g1 := h3 _ (show (t + 1) % 24 ≤ 23 by omega)
 have g2 := h3 _ (show (t + 23) % 24 ≤ 23 by omega)
 rw [f1, hsz] at g1
 rw [f2, hsz] at g2
 have t23 : turnW 23 = ⟨cosB 1, (cosB 5).neg⟩ := by decide +kernel
 have t1 : turnW 1 = ⟨cosB 1, cosB 5⟩ := by decide +kernel
 rw [t23] at g1
 rw [t1] at g2
 unfold sgd at g1 g2
 have e1 : ((z.mul ⟨cosB 1, (cosB 5).neg⟩).re.sub z.re).toQ = (z.re.toQ * (cosB 1).toQ + z.im.toQ * (cosB 5).toQ) - z.re.toQ := by
   show (((z.re.mul (cosB 1)).sub (z.im.mul (cosB 5).neg)).sub z.re).toQ = _
   rw [toQ_sub, toQ_sub, toQ_mul, toQ_mul, toQ_neg, big_e5]
 have e2 : ((z.mul ⟨cosB 1, cosB 5⟩).re.sub z.re).toQ = (z.re.toQ * (cosB 1).toQ - z.im.toQ * (cosB 5).toQ) - z.re.toQ := by
   show (((z.re.mul (cosB 1)).sub (z.im.mul (cosB 5))).sub z.re).toQ = _
   rw [toQ_sub, toQ_sub, toQ_mul, toQ_mul]
 rw [e1] at g1
 rw [e2] at g2
 have hs5 : C.sg (cosB 5).toQ = 1 := by rw [sgF_eq]; decide +kernel
 have hd : C.sg ((cosB 5).toQ * (cosB 5).toQ - (⟨24, 0, 0, 0⟩ : Q4).toQ * ((1 - (cosB 1).toQ) * (1 - (cosB 1).toQ))) = 1 := by
   have e : (cosB 5).toQ * (cosB 5).toQ - (⟨24, 0, 0, 0⟩ : Q4).toQ * ((1 - (cosB 1).toQ) * (1 - (cosB 1).toQ)) = (((cosB 5).mul (cosB 5)).sub ((⟨24, 0, 0, 0⟩ : Q4).mul (((Q4.real 1).sub (cosB 1)).mul ((Q4.real 1).sub (cosB 1))))).toQ := by
     rw [toQ_sub, toQ_mul, toQ_mul, toQ_mul, toQ_sub]
     rfl
   rw [e, sgF_eq]
   decide +kernel
 have hm : C.sg (⟨24, 0, 0, 0⟩ : Q4).toQ = 1 := by rw [sgF_eq]; decide +kernel
 obtain ⟨r1, r2⟩ := big_law (n := x.norm.toQ) (by rw [hnz]; unfold W4.norm; rw [toQ_add, toQ_mul, toQ_mul]) hm hs5 hd g1 g2
 rw [hsz]
 unfold sgd
 refine ⟨by rw [toQ_sub, toQ_mul]; exact r1, ?_⟩
 have e3 : ((z.re.mul z.re).sub (x.norm.mul (Q4.real (24 / 25)))).toQ = (((⟨24, 0, 0, 0⟩ : Q4).toQ + 1) * (z.re.toQ * z.re.toQ) - (⟨24, 0, 0, 0⟩ : Q4).toQ * x.norm.toQ) * (Q4.real (1 / 25)).toQ := by
   have q1 : (Q4.real (24 / 25)) = (⟨24, 0, 0, 0⟩ : Q4).mul (Q4.real (1 / 25)) := by decide +kernel
   have q2 : ((⟨24, 0, 0, 0⟩ : Q4).add (Q4.real 1)).mul (Q4.real (1 / 25)) = Q4.real 1 := by decide +kernel
   have q2 := congrArg Q4.toQ q2
   rw [toQ_mul, toQ_add, show (Q4.real 1).toQ = 1 from rfl] at q2
   rw [toQ_sub, toQ_mul, toQ_mul, q1, toQ_mul, big_e4, q2, one_mul']
 rw [e3, C.sg_mul]
 have hp : C.sg (Q4.real (1 / 25)).toQ = 1 := by rw [sgF_eq]; decide +kernel
 rw [hp]
 omega
end Go.Proofs.Ytpjakokgmgggiaa

/- What is to be shown of the calls of some functions. (Printed by gen/vc.py.) -/
namespace Go.Proofs.Ytpjakokgmgggiaa
open Go.RowKit
open Sy (Up Sees CallsG Seg execFn_use)
set_option maxRecDepth 100000
variable {k : World} {R : World → Value → Prop}
theorem wMul_vc {cs0 cs1 cs2 cs3 : Array Value} (hcs0 : Seg 9 cs0) (hcs1 : Seg 9 cs1) (hcs2 : Seg 9 cs2) (hcs3 : Seg 9 cs3)
    (h : ∀ k0, Up k k0 → CallsG Try.prog 42 #[Value.agg cs0, Value.agg cs2] k0 fun k1 r0 => ∃ cs4, Seg 9 cs4 ∧ some (Value.agg cs4) = some r0 ∧
 ∀ k2, Up k1 k2 → CallsG Try.prog 42 #[Value.agg cs1, Value.agg cs3] k2 fun k3 r2 => ∃ cs5, Seg 9 cs5 ∧ some (Value.agg cs5) = some r2 ∧
 ∀ k4, Up k3 k4 → CallsG Try.prog 60 #[Value.agg cs4, Value.agg cs5] k4 fun k5 r4 => ∃ cs6, Seg 9 cs6 ∧ some (Value.agg cs6) = some r4 ∧
 ∀ k6, Up k5 k6 → CallsG Try.prog 42 #[Value.agg cs0, Value.agg cs3] k6 fun k7 r6 => ∃ cs7, Seg 9 cs7 ∧ some (Value.agg cs7) = some r6 ∧
 ∀ k8, Up k7 k8 → CallsG Try.prog 42 #[Value.agg cs1, Value.agg cs2] k8 fun k9 r8 => ∃ cs8, Seg 9 cs8 ∧ some (Value.agg cs8) = some r8 ∧
 ∀ k10, Up k9 k10 → CallsG Try.prog 75 #[Value.agg cs7, Value.agg cs8] k10 fun k11 r10 => ∃ cs9, Seg 9 cs9 ∧ some (Value.agg cs9) = some r10 ∧
 ∀ k12, Up k11 k12 → R k12 (Value.agg (cs6.toList ++ (cs9.toList ++ ([]))).toArray)) :
    CallsG Try.prog 40 #[Value.agg (cs0.toList ++ (cs1.toList ++ ([]))).toArray, Value.agg (cs2.toList ++ (cs3.toList ++ ([]))).toArray] k R :=
  execFn_use (cfg := { opq := [53] }) (args := [.agg [.seg 0 9, .seg 1 9], .agg [.seg 2 9, .seg 3 9]]) (vals := [Value.agg cs0, Value.agg cs1, Value.agg cs2, Value.agg cs3]) (kinds := [.seg 9, .seg 9, .seg 9, .seg 9]) (by kernel_rfl) ⟨⟨cs0, rfl, hcs0⟩, ⟨⟨cs1, rfl, hcs1⟩, ⟨⟨cs2, rfl, hcs2⟩, ⟨⟨cs3, rfl, hcs3⟩, trivial⟩⟩⟩⟩ (by kernel_rfl) (by kernel_rfl) h
theorem wNorm_vc {cs0 cs1 : Array Value} (hcs0 : Seg 9 cs0) (hcs1 : Seg 9 cs1)
    (h : ∀ k0, Up k k0 → CallsG Try.prog 42 #[Value.agg cs0, Value.agg cs0] k0 fun k1 r0 => ∃ cs2, Seg 9 cs2 ∧ some (Value.agg cs2) = some r0 ∧
 ∀ k2, Up k1 k2 → CallsG Try.prog 42 #[Value.agg cs1, Value.agg cs1] k2 fun k3 r2 => ∃ cs3, Seg 9 cs3 ∧ some (Value.agg cs3) = some r2 ∧
 ∀ k4, Up k3 k4 → CallsG Try.prog 75 #[Value.agg cs2, Value.agg cs3] k4 fun k5 r4 => ∃ cs4, Seg 9 cs4 ∧ some (Value.agg cs4) = some r4 ∧
 ∀ k6, Up k5 k6 → R k6 (Value.agg cs4)) :
    CallsG Try.prog 41 #[Value.agg (cs0.toList ++ (cs1.toList ++ ([]))).toArray] k R :=
  execFn_use (cfg := { opq := [53] }) (args := [.agg [.seg 0 9, .seg 1 9]]) (vals := [Value.agg cs0, Value.agg cs1]) (kinds := [.seg 9, .seg 9]) (by kernel_rfl) ⟨⟨cs0, rfl, hcs0⟩, ⟨⟨cs1, rfl, hcs1⟩, trivial⟩⟩ (by kernel_rfl) (by kernel_rfl) h
theorem wRe_vc {cs0 cs1 : Array Value} (hcs0 : Seg 9 cs0) (hcs1 : Seg 9 cs1)
   (h : ∀ k0, Up k k0 → R k0 (Value.agg cs0)) :
   CallsG Try.prog 45 #[Value.agg (cs0.toList ++ (cs1.toList ++ ([]))).toArray] k R :=
 execFn_use (cfg := { opq := [53] }) (args := [.agg [.seg 0 9, .seg 1 9]]) (vals := [Value.agg cs0, Value.agg cs1]) (kinds := [.seg 9, .seg 9]) (by kernel_rfl) ⟨⟨cs0, rfl, hcs0⟩, ⟨⟨cs1, rfl, hcs1⟩, trivial⟩⟩ (by kernel_rfl) (by kernel_rfl) h
theorem pair_vc {cs0 cs1 : Array Value} (hcs0 : Seg 9 cs0) (hcs1 : Seg 9 cs1)
   (h : ∀ k0, Up k k0 → R k0 (Value.agg (cs0.toList ++ (cs1.toList ++ ([]))).toArray)) :
   CallsG Try.prog 72 #[Value.agg cs0, Value.agg cs1] k R :=
 execFn_use (cfg := { opq := [53] }) (args := [.agg [.seg 0 9], .agg [.seg 1 9]]) (vals := [Value.agg cs0, Value.agg cs1]) (kinds := [.seg 9, .seg 9]) (by kernel_rfl) ⟨⟨cs0, rfl, hcs0⟩, ⟨⟨cs1, rfl, hcs1⟩, trivial⟩⟩ (by kernel_rfl) (by kernel_rfl) h
end Go.Proofs.Ytpjakokgmgggiaa

/- Waves of the program. (Printed by gen/waves.py.) -/
namespace Go.Proofs.Ytpjakokgmgggiaa
open Go.RowKit Num Plain
open Sy (Up Sees CallsG Seg)
def cat2 (c0 c1 : Array Value) : Array Value := (c0.toList ++ (c1.toList ++ ([]))).toArray
theorem seg_cat2 {m n : Nat} {c0 c1 : Array Value} (h0 : Seg m c0) (h1 : Seg n c1) : Seg (m + n) (cat2 c0 c1) := by
 obtain ⟨a0, b0⟩ := h0
 obtain ⟨a1, b1⟩ := h1
 refine ⟨by simp [cat2, a0, a1], fun u hu => ?_⟩
 simp only [cat2, List.append_nil, List.mem_append] at hu
 rcases hu with hu | hu
 · exact b0 u hu
 · exact b1 u hu
def WaveV (k : World) (cs : Array Value) (w : W4) (K : Nat) : Prop := ∃ c0 c1 : Array Value, cs = cat2 c0 c1 ∧ SurdV k c0 w.re K ∧ SurdV k c1 w.im K
section
variable {k k' : World} {cs cs' c0 c1 : Array Value} {R : World → Value → Prop} {v v' : Q4} {x y : W4} {K L : Nat}
theorem WaveV.up (h : WaveV k cs x K) (u : Up k k') : WaveV k' cs x K := by
 obtain ⟨c0, c1, e, h0, h1⟩ := h
 exact ⟨c0, c1, e, h0.up u, h1.up u⟩
theorem WaveV.mono (h : WaveV k cs x K) (hL : K ≤ L) : WaveV k cs x L := by
 obtain ⟨c0, c1, e, h0, h1⟩ := h
 exact ⟨c0, c1, e, h0.mono hL, h1.mono hL⟩
theorem WaveV.seg (h : WaveV k cs x K) : Seg 18 cs := by
 obtain ⟨c0, c1, rfl, h0, h1⟩ := h
 exact seg_cat2 h0.seg h1.seg
theorem SSame_d (hx : SurdV k cs v K) (hy : SurdV k cs' v' K) (hK1 : 1 ≤ K) (hK : K ≤ 134217727) (C : ∀ k', Up k k' → R k' (.bool (decide (v = v')))) :
   ∀ k0, Up k k0 → CallsG Try.prog 24 #[.agg cs, .agg cs'] k0 R :=
 SSame_s hx hy hK1 hK fun k' u b hb => by
   have e : b = decide (v = v') := by rw [Bool.eq_iff_iff, hb, decide_eq_true_iff, Q4.sub_zero_iff]
   rw [e]; exact C k' u
theorem WMul_s (hx : WaveV k cs x K) (hy : WaveV k cs' y K) (hK1 : 1 ≤ K) (hK : K ≤ 33554431) (C : ∀ k' ds, Up k k' → WaveV k' ds (x.mul y) (4 * K + 9) → R k' (.agg ds)) :
   ∀ k0, Up k k0 → CallsG Try.prog 40 #[.agg cs, .agg cs'] k0 R := by
 intro k0 u0
 obtain ⟨a, b, rfl, a0, b0⟩ := hx.up u0
 obtain ⟨c, d, rfl, c0, d0⟩ := hy.up u0
 refine wMul_vc a0.seg b0.seg c0.seg d0.seg ?_
 refine SMul_s a0 c0 hK1 (by omega) fun k1 e1 u1 h1 => ⟨e1, h1.seg, rfl, ?_⟩
 refine SMul_s (b0.up u1) (d0.up u1) hK1 (by omega) fun k2 e2 u2 h2 => ⟨e2, h2.seg, rfl, ?_⟩
 refine SSub_s (h1.up u2) h2 (by omega) (by omega) fun k3 e3 u3 h3 => ⟨e3, h3.seg, rfl, ?_⟩
 have u123 := (u1.trans u2).trans u3
 refine SMul_s (a0.up u123) (d0.up u123) hK1 (by omega) fun k4 e4 u4 h4 => ⟨e4, h4.seg, rfl, ?_⟩
 refine SMul_s (b0.up (u123.trans u4)) (c0.up (u123.trans u4)) hK1 (by omega) fun k5 e5 u5 h5 => ⟨e5, h5.seg, rfl, ?_⟩
 refine SAdd_s (h4.up u5) h5 (by omega) (by omega) fun k6 e6 u6 h6 => ⟨e6, h6.seg, rfl, fun k7 u7 => ?_⟩
 exact C k7 _ (((((u0.trans u123).trans u4).trans u5).trans u6).trans u7) ⟨e3, e6, rfl, ((((h3.up u4).up u5).up u6).up u7).mono (by omega), (h6.up u7).mono (by omega)⟩
theorem WNorm_s (hx : WaveV k cs x K) (hK1 : 1 ≤ K) (hK : K ≤ 33554431) (C : ∀ k' ds, Up k k' → SurdV k' ds x.norm (4 * K + 9) → R k' (.agg ds)) :
   ∀ k0, Up k k0 → CallsG Try.prog 41 #[.agg cs] k0 R := by
 intro k0 u0
 obtain ⟨a, b, rfl, a0, b0⟩ := hx.up u0
 refine wNorm_vc a0.seg b0.seg ?_
 refine SMul_s a0 a0 hK1 (by omega) fun k1 e1 u1 h1 => ⟨e1, h1.seg, rfl, ?_⟩
 refine SMul_s (b0.up u1) (b0.up u1) hK1 (by omega) fun k2 e2 u2 h2 => ⟨e2, h2.seg, rfl, ?_⟩
 refine SAdd_s (h1.up u2) h2 (by omega) (by omega) fun k3 e3 u3 h3 => ⟨e3, h3.seg, rfl, fun k4 u4 => ?_⟩
 exact C k4 _ ((((u0.trans u1).trans u2).trans u3).trans u4) ((h3.up u4).mono (by omega))
theorem WRe_s (hx : WaveV k cs x K) (C : ∀ k' ds, Up k k' → SurdV k' ds x.re K → R k' (.agg ds)) :
   ∀ k0, Up k k0 → CallsG Try.prog 45 #[.agg cs] k0 R := by
 intro k0 u0
 obtain ⟨a, b, rfl, a0, b0⟩ := hx.up u0
 exact wRe_vc a0.seg b0.seg fun k1 u1 => C k1 _ (u0.trans u1) (a0.up u1)
theorem pair_s (hx : SurdV k cs v K) (hy : SurdV k cs' v' K) (C : ∀ k' ds, Up k k' → WaveV k' ds ⟨v, v'⟩ K → R k' (.agg ds)) :
   ∀ k0, Up k k0 → CallsG Try.prog 72 #[.agg cs, .agg cs'] k0 R :=
 fun _ u0 => pair_vc hx.seg hy.seg fun k1 u1 => C k1 _ (u0.trans u1) ⟨cs, cs', rfl, (hx.up u0).up u1, (hy.up u0).up u1⟩
end
end Go.Proofs.Ytpjakokgmgggiaa

/- What is to be shown of the calls of some functions. (Printed by gen/vc.py.) -/
namespace Go.Proofs.Ytpjakokgmgggiaa
open Go.RowKit
open Sy (Up Sees CallsG Seg execFn_use)
set_option maxRecDepth 100000
variable {k : World} {R : World → Value → Prop}
theorem wHigh_vc {cs0 cs1 : Array Value} (hcs0 : Seg 9 cs0) (hcs1 : Seg 9 cs1)
    (h : ∃ I0 : Nat → World → List Value → Prop, (∃ m0, ∀ k0, Up k k0 → I0 m0 k0 [Value.int .i64 0, Value.int .i64 1, Value.agg cs0]) ∧
 ∀ m0 k0 vs0, Up k k0 → I0 m0 k0 vs0 → ∃ n2, ∃ n3, ∃ cs4, Seg 9 cs4 ∧ some [Value.int .i64 n2, Value.int .i64 n3, Value.agg cs4] = some vs0 ∧
 ((decide ((n3 : Int) < 24)) = true →
 (∀ k1, Up k0 k1 → CallsG Try.prog 44 #[Value.int .i64 (IntKind.wrap .i64 (0 - n3))] k1 fun k2 r1 => ∃ cs5, Seg 9 cs5 ∧ ∃ cs6, Seg 9 cs6 ∧ some (Value.agg (cs5.toList ++ (cs6.toList ++ ([]))).toArray) = some r1 ∧
 ∀ k3, Up k2 k3 → CallsG Try.prog 40 #[Value.agg (cs0.toList ++ (cs1.toList ++ ([]))).toArray, Value.agg (cs5.toList ++ (cs6.toList ++ ([]))).toArray] k3 fun k4 r3 => ∃ cs7, Seg 9 cs7 ∧ ∃ cs8, Seg 9 cs8 ∧ some (Value.agg (cs7.toList ++ (cs8.toList ++ ([]))).toArray) = some r3 ∧
 ∀ k5, Up k4 k5 → CallsG Try.prog 38 #[Value.agg cs7, Value.agg cs4] k5 fun k6 r5 => ∃ n9, some (Value.int .i64 n9) = some r5 ∧
 ((decide ((n9 : Int) > 0)) = true →
 (∀ k7, Up k6 k7 → ∃ m, m < m0 ∧ I0 m k7 [Value.int .i64 n3, Value.int .i64 (IntKind.wrap .i64 (n3 + 1)), Value.agg cs7])) ∧
 ((decide ((n9 : Int) > 0)) = false →
 (∀ k8, Up k6 k8 → ∃ m, m < m0 ∧ I0 m k8 [Value.int .i64 n2, Value.int .i64 (IntKind.wrap .i64 (n3 + 1)), Value.agg cs4])))) ∧
 ((decide ((n3 : Int) < 24)) = false →
 (∀ k9, Up k0 k9 → R k9 (Value.tuple #[Value.int .i64 n2, Value.agg cs4])))) :
    CallsG Try.prog 43 #[Value.agg (cs0.toList ++ (cs1.toList ++ ([]))).toArray] k R :=
  execFn_use (cfg := { opq := [53], loops := [(0, [.tmp 5 false [.int .i64], .tmp 6 false [.int .i64], .blk 2 [.seg 9]])] }) (args := [.agg [.seg 0 9, .seg 1 9]]) (vals := [Value.agg cs0, Value.agg cs1]) (kinds := [.seg 9, .seg 9]) (by kernel_rfl) ⟨⟨cs0, rfl, hcs0⟩, ⟨⟨cs1, rfl, hcs1⟩, trivial⟩⟩ (by kernel_rfl) (by kernel_rfl) h
theorem place_vc {n0 : Int}
   (h : ∀ k0, Up k k0 → R k0 (Value.int .i64 (Int.tmod (IntKind.wrap .i64 ((Int.tmod n0 24) + 24)) 24))) :
   CallsG Try.prog 79 #[Value.int .i64 n0] k R :=
 execFn_use (cfg := { opq := [] }) (args := [.one (.var 0)]) (vals := [Value.int .i64 n0]) (kinds := [.int .i64]) (by kernel_rfl) ⟨⟨_, rfl⟩, trivial⟩ (by kernel_rfl) (by kernel_rfl) h
theorem xTurn_vc {n0 : Int}
    (h : ∀ k0, Up k k0 → CallsG Try.prog 79 #[Value.int .i64 n0] k0 fun k1 r0 => ∃ n1, some (Value.int .i64 n1) = some r0 ∧
 ∀ k2, Up k1 k2 → CallsG Try.prog 80 #[Value.int .i64 n1] k2 fun k3 r2 => ∃ cs2, Seg 9 cs2 ∧ some (Value.agg cs2) = some r2 ∧
 ∀ k4, Up k3 k4 → CallsG Try.prog 79 #[Value.int .i64 (IntKind.wrap .i64 (n1 - 6))] k4 fun k5 r4 => ∃ n3, some (Value.int .i64 n3) = some r4 ∧
 ∀ k6, Up k5 k6 → CallsG Try.prog 80 #[Value.int .i64 n3] k6 fun k7 r6 => ∃ cs4, Seg 9 cs4 ∧ some (Value.agg cs4) = some r6 ∧
 ∀ k8, Up k7 k8 → R k8 (Value.agg (cs2.toList ++ (cs4.toList ++ ([]))).toArray)) :
    CallsG Try.prog 44 #[Value.int .i64 n0] k R :=
  execFn_use (cfg := { opq := [53] }) (args := [.one (.var 0)]) (vals := [Value.int .i64 n0]) (kinds := [.int .i64]) (by kernel_rfl) ⟨⟨_, rfl⟩, trivial⟩ (by kernel_rfl) (by kernel_rfl) h
theorem xcos_vc {n0 : Int}
    (h : ((decide ((n0 : Int) > 12)) = true →
 (((decide (((IntKind.wrap .i64 (24 - n0)) : Int) > 6)) = true →
 (∀ k0, Up k k0 → CallsG Try.prog 80 #[Value.int .i64 (IntKind.wrap .i64 (12 - (IntKind.wrap .i64 (24 - n0))))] k0 fun k1 r0 => ∃ cs1, Seg 9 cs1 ∧ some (Value.agg cs1) = some r0 ∧
 ∀ k2, Up k1 k2 → CallsG Try.prog 90 #[Value.agg cs1] k2 fun k3 r2 => ∃ cs2, Seg 9 cs2 ∧ some (Value.agg cs2) = some r2 ∧
 ∀ k4, Up k3 k4 → R k4 (Value.agg cs2))) ∧
 ((decide (((IntKind.wrap .i64 (24 - n0)) : Int) > 6)) = false →
 (((((IntKind.wrap .i64 (24 - n0)) : Int) == 0) = true →
 (∀ k5, Up k k5 → CallsG Try.prog 48 #[Value.int .i64 1] k5 fun k6 r5 => ∃ cs1, Seg 2 cs1 ∧ some (Value.agg cs1) = some r5 ∧
 ∀ k7, Up k6 k7 → R k7 (Value.agg (cs1.toList ++ ((Value.bool false) :: ((Value.slice none 0 0) :: ((Value.bool false) :: ((Value.slice none 0 0) :: ((Value.bool false) :: ((Value.slice none 0 0) :: ((Value.slice none 0 0) :: ([]))))))))).toArray))) ∧
 ((((IntKind.wrap .i64 (24 - n0)) : Int) == 0) = false →
 (((((IntKind.wrap .i64 (24 - n0)) : Int) == 1) = true →
 (∀ k8, Up k k8 → CallsG Try.prog 110 #[Value.int .i64 1, Value.int .u64 4] k8 fun k9 r8 => ∃ cs1, Seg 9 cs1 ∧ some (Value.agg cs1) = some r8 ∧
 ∀ k10, Up k9 k10 → CallsG Try.prog 110 #[Value.int .i64 3, Value.int .u64 4] k10 fun k11 r10 => ∃ cs2, Seg 9 cs2 ∧ some (Value.agg cs2) = some r10 ∧
 ∀ k12, Up k11 k12 → CallsG Try.prog 75 #[Value.agg cs1, Value.agg cs2] k12 fun k13 r12 => ∃ cs3, Seg 9 cs3 ∧ some (Value.agg cs3) = some r12 ∧
 ∀ k14, Up k13 k14 → R k14 (Value.agg cs3))) ∧
 ((((IntKind.wrap .i64 (24 - n0)) : Int) == 1) = false →
 (((((IntKind.wrap .i64 (24 - n0)) : Int) == 2) = true →
 (∀ k15, Up k k15 → CallsG Try.prog 110 #[Value.int .i64 2, Value.int .u64 2] k15 fun k16 r15 => ∃ cs1, Seg 9 cs1 ∧ some (Value.agg cs1) = some r15 ∧
 ∀ k17, Up k16 k17 → R k17 (Value.agg cs1))) ∧
 ((((IntKind.wrap .i64 (24 - n0)) : Int) == 2) = false →
 (((((IntKind.wrap .i64 (24 - n0)) : Int) == 3) = true →
 (∀ k18, Up k k18 → CallsG Try.prog 110 #[Value.int .i64 1, Value.int .u64 2] k18 fun k19 r18 => ∃ cs1, Seg 9 cs1 ∧ some (Value.agg cs1) = some r18 ∧
 ∀ k20, Up k19 k20 → R k20 (Value.agg cs1))) ∧
 ((((IntKind.wrap .i64 (24 - n0)) : Int) == 3) = false →
 (((((IntKind.wrap .i64 (24 - n0)) : Int) == 4) = true →
 (∀ k21, Up k k21 → CallsG Try.prog 110 #[Value.int .i64 0, Value.int .u64 2] k21 fun k22 r21 => ∃ cs1, Seg 9 cs1 ∧ some (Value.agg cs1) = some r21 ∧
 ∀ k23, Up k22 k23 → R k23 (Value.agg cs1))) ∧
 ((((IntKind.wrap .i64 (24 - n0)) : Int) == 4) = false →
 (((((IntKind.wrap .i64 (24 - n0)) : Int) == 5) = true →
 (∀ k24, Up k k24 → CallsG Try.prog 110 #[Value.int .i64 3, Value.int .u64 4] k24 fun k25 r24 => ∃ cs1, Seg 9 cs1 ∧ some (Value.agg cs1) = some r24 ∧
 ∀ k26, Up k25 k26 → CallsG Try.prog 110 #[Value.int .i64 1, Value.int .u64 4] k26 fun k27 r26 => ∃ cs2, Seg 9 cs2 ∧ some (Value.agg cs2) = some r26 ∧
 ∀ k28, Up k27 k28 → CallsG Try.prog 60 #[Value.agg cs1, Value.agg cs2] k28 fun k29 r28 => ∃ cs3, Seg 9 cs3 ∧ some (Value.agg cs3) = some r28 ∧
 ∀ k30, Up k29 k30 → R k30 (Value.agg cs3))) ∧
 ((((IntKind.wrap .i64 (24 - n0)) : Int) == 5) = false →
 (∀ k31, Up k k31 → R k31 (Value.agg #[Value.bool false, Value.slice none 0 0, Value.bool false, Value.slice none 0 0, Value.bool false, Value.slice none 0 0, Value.bool false, Value.slice none 0 0, Value.slice none 0 0]))))))))))))))))) ∧
 ((decide ((n0 : Int) > 12)) = false →
 (((decide ((n0 : Int) > 6)) = true →
 (∀ k32, Up k k32 → CallsG Try.prog 80 #[Value.int .i64 (IntKind.wrap .i64 (12 - n0))] k32 fun k33 r32 => ∃ cs1, Seg 9 cs1 ∧ some (Value.agg cs1) = some r32 ∧
 ∀ k34, Up k33 k34 → CallsG Try.prog 90 #[Value.agg cs1] k34 fun k35 r34 => ∃ cs2, Seg 9 cs2 ∧ some (Value.agg cs2) = some r34 ∧
 ∀ k36, Up k35 k36 → R k36 (Value.agg cs2))) ∧
 ((decide ((n0 : Int) > 6)) = false →
 ((((n0 : Int) == 0) = true →
 (∀ k37, Up k k37 → CallsG Try.prog 48 #[Value.int .i64 1] k37 fun k38 r37 => ∃ cs1, Seg 2 cs1 ∧ some (Value.agg cs1) = some r37 ∧
 ∀ k39, Up k38 k39 → R k39 (Value.agg (cs1.toList ++ ((Value.bool false) :: ((Value.slice none 0 0) :: ((Value.bool false) :: ((Value.slice none 0 0) :: ((Value.bool false) :: ((Value.slice none 0 0) :: ((Value.slice none 0 0) :: ([]))))))))).toArray))) ∧
 (((n0 : Int) == 0) = false →
 ((((n0 : Int) == 1) = true →
 (∀ k40, Up k k40 → CallsG Try.prog 110 #[Value.int .i64 1, Value.int .u64 4] k40 fun k41 r40 => ∃ cs1, Seg 9 cs1 ∧ some (Value.agg cs1) = some r40 ∧
 ∀ k42, Up k41 k42 → CallsG Try.prog 110 #[Value.int .i64 3, Value.int .u64 4] k42 fun k43 r42 => ∃ cs2, Seg 9 cs2 ∧ some (Value.agg cs2) = some r42 ∧
 ∀ k44, Up k43 k44 → CallsG Try.prog 75 #[Value.agg cs1, Value.agg cs2] k44 fun k45 r44 => ∃ cs3, Seg 9 cs3 ∧ some (Value.agg cs3) = some r44 ∧
 ∀ k46, Up k45 k46 → R k46 (Value.agg cs3))) ∧
 (((n0 : Int) == 1) = false →
 ((((n0 : Int) == 2) = true →
 (∀ k47, Up k k47 → CallsG Try.prog 110 #[Value.int .i64 2, Value.int .u64 2] k47 fun k48 r47 => ∃ cs1, Seg 9 cs1 ∧ some (Value.agg cs1) = some r47 ∧
 ∀ k49, Up k48 k49 → R k49 (Value.agg cs1))) ∧
 (((n0 : Int) == 2) = false →
 ((((n0 : Int) == 3) = true →
 (∀ k50, Up k k50 → CallsG Try.prog 110 #[Value.int .i64 1, Value.int .u64 2] k50 fun k51 r50 => ∃ cs1, Seg 9 cs1 ∧ some (Value.agg cs1) = some r50 ∧
 ∀ k52, Up k51 k52 → R k52 (Value.agg cs1))) ∧
 (((n0 : Int) == 3) = false →
 ((((n0 : Int) == 4) = true →
 (∀ k53, Up k k53 → CallsG Try.prog 110 #[Value.int .i64 0, Value.int .u64 2] k53 fun k54 r53 => ∃ cs1, Seg 9 cs1 ∧ some (Value.agg cs1) = some r53 ∧
 ∀ k55, Up k54 k55 → R k55 (Value.agg cs1))) ∧
 (((n0 : Int) == 4) = false →
 ((((n0 : Int) == 5) = true →
 (∀ k56, Up k k56 → CallsG Try.prog 110 #[Value.int .i64 3, Value.int .u64 4] k56 fun k57 r56 => ∃ cs1, Seg 9 cs1 ∧ some (Value.agg cs1) = some r56 ∧
 ∀ k58, Up k57 k58 → CallsG Try.prog 110 #[Value.int .i64 1, Value.int .u64 4] k58 fun k59 r58 => ∃ cs2, Seg 9 cs2 ∧ some (Value.agg cs2) = some r58 ∧
 ∀ k60, Up k59 k60 → CallsG Try.prog 60 #[Value.agg cs1, Value.agg cs2] k60 fun k61 r60 => ∃ cs3, Seg 9 cs3 ∧ some (Value.agg cs3) = some r60 ∧
 ∀ k62, Up k61 k62 → R k62 (Value.agg cs3))) ∧
 (((n0 : Int) == 5) = false →
 (∀ k63, Up k k63 → R k63 (Value.agg #[Value.bool false, Value.slice none 0 0, Value.bool false, Value.slice none 0 0, Value.bool false, Value.slice none 0 0, Value.bool false, Value.slice none 0 0, Value.slice none 0 0])))))))))))))))))) :
    CallsG Try.prog 80 #[Value.int .i64 n0] k R :=
  execFn_use (cfg := { opq := [53, 26] }) (args := [.one (.var 0)]) (vals := [Value.int .i64 n0]) (kinds := [.int .i64]) (by kernel_rfl) ⟨⟨_, rfl⟩, trivial⟩ (by kernel_rfl) (by kernel_rfl) h
theorem part14_vc
    (h : ∀ k0, Up k k0 → CallsG Try.prog 48 #[Value.int .i64 1] k0 fun k1 r0 => ∃ cs0, Seg 2 cs0 ∧ some (Value.agg cs0) = some r0 ∧
 ∀ k2, Up k1 k2 → CallsG Try.prog 65 #[Value.int .u64 4] k2 fun k3 r2 => ∃ A1 l1 c1, some (Value.slice A1 l1 c1) = some r2 ∧
 ∀ k4, Up k3 k4 → R k4 (Value.agg ((Value.bool false) :: ((Value.slice none 0 0) :: (cs0.toList ++ ((Value.bool false) :: ((Value.slice none 0 0) :: ((Value.bool false) :: ((Value.slice none 0 0) :: ((Value.slice A1 l1 c1) :: ([]))))))))).toArray)) :
    CallsG Try.prog 110 #[Value.int .i64 1, Value.int .u64 4] k R :=
  Sy.execFn_use_heap (cfg := { opq := [26] }) (args := [.one (.lit (.int .i64 (1))), .one (.lit (.int .u64 (4)))]) (vals := []) (kinds := []) (blks := []) (heap := []) (by kernel_rfl) trivial (by kernel_rfl) trivial (by kernel_rfl) h
theorem part34_vc
    (h : ∀ k0, Up k k0 → CallsG Try.prog 48 #[Value.int .i64 1] k0 fun k1 r0 => ∃ cs0, Seg 2 cs0 ∧ some (Value.agg cs0) = some r0 ∧
 ∀ k2, Up k1 k2 → CallsG Try.prog 65 #[Value.int .u64 4] k2 fun k3 r2 => ∃ A1 l1 c1, some (Value.slice A1 l1 c1) = some r2 ∧
 ∀ k4, Up k3 k4 → R k4 (Value.agg ((Value.bool false) :: ((Value.slice none 0 0) :: ((Value.bool false) :: ((Value.slice none 0 0) :: ((Value.bool false) :: ((Value.slice none 0 0) :: (cs0.toList ++ ((Value.slice A1 l1 c1) :: ([]))))))))).toArray)) :
    CallsG Try.prog 110 #[Value.int .i64 3, Value.int .u64 4] k R :=
  Sy.execFn_use_heap (cfg := { opq := [26] }) (args := [.one (.lit (.int .i64 (3))), .one (.lit (.int .u64 (4)))]) (vals := []) (kinds := []) (blks := []) (heap := []) (by kernel_rfl) trivial (by kernel_rfl) trivial (by kernel_rfl) h
theorem part22_vc
    (h : ∀ k0, Up k k0 → CallsG Try.prog 48 #[Value.int .i64 1] k0 fun k1 r0 => ∃ cs0, Seg 2 cs0 ∧ some (Value.agg cs0) = some r0 ∧
 ∀ k2, Up k1 k2 → CallsG Try.prog 65 #[Value.int .u64 2] k2 fun k3 r2 => ∃ A1 l1 c1, some (Value.slice A1 l1 c1) = some r2 ∧
 ∀ k4, Up k3 k4 → R k4 (Value.agg ((Value.bool false) :: ((Value.slice none 0 0) :: ((Value.bool false) :: ((Value.slice none 0 0) :: (cs0.toList ++ ((Value.bool false) :: ((Value.slice none 0 0) :: ((Value.slice A1 l1 c1) :: ([]))))))))).toArray)) :
    CallsG Try.prog 110 #[Value.int .i64 2, Value.int .u64 2] k R :=
  Sy.execFn_use_heap (cfg := { opq := [26] }) (args := [.one (.lit (.int .i64 (2))), .one (.lit (.int .u64 (2)))]) (vals := []) (kinds := []) (blks := []) (heap := []) (by kernel_rfl) trivial (by kernel_rfl) trivial (by kernel_rfl) h
theorem part12_vc
    (h : ∀ k0, Up k k0 → CallsG Try.prog 48 #[Value.int .i64 1] k0 fun k1 r0 => ∃ cs0, Seg 2 cs0 ∧ some (Value.agg cs0) = some r0 ∧
 ∀ k2, Up k1 k2 → CallsG Try.prog 65 #[Value.int .u64 2] k2 fun k3 r2 => ∃ A1 l1 c1, some (Value.slice A1 l1 c1) = some r2 ∧
 ∀ k4, Up k3 k4 → R k4 (Value.agg ((Value.bool false) :: ((Value.slice none 0 0) :: (cs0.toList ++ ((Value.bool false) :: ((Value.slice none 0 0) :: ((Value.bool false) :: ((Value.slice none 0 0) :: ((Value.slice A1 l1 c1) :: ([]))))))))).toArray)) :
    CallsG Try.prog 110 #[Value.int .i64 1, Value.int .u64 2] k R :=
  Sy.execFn_use_heap (cfg := { opq := [26] }) (args := [.one (.lit (.int .i64 (1))), .one (.lit (.int .u64 (2)))]) (vals := []) (kinds := []) (blks := []) (heap := []) (by kernel_rfl) trivial (by kernel_rfl) trivial (by kernel_rfl) h
theorem part02_vc
    (h : ∀ k0, Up k k0 → CallsG Try.prog 48 #[Value.int .i64 1] k0 fun k1 r0 => ∃ cs0, Seg 2 cs0 ∧ some (Value.agg cs0) = some r0 ∧
 ∀ k2, Up k1 k2 → CallsG Try.prog 65 #[Value.int .u64 2] k2 fun k3 r2 => ∃ A1 l1 c1, some (Value.slice A1 l1 c1) = some r2 ∧
 ∀ k4, Up k3 k4 → R k4 (Value.agg (cs0.toList ++ ((Value.bool false) :: ((Value.slice none 0 0) :: ((Value.bool false) :: ((Value.slice none 0 0) :: ((Value.bool false) :: ((Value.slice none 0 0) :: ((Value.slice A1 l1 c1) :: ([]))))))))).toArray)) :
    CallsG Try.prog 110 #[Value.int .i64 0, Value.int .u64 2] k R :=
  Sy.execFn_use_heap (cfg := { opq := [26] }) (args := [.one (.lit (.int .i64 (0))), .one (.lit (.int .u64 (2)))]) (vals := []) (kinds := []) (blks := []) (heap := []) (by kernel_rfl) trivial (by kernel_rfl) trivial (by kernel_rfl) h
theorem sizes_vc {n0 n1 n2 n3 n4 n5 n6 n7 n8 n9 n10 n11 n12 n13 n14 n15 n16 n17 n18 n19 n20 n21 n22 n23 n24 n25 n26 n27 n28 n29 n30 n31 : Int}
    (h : ∀ k0, Up k k0 → CallsG Try.prog 9 #[] k0 fun k1 r0 => ∃ b32, some (Value.bool b32) = some r0 ∧
 ((!b32) = true →
 (∀ k2, Up k1 k2 → CallsG Try.prog 9 #[] k2 fun k3 r2 => ∃ b33, some (Value.bool b33) = some r2 ∧
 ∀ k4, Up k3 k4 → R k4 (Value.bool b33))) ∧
 ((!b32) = false →
 (∀ k5, Up k1 k5 → CallsG Try.prog 29 #[Value.agg #[Value.int .i64 n0, Value.int .i64 n1, Value.int .i64 n2, Value.int .i64 n3, Value.int .i64 n4, Value.int .i64 n5, Value.int .i64 n6, Value.int .i64 n7, Value.int .i64 n8, Value.int .i64 n9, Value.int .i64 n10, Value.int .i64 n11, Value.int .i64 n12, Value.int .i64 n13, Value.int .i64 n14, Value.int .i64 n15]] k5 fun k6 r5 => ∃ b33, some (Value.bool b33) = some r5 ∧
 ((!b33) = true →
 (∀ k7, Up k6 k7 → CallsG Try.prog 9 #[] k7 fun k8 r7 => ∃ b34, some (Value.bool b34) = some r7 ∧
 ∀ k9, Up k8 k9 → R k9 (Value.bool b34))) ∧
 ((!b33) = false →
 (∀ k10, Up k6 k10 → CallsG Try.prog 29 #[Value.agg #[Value.int .i64 n16, Value.int .i64 n17, Value.int .i64 n18, Value.int .i64 n19, Value.int .i64 n20, Value.int .i64 n21, Value.int .i64 n22, Value.int .i64 n23, Value.int .i64 n24, Value.int .i64 n25, Value.int .i64 n26, Value.int .i64 n27, Value.int .i64 n28, Value.int .i64 n29, Value.int .i64 n30, Value.int .i64 n31]] k10 fun k11 r10 => ∃ b34, some (Value.bool b34) = some r10 ∧
 ((!b34) = true →
 (∀ k12, Up k11 k12 → CallsG Try.prog 9 #[] k12 fun k13 r12 => ∃ b35, some (Value.bool b35) = some r12 ∧
 ∀ k14, Up k13 k14 → R k14 (Value.bool b35))) ∧
 ((!b34) = false →
 (∀ k15, Up k11 k15 → CallsG Try.prog 33 #[Value.agg #[Value.int .i64 n0, Value.int .i64 n1, Value.int .i64 n2, Value.int .i64 n3, Value.int .i64 n4, Value.int .i64 n5, Value.int .i64 n6, Value.int .i64 n7, Value.int .i64 n8, Value.int .i64 n9, Value.int .i64 n10, Value.int .i64 n11, Value.int .i64 n12, Value.int .i64 n13, Value.int .i64 n14, Value.int .i64 n15]] k15 fun k16 r15 => ∃ cs35, Seg 18 cs35 ∧ some (Value.agg cs35) = some r15 ∧
 ∀ k17, Up k16 k17 → CallsG Try.prog 33 #[Value.agg #[Value.int .i64 n16, Value.int .i64 n17, Value.int .i64 n18, Value.int .i64 n19, Value.int .i64 n20, Value.int .i64 n21, Value.int .i64 n22, Value.int .i64 n23, Value.int .i64 n24, Value.int .i64 n25, Value.int .i64 n26, Value.int .i64 n27, Value.int .i64 n28, Value.int .i64 n29, Value.int .i64 n30, Value.int .i64 n31]] k17 fun k18 r17 => ∃ cs36, Seg 18 cs36 ∧ some (Value.agg cs36) = some r17 ∧
 ∀ k19, Up k18 k19 → CallsG Try.prog 40 #[Value.agg cs35, Value.agg cs36] k19 fun k20 r19 => ∃ cs37, Seg 18 cs37 ∧ some (Value.agg cs37) = some r19 ∧
 ∀ k21, Up k20 k21 → CallsG Try.prog 41 #[Value.agg cs37] k21 fun k22 r21 => ∃ cs38, Seg 9 cs38 ∧ some (Value.agg cs38) = some r21 ∧
 ∀ k23, Up k22 k23 → CallsG Try.prog 41 #[Value.agg cs35] k23 fun k24 r23 => ∃ cs39, Seg 9 cs39 ∧ some (Value.agg cs39) = some r23 ∧
 ∀ k25, Up k24 k25 → CallsG Try.prog 41 #[Value.agg cs36] k25 fun k26 r25 => ∃ cs40, Seg 9 cs40 ∧ some (Value.agg cs40) = some r25 ∧
 ∀ k27, Up k26 k27 → CallsG Try.prog 42 #[Value.agg cs39, Value.agg cs40] k27 fun k28 r27 => ∃ cs41, Seg 9 cs41 ∧ some (Value.agg cs41) = some r27 ∧
 ∀ k29, Up k28 k29 → CallsG Try.prog 24 #[Value.agg cs38, Value.agg cs41] k29 fun k30 r29 => ∃ b42, some (Value.bool b42) = some r29 ∧
 ((!b42) = true →
 (∀ k31, Up k30 k31 → R k31 (Value.bool false))) ∧
 ((!b42) = false →
 (∀ k32, Up k30 k32 → CallsG Try.prog 43 #[Value.agg cs35] k32 fun k33 r32 => ∃ n43, ∃ cs44, Seg 9 cs44 ∧ some (Value.tuple #[Value.int .i64 n43, Value.agg cs44]) = some r32 ∧
 ∃ I34 : Nat → World → List Value → Prop, (∃ m34, ∀ k34, Up k33 k34 → I34 m34 k34 [Value.int .i64 0, Value.int .i64 0]) ∧
 ∀ m34 k34 vs34, Up k33 k34 → I34 m34 k34 vs34 → ∃ n45, ∃ n46, some [Value.int .i64 n45, Value.int .i64 n46] = some vs34 ∧
 ((decide ((n46 : Int) < 24)) = true →
 (∀ k35, Up k34 k35 → CallsG Try.prog 44 #[Value.int .i64 (IntKind.wrap .i64 (0 - n46))] k35 fun k36 r35 => ∃ cs47, Seg 18 cs47 ∧ some (Value.agg cs47) = some r35 ∧
 ∀ k37, Up k36 k37 → CallsG Try.prog 40 #[Value.agg cs35, Value.agg cs47] k37 fun k38 r37 => ∃ cs48, Seg 18 cs48 ∧ some (Value.agg cs48) = some r37 ∧
 ∀ k39, Up k38 k39 → CallsG Try.prog 45 #[Value.agg cs48] k39 fun k40 r39 => ∃ cs49, Seg 9 cs49 ∧ some (Value.agg cs49) = some r39 ∧
 ∀ k41, Up k40 k41 → CallsG Try.prog 38 #[Value.agg cs49, Value.agg cs44] k41 fun k42 r41 => ∃ n50, some (Value.int .i64 n50) = some r41 ∧
 ((decide ((n50 : Int) > 0)) = true →
 (∀ k43, Up k42 k43 → R k43 (Value.bool false))) ∧
 ((decide ((n50 : Int) > 0)) = false →
 ((((n50 : Int) == 0) = true →
 ((((n45 : Int) == 0) = true →
 ((((n43 : Int) != n46) = true →
 (∀ k44, Up k42 k44 → R k44 (Value.bool false))) ∧
 (((n43 : Int) != n46) = false →
 ((((n50 : Int) == 0) = true →
 (∀ k45, Up k42 k45 → ∃ m, m < m34 ∧ I34 m k45 [Value.int .i64 (IntKind.wrap .i64 (n45 + 1)), Value.int .i64 (IntKind.wrap .i64 (n46 + 1))])) ∧
 (((n50 : Int) == 0) = false →
 (∀ k46, Up k42 k46 → ∃ m, m < m34 ∧ I34 m k46 [Value.int .i64 n45, Value.int .i64 (IntKind.wrap .i64 (n46 + 1))])))))) ∧
 (((n45 : Int) == 0) = false →
 ((((n50 : Int) == 0) = true →
 (∀ k47, Up k42 k47 → ∃ m, m < m34 ∧ I34 m k47 [Value.int .i64 (IntKind.wrap .i64 (n45 + 1)), Value.int .i64 (IntKind.wrap .i64 (n46 + 1))])) ∧
 (((n50 : Int) == 0) = false →
 (∀ k48, Up k42 k48 → ∃ m, m < m34 ∧ I34 m k48 [Value.int .i64 n45, Value.int .i64 (IntKind.wrap .i64 (n46 + 1))])))))) ∧
 (((n50 : Int) == 0) = false →
 ((((n50 : Int) == 0) = true →
 (∀ k49, Up k42 k49 → ∃ m, m < m34 ∧ I34 m k49 [Value.int .i64 (IntKind.wrap .i64 (n45 + 1)), Value.int .i64 (IntKind.wrap .i64 (n46 + 1))])) ∧
 (((n50 : Int) == 0) = false →
 (∀ k50, Up k42 k50 → ∃ m, m < m34 ∧ I34 m k50 [Value.int .i64 n45, Value.int .i64 (IntKind.wrap .i64 (n46 + 1))])))))))) ∧
 ((decide ((n46 : Int) < 24)) = false →
 (∀ k51, Up k34 k51 → CallsG Try.prog 41 #[Value.agg cs35] k51 fun k52 r51 => ∃ cs47, Seg 9 cs47 ∧ some (Value.agg cs47) = some r51 ∧
 ∀ k53, Up k52 k53 → CallsG Try.prog 22 #[Value.agg #[Value.int .i64 24, Value.int .i64 25]] k53 fun k54 r53 => ∃ cs48, Seg 3 cs48 ∧ some (Value.agg cs48) = some r53 ∧
 ∀ k55, Up k54 k55 → CallsG Try.prog 37 #[Value.agg cs44, Value.agg cs48] k55 fun k56 r55 => ∃ cs49, Seg 9 cs49 ∧ some (Value.agg cs49) = some r55 ∧
 ∀ k57, Up k56 k57 → CallsG Try.prog 42 #[Value.agg cs47, Value.agg cs49] k57 fun k58 r57 => ∃ cs50, Seg 9 cs50 ∧ some (Value.agg cs50) = some r57 ∧
 ∀ k59, Up k58 k59 → CallsG Try.prog 42 #[Value.agg cs44, Value.agg cs44] k59 fun k60 r59 => ∃ cs51, Seg 9 cs51 ∧ some (Value.agg cs51) = some r59 ∧
 ∀ k61, Up k60 k61 → CallsG Try.prog 41 #[Value.agg cs35] k61 fun k62 r61 => ∃ cs52, Seg 9 cs52 ∧ some (Value.agg cs52) = some r61 ∧
 ∀ k63, Up k62 k63 → CallsG Try.prog 38 #[Value.agg cs51, Value.agg cs52] k63 fun k64 r63 => ∃ n53, some (Value.int .i64 n53) = some r63 ∧
 ((decide ((n53 : Int) > 0)) = true →
 (∀ k65, Up k64 k65 → R k65 (Value.bool false))) ∧
 ((decide ((n53 : Int) > 0)) = false →
 (∀ k66, Up k64 k66 → CallsG Try.prog 42 #[Value.agg cs44, Value.agg cs44] k66 fun k67 r66 => ∃ cs54, Seg 9 cs54 ∧ some (Value.agg cs54) = some r66 ∧
 ∀ k68, Up k67 k68 → CallsG Try.prog 38 #[Value.agg cs54, Value.agg cs50] k68 fun k69 r68 => ∃ n55, some (Value.int .i64 n55) = some r68 ∧
 ((decide ((n55 : Int) < 0)) = true →
 (∀ k70, Up k69 k70 → R k70 (Value.bool false))) ∧
 ((decide ((n55 : Int) < 0)) = false →
 (∀ k71, Up k69 k71 → CallsG Try.prog 44 #[Value.int .i64 1] k71 fun k72 r71 => ∃ cs56, Seg 18 cs56 ∧ some (Value.agg cs56) = some r71 ∧
 ∀ k73, Up k72 k73 → CallsG Try.prog 40 #[Value.agg cs35, Value.agg cs56] k73 fun k74 r73 => ∃ cs57, Seg 18 cs57 ∧ some (Value.agg cs57) = some r73 ∧
 ∀ k75, Up k74 k75 → CallsG Try.prog 43 #[Value.agg cs57] k75 fun k76 r75 => ∃ n58, ∃ cs59, Seg 9 cs59 ∧ some (Value.tuple #[Value.int .i64 n58, Value.agg cs59]) = some r75 ∧
 (((n45 : Int) != 1) = true →
 (∀ k77, Up k76 k77 → R k77 (Value.bool true))) ∧
 (((n45 : Int) != 1) = false →
 ((((n58 : Int) == (Int.tmod (IntKind.wrap .i64 (n43 + 1)) 24)) = true →
 (∀ k78, Up k76 k78 → CallsG Try.prog 24 #[Value.agg cs59, Value.agg cs44] k78 fun k79 r78 => ∃ b60, some (Value.bool b60) = some r78 ∧
 ∀ k80, Up k79 k80 → R k80 (Value.bool b60))) ∧
 (((n58 : Int) == (Int.tmod (IntKind.wrap .i64 (n43 + 1)) 24)) = false →
 (∀ k81, Up k76 k81 → R k81 (Value.bool false)))))))))))))))))))) :
    CallsG Try.prog 8 #[Value.agg #[Value.int .i64 n0, Value.int .i64 n1, Value.int .i64 n2, Value.int .i64 n3, Value.int .i64 n4, Value.int .i64 n5, Value.int .i64 n6, Value.int .i64 n7, Value.int .i64 n8, Value.int .i64 n9, Value.int .i64 n10, Value.int .i64 n11, Value.int .i64 n12, Value.int .i64 n13, Value.int .i64 n14, Value.int .i64 n15], Value.agg #[Value.int .i64 n16, Value.int .i64 n17, Value.int .i64 n18, Value.int .i64 n19, Value.int .i64 n20, Value.int .i64 n21, Value.int .i64 n22, Value.int .i64 n23, Value.int .i64 n24, Value.int .i64 n25, Value.int .i64 n26, Value.int .i64 n27, Value.int .i64 n28, Value.int .i64 n29, Value.int .i64 n30, Value.int .i64 n31]] k R :=
  execFn_use (cfg := { opq := [53, 69, 28], loops := [(0, [.tmp 9 false [.int .i64], .tmp 48 false [.int .i64]])] }) (args := [.agg [.var 0, .var 1, .var 2, .var 3, .var 4, .var 5, .var 6, .var 7, .var 8, .var 9, .var 10, .var 11, .var 12, .var 13, .var 14, .var 15], .agg [.var 16, .var 17, .var 18, .var 19, .var 20, .var 21, .var 22, .var 23, .var 24, .var 25, .var 26, .var 27, .var 28, .var 29, .var 30, .var 31]]) (vals := [Value.int .i64 n0, Value.int .i64 n1, Value.int .i64 n2, Value.int .i64 n3, Value.int .i64 n4, Value.int .i64 n5, Value.int .i64 n6, Value.int .i64 n7, Value.int .i64 n8, Value.int .i64 n9, Value.int .i64 n10, Value.int .i64 n11, Value.int .i64 n12, Value.int .i64 n13, Value.int .i64 n14, Value.int .i64 n15, Value.int .i64 n16, Value.int .i64 n17, Value.int .i64 n18, Value.int .i64 n19, Value.int .i64 n20, Value.int .i64 n21, Value.int .i64 n22, Value.int .i64 n23, Value.int .i64 n24, Value.int .i64 n25, Value.int .i64 n26, Value.int .i64 n27, Value.int .i64 n28, Value.int .i64 n29, Value.int .i64 n30, Value.int .i64 n31]) (kinds := [.int .i64, .int .i64, .int .i64, .int .i64, .int .i64, .int .i64, .int .i64, .int .i64, .int .i64, .int .i64, .int .i64, .int .i64, .int .i64, .int .i64, .int .i64, .int .i64, .int .i64, .int .i64, .int .i64, .int .i64, .int .i64, .int .i64, .int .i64, .int .i64, .int .i64, .int .i64, .int .i64, .int .i64, .int .i64, .int .i64, .int .i64, .int .i64]) (by kernel_rfl) ⟨⟨_, rfl⟩, ⟨⟨_, rfl⟩, ⟨⟨_, rfl⟩, ⟨⟨_, rfl⟩, ⟨⟨_, rfl⟩, ⟨⟨_, rfl⟩, ⟨⟨_, rfl⟩, ⟨⟨_, rfl⟩, ⟨⟨_, rfl⟩, ⟨⟨_, rfl⟩, ⟨⟨_, rfl⟩, ⟨⟨_, rfl⟩, ⟨⟨_, rfl⟩, ⟨⟨_, rfl⟩, ⟨⟨_, rfl⟩, ⟨⟨_, rfl⟩, ⟨⟨_, rfl⟩, ⟨⟨_, rfl⟩, ⟨⟨_, rfl⟩, ⟨⟨_, rfl⟩, ⟨⟨_, rfl⟩, ⟨⟨_, rfl⟩, ⟨⟨_, rfl⟩, ⟨⟨_, rfl⟩, ⟨⟨_, rfl⟩, ⟨⟨_, rfl⟩, ⟨⟨_, rfl⟩, ⟨⟨_, rfl⟩, ⟨⟨_, rfl⟩, ⟨⟨_, rfl⟩, ⟨⟨_, rfl⟩, ⟨⟨_, rfl⟩, trivial⟩⟩⟩⟩⟩⟩⟩⟩⟩⟩⟩⟩⟩⟩⟩⟩⟩⟩⟩⟩⟩⟩⟩⟩⟩⟩⟩⟩⟩⟩⟩⟩ (by kernel_rfl) (by kernel_rfl) h
end Go.Proofs.Ytpjakokgmgggiaa

/- Turns of the program. (Printed by gen/turnz.py.) -/
namespace Go.Proofs.Ytpjakokgmgggiaa
open Go.RowKit Num
open Sy (Up Sees CallsG Seg)
section
variable {k k' : World} {cs cs' c0 c1 : Array Value} {R : World → Value → Prop} {v v' : Q4} {x y : W4} {K L : Nat}
theorem IntV.cut {z : Int} (h : IntV k cs z K) (hz : z.natAbs ≤ 1000) : IntV k cs z 1 := by
 obtain ⟨b, A, n, c, e, h1, h2⟩ := h
 refine ⟨b, A, n, c, e, h1, ?_⟩
 rw [h1.lim.len]
 exact nw_le_of (by unfold B64; omega)
theorem small_part {z : Int} {m : Nat} (hm : 0 < m) (h : q4s (mkRat z m) = true) : m ∣ 4 * z.natAbs ∧ 4 * z.natAbs ≤ 1000 * m := by
 unfold q4s at h
 rw [Bool.and_eq_true, beq_iff_eq, decide_eq_true_iff] at h
 have e : (4 : Rat) * mkRat z m = mkRat (z * (4 : Nat)) m := by rw [mkRat_scale z 4 hm]; rfl
 rw [e, mkRat_dn _ hm, mkRat_abs _ hm] at h
 obtain ⟨h1, h2⟩ := h
 have hz : (z * ((4 : Nat) : Int)).natAbs = 4 * z.natAbs := by rw [Int.natAbs_mul, Int.natAbs_natCast, Nat.mul_comm]
 rw [hz] at h1 h2
 generalize hg : Nat.gcd (4 * z.natAbs) m = g at h1 h2
 have d1 : g ∣ m := hg ▸ Nat.gcd_dvd_right _ _
 have d2 : g ∣ 4 * z.natAbs := hg ▸ Nat.gcd_dvd_left _ _
 have em : m = g := by have := Nat.div_mul_cancel d1; rw [h1, Nat.one_mul] at this; exact this.symm
 have hle := Nat.mul_le_mul_right g h2
 rw [Nat.div_mul_cancel d2] at hle
 rw [em]
 exact ⟨d2, hle⟩
theorem SurdV.cut (h : SurdV k cs v K) (hs : v.small = true) : SurdV k cs v 1 := by
 obtain ⟨c0, c1, c2, c3, D, d, e, y0, y1, y2, y3, m, h1, hm, hg, rfl, i0, i1, i2, i3, l, hd⟩ := h
 unfold Q4.small mkQ at hs
 rw [Bool.and_eq_true, Bool.and_eq_true, Bool.and_eq_true] at hs
 obtain ⟨⟨⟨s0, s1⟩, s2⟩, s3⟩ := hs
 obtain ⟨d0, b0⟩ := small_part hm s0
 obtain ⟨d1, b1⟩ := small_part hm s1
 obtain ⟨d2, b2⟩ := small_part hm s2
 obtain ⟨d3, b3⟩ := small_part hm s3
 have hm4 : m ∣ 4 := by
   have dm : m ∣ 4 * m := Nat.dvd_mul_left m 4
   have := Nat.dvd_gcd (Nat.dvd_gcd (Nat.dvd_gcd (Nat.dvd_gcd dm d0) d1) d2) d3
   rw [Nat.gcd_mul_left, Nat.gcd_mul_left, Nat.gcd_mul_left, Nat.gcd_mul_left] at this
   unfold gcd5 at hg
   rw [hg] at this
   exact this
 have hm4 := Nat.le_of_dvd (by decide) hm4
 refine ⟨c0, c1, c2, c3, D, d, e, y0, y1, y2, y3, m, h1, hm, hg, rfl, i0.cut (by omega), i1.cut (by omega), i2.cut (by omega), i3.cut (by omega), l, ?_⟩
 rw [l.len]
 refine nw_le_of ?_
 unfold B64
 split <;> omega
theorem part14_s (C : ∀ k' ds, Up k k' → SurdV k' ds ⟨0, 1 / 4, 0, 0⟩ 1 → R k' (.agg ds)) :
   ∀ k0, Up k k0 → CallsG Try.prog 110 #[.int .i64 1, .int .u64 4] k0 R := by
 intro k0 u0
 refine part14_vc ?_
 refine of_s (by decide) (by decide) fun k1 d1 u1 i1 => ⟨d1, i1.seg, rfl, ?_⟩
 refine word_s (x := 4) (by decide) fun k2 A l c u2 l2 hl => ⟨A, l, c, rfl, fun k3 u3 => ?_⟩
 exact C k3 _ (((u0.trans u1).trans u2).trans u3) ⟨#[.bool false, .slice none 0 0], d1, #[.bool false, .slice none 0 0], #[.bool false, .slice none 0 0], A, l, c, 0, 1, 0, 0, 4, rfl, by decide, by decide, by decide +kernel, IntV.nil, (i1.up u2).up u3, IntV.nil, IntV.nil, (by rw [if_neg (by decide)]; exact l2.up u3), hl⟩
theorem part34_s (C : ∀ k' ds, Up k k' → SurdV k' ds ⟨0, 0, 0, 1 / 4⟩ 1 → R k' (.agg ds)) :
   ∀ k0, Up k k0 → CallsG Try.prog 110 #[.int .i64 3, .int .u64 4] k0 R := by
 intro k0 u0
 refine part34_vc ?_
 refine of_s (by decide) (by decide) fun k1 d1 u1 i1 => ⟨d1, i1.seg, rfl, ?_⟩
 refine word_s (x := 4) (by decide) fun k2 A l c u2 l2 hl => ⟨A, l, c, rfl, fun k3 u3 => ?_⟩
 exact C k3 _ (((u0.trans u1).trans u2).trans u3) ⟨#[.bool false, .slice none 0 0], #[.bool false, .slice none 0 0], #[.bool false, .slice none 0 0], d1, A, l, c, 0, 0, 0, 1, 4, rfl, by decide, by decide, by decide +kernel, IntV.nil, IntV.nil, IntV.nil, (i1.up u2).up u3, (by rw [if_neg (by decide)]; exact l2.up u3), hl⟩
theorem part22_s (C : ∀ k' ds, Up k k' → SurdV k' ds ⟨0, 0, 1 / 2, 0⟩ 1 → R k' (.agg ds)) :
   ∀ k0, Up k k0 → CallsG Try.prog 110 #[.int .i64 2, .int .u64 2] k0 R := by
 intro k0 u0
 refine part22_vc ?_
 refine of_s (by decide) (by decide) fun k1 d1 u1 i1 => ⟨d1, i1.seg, rfl, ?_⟩
 refine word_s (x := 2) (by decide) fun k2 A l c u2 l2 hl => ⟨A, l, c, rfl, fun k3 u3 => ?_⟩
 exact C k3 _ (((u0.trans u1).trans u2).trans u3) ⟨#[.bool false, .slice none 0 0], #[.bool false, .slice none 0 0], d1, #[.bool false, .slice none 0 0], A, l, c, 0, 0, 1, 0, 2, rfl, by decide, by decide, by decide +kernel, IntV.nil, IntV.nil, (i1.up u2).up u3, IntV.nil, (by rw [if_neg (by decide)]; exact l2.up u3), hl⟩
theorem part12_s (C : ∀ k' ds, Up k k' → SurdV k' ds ⟨0, 1 / 2, 0, 0⟩ 1 → R k' (.agg ds)) :
   ∀ k0, Up k k0 → CallsG Try.prog 110 #[.int .i64 1, .int .u64 2] k0 R := by
 intro k0 u0
 refine part12_vc ?_
 refine of_s (by decide) (by decide) fun k1 d1 u1 i1 => ⟨d1, i1.seg, rfl, ?_⟩
 refine word_s (x := 2) (by decide) fun k2 A l c u2 l2 hl => ⟨A, l, c, rfl, fun k3 u3 => ?_⟩
 exact C k3 _ (((u0.trans u1).trans u2).trans u3) ⟨#[.bool false, .slice none 0 0], d1, #[.bool false, .slice none 0 0], #[.bool false, .slice none 0 0], A, l, c, 0, 1, 0, 0, 2, rfl, by decide, by decide, by decide +kernel, IntV.nil, (i1.up u2).up u3, IntV.nil, IntV.nil, (by rw [if_neg (by decide)]; exact l2.up u3), hl⟩
theorem part02_s (C : ∀ k' ds, Up k k' → SurdV k' ds ⟨1 / 2, 0, 0, 0⟩ 1 → R k' (.agg ds)) :
   ∀ k0, Up k k0 → CallsG Try.prog 110 #[.int .i64 0, .int .u64 2] k0 R := by
 intro k0 u0
 refine part02_vc ?_
 refine of_s (by decide) (by decide) fun k1 d1 u1 i1 => ⟨d1, i1.seg, rfl, ?_⟩
 refine word_s (x := 2) (by decide) fun k2 A l c u2 l2 hl => ⟨A, l, c, rfl, fun k3 u3 => ?_⟩
 exact C k3 _ (((u0.trans u1).trans u2).trans u3) ⟨d1, #[.bool false, .slice none 0 0], #[.bool false, .slice none 0 0], #[.bool false, .slice none 0 0], A, l, c, 1, 0, 0, 0, 2, rfl, by decide, by decide, by decide +kernel, (i1.up u2).up u3, IntV.nil, IntV.nil, IntV.nil, (by rw [if_neg (by decide)]; exact l2.up u3), hl⟩
theorem cast4 (h : SurdV k cs v K) (e : v = v') : SurdV k cs v' K := e ▸ h
theorem xcos0_s (C : ∀ k' ds, Up k k' → SurdV k' ds (cosQ 0) 1 → R k' (.agg ds)) :
   ∀ k0, Up k k0 → CallsG Try.prog 80 #[.int .i64 0] k0 R := by
 intro k0 u0
 refine xcos_vc ⟨fun h => absurd h (by decide +kernel), fun _ => ⟨fun h => absurd h (by decide +kernel), fun _ => ⟨fun _ => ?_, fun h => absurd h (by decide +kernel)⟩⟩⟩
 refine of_s (by decide) (by decide) fun k1 d1 u1 i1 => ⟨d1, i1.seg, rfl, fun k2 u2 => ?_⟩
 exact C k2 _ ((u0.trans u1).trans u2) ⟨d1, #[.bool false, .slice none 0 0], #[.bool false, .slice none 0 0], #[.bool false, .slice none 0 0], none, 0, 0, 1, 0, 0, 0, 1, rfl, by decide, by decide, by decide +kernel, i1.up u2, IntV.nil, IntV.nil, IntV.nil, (by rw [if_pos rfl]; exact LimR.nil), Nat.zero_le _⟩
theorem xcos1_s (C : ∀ k' ds, Up k k' → SurdV k' ds (cosQ 1) 1 → R k' (.agg ds)) :
   ∀ k0, Up k k0 → CallsG Try.prog 80 #[.int .i64 1] k0 R := by
 intro k0 u0
 refine xcos_vc ⟨fun h => absurd h (by decide +kernel), fun _ => ⟨fun h => absurd h (by decide +kernel), fun _ => ⟨fun h => absurd h (by decide +kernel), fun _ => ⟨fun _ => ?_, fun h => absurd h (by decide +kernel)⟩⟩⟩⟩
 refine part14_s fun k1 d1 u1 h1 => ⟨d1, h1.seg, rfl, ?_⟩
 refine part34_s fun k2 d2 u2 h2 => ⟨d2, h2.seg, rfl, ?_⟩
 refine SAdd_s (h1.up u2) h2 (by decide) (by decide) fun k3 d3 u3 h3 => ⟨d3, h3.seg, rfl, fun k4 u4 => ?_⟩
 refine C k4 d3 ((((u0.trans u1).trans u2).trans u3).trans u4) (SurdV.cut (K := 2 * 1 + 1) (cast4 (h3.up u4) (by decide +kernel)) (by decide +kernel))
theorem xcos2_s (C : ∀ k' ds, Up k k' → SurdV k' ds (cosQ 2) 1 → R k' (.agg ds)) :
   ∀ k0, Up k k0 → CallsG Try.prog 80 #[.int .i64 2] k0 R := by
 intro k0 u0
 refine xcos_vc ⟨fun h => absurd h (by decide +kernel), fun _ => ⟨fun h => absurd h (by decide +kernel), fun _ => ⟨fun h => absurd h (by decide +kernel), fun _ => ⟨fun h => absurd h (by decide +kernel), fun _ => ⟨fun _ => ?_, fun h => absurd h (by decide +kernel)⟩⟩⟩⟩⟩
 exact part22_s fun k1 d1 u1 h1 => ⟨d1, h1.seg, rfl, fun k2 u2 => C k2 d1 ((u0.trans u1).trans u2) (h1.up u2)⟩
theorem xcos3_s (C : ∀ k' ds, Up k k' → SurdV k' ds (cosQ 3) 1 → R k' (.agg ds)) :
   ∀ k0, Up k k0 → CallsG Try.prog 80 #[.int .i64 3] k0 R := by
 intro k0 u0
 refine xcos_vc ⟨fun h => absurd h (by decide +kernel), fun _ => ⟨fun h => absurd h (by decide +kernel), fun _ => ⟨fun h => absurd h (by decide +kernel), fun _ => ⟨fun h => absurd h (by decide +kernel), fun _ => ⟨fun h => absurd h (by decide +kernel), fun _ => ⟨fun _ => ?_, fun h => absurd h (by decide +kernel)⟩⟩⟩⟩⟩⟩
 exact part12_s fun k1 d1 u1 h1 => ⟨d1, h1.seg, rfl, fun k2 u2 => C k2 d1 ((u0.trans u1).trans u2) (h1.up u2)⟩
theorem xcos4_s (C : ∀ k' ds, Up k k' → SurdV k' ds (cosQ 4) 1 → R k' (.agg ds)) :
   ∀ k0, Up k k0 → CallsG Try.prog 80 #[.int .i64 4] k0 R := by
 intro k0 u0
 refine xcos_vc ⟨fun h => absurd h (by decide +kernel), fun _ => ⟨fun h => absurd h (by decide +kernel), fun _ => ⟨fun h => absurd h (by decide +kernel), fun _ => ⟨fun h => absurd h (by decide +kernel), fun _ => ⟨fun h => absurd h (by decide +kernel), fun _ => ⟨fun h => absurd h (by decide +kernel), fun _ => ⟨fun _ => ?_, fun h => absurd h (by decide +kernel)⟩⟩⟩⟩⟩⟩⟩
 exact part02_s fun k1 d1 u1 h1 => ⟨d1, h1.seg, rfl, fun k2 u2 => C k2 d1 ((u0.trans u1).trans u2) (h1.up u2)⟩
theorem xcos5_s (C : ∀ k' ds, Up k k' → SurdV k' ds (cosQ 5) 1 → R k' (.agg ds)) :
   ∀ k0, Up k k0 → CallsG Try.prog 80 #[.int .i64 5] k0 R := by
 intro k0 u0
 refine xcos_vc ⟨fun h => absurd h (by decide +kernel), fun _ => ⟨fun h => absurd h (by decide +kernel), fun _ => ⟨fun h => absurd h (by decide +kernel), fun _ => ⟨fun h => absurd h (by decide +kernel), fun _ => ⟨fun h => absurd h (by decide +kernel), fun _ => ⟨fun h => absurd h (by decide +kernel), fun _ => ⟨fun h => absurd h (by decide +kernel), fun _ => ⟨fun _ => ?_, fun h => absurd h (by decide +kernel)⟩⟩⟩⟩⟩⟩⟩⟩
 refine part34_s fun k1 d1 u1 h1 => ⟨d1, h1.seg, rfl, ?_⟩
 refine part14_s fun k2 d2 u2 h2 => ⟨d2, h2.seg, rfl, ?_⟩
 refine SSub_s (h1.up u2) h2 (by decide) (by decide) fun k3 d3 u3 h3 => ⟨d3, h3.seg, rfl, fun k4 u4 => ?_⟩
 refine C k4 d3 ((((u0.trans u1).trans u2).trans u3).trans u4) (SurdV.cut (K := 2 * 1 + 1) (cast4 (h3.up u4) (by decide +kernel)) (by decide +kernel))
theorem xcos6_s (C : ∀ k' ds, Up k k' → SurdV k' ds (cosQ 6) 1 → R k' (.agg ds)) :
   ∀ k0, Up k k0 → CallsG Try.prog 80 #[.int .i64 6] k0 R := by
 intro k0 u0
 refine xcos_vc ⟨fun h => absurd h (by decide +kernel), fun _ => ⟨fun h => absurd h (by decide +kernel), fun _ => ⟨fun h => absurd h (by decide +kernel), fun _ => ⟨fun h => absurd h (by decide +kernel), fun _ => ⟨fun h => absurd h (by decide +kernel), fun _ => ⟨fun h => absurd h (by decide +kernel), fun _ => ⟨fun h => absurd h (by decide +kernel), fun _ => ⟨fun h => absurd h (by decide +kernel), fun _ => ?_⟩⟩⟩⟩⟩⟩⟩⟩
 intro k1 u1
 exact C k1 _ (u0.trans u1) (SurdV.nil (Nat.zero_le _))
theorem xcos7_s (C : ∀ k' ds, Up k k' → SurdV k' ds (cosQ 7) 1 → R k' (.agg ds)) :
   ∀ k0, Up k k0 → CallsG Try.prog 80 #[.int .i64 7] k0 R := by
 intro k0 u0
 refine xcos_vc ⟨fun h => absurd h (by decide +kernel), fun _ => ⟨fun _ => ?_, fun h => absurd h (by decide +kernel)⟩⟩
 rw [show IntKind.wrap .i64 (12 - 7) = (5 : Int) from by decide +kernel]
 refine xcos5_s fun k1 d1 u1 h1 => ⟨d1, h1.seg, rfl, ?_⟩
 refine SNeg_s h1 (by decide) fun k3 d3 u3 h3 => ⟨d3, h3.seg, rfl, fun k4 u4 => ?_⟩
 exact C k4 d3 (((u0.trans u1).trans u3).trans u4) (h3.up u4)
theorem xcos8_s (C : ∀ k' ds, Up k k' → SurdV k' ds (cosQ 8) 1 → R k' (.agg ds)) :
   ∀ k0, Up k k0 → CallsG Try.prog 80 #[.int .i64 8] k0 R := by
 intro k0 u0
 refine xcos_vc ⟨fun h => absurd h (by decide +kernel), fun _ => ⟨fun _ => ?_, fun h => absurd h (by decide +kernel)⟩⟩
 rw [show IntKind.wrap .i64 (12 - 8) = (4 : Int) from by decide +kernel]
 refine xcos4_s fun k1 d1 u1 h1 => ⟨d1, h1.seg, rfl, ?_⟩
 refine SNeg_s h1 (by decide) fun k3 d3 u3 h3 => ⟨d3, h3.seg, rfl, fun k4 u4 => ?_⟩
 exact C k4 d3 (((u0.trans u1).trans u3).trans u4) (h3.up u4)
theorem xcos9_s (C : ∀ k' ds, Up k k' → SurdV k' ds (cosQ 9) 1 → R k' (.agg ds)) :
   ∀ k0, Up k k0 → CallsG Try.prog 80 #[.int .i64 9] k0 R := by
 intro k0 u0
 refine xcos_vc ⟨fun h => absurd h (by decide +kernel), fun _ => ⟨fun _ => ?_, fun h => absurd h (by decide +kernel)⟩⟩
 rw [show IntKind.wrap .i64 (12 - 9) = (3 : Int) from by decide +kernel]
 refine xcos3_s fun k1 d1 u1 h1 => ⟨d1, h1.seg, rfl, ?_⟩
 refine SNeg_s h1 (by decide) fun k3 d3 u3 h3 => ⟨d3, h3.seg, rfl, fun k4 u4 => ?_⟩
 exact C k4 d3 (((u0.trans u1).trans u3).trans u4) (h3.up u4)
theorem xcos10_s (C : ∀ k' ds, Up k k' → SurdV k' ds (cosQ 10) 1 → R k' (.agg ds)) :
   ∀ k0, Up k k0 → CallsG Try.prog 80 #[.int .i64 10] k0 R := by
 intro k0 u0
 refine xcos_vc ⟨fun h => absurd h (by decide +kernel), fun _ => ⟨fun _ => ?_, fun h => absurd h (by decide +kernel)⟩⟩
 rw [show IntKind.wrap .i64 (12 - 10) = (2 : Int) from by decide +kernel]
 refine xcos2_s fun k1 d1 u1 h1 => ⟨d1, h1.seg, rfl, ?_⟩
 refine SNeg_s h1 (by decide) fun k3 d3 u3 h3 => ⟨d3, h3.seg, rfl, fun k4 u4 => ?_⟩
 exact C k4 d3 (((u0.trans u1).trans u3).trans u4) (h3.up u4)
theorem xcos11_s (C : ∀ k' ds, Up k k' → SurdV k' ds (cosQ 11) 1 → R k' (.agg ds)) :
   ∀ k0, Up k k0 → CallsG Try.prog 80 #[.int .i64 11] k0 R := by
 intro k0 u0
 refine xcos_vc ⟨fun h => absurd h (by decide +kernel), fun _ => ⟨fun _ => ?_, fun h => absurd h (by decide +kernel)⟩⟩
 rw [show IntKind.wrap .i64 (12 - 11) = (1 : Int) from by decide +kernel]
 refine xcos1_s fun k1 d1 u1 h1 => ⟨d1, h1.seg, rfl, ?_⟩
 refine SNeg_s h1 (by decide) fun k3 d3 u3 h3 => ⟨d3, h3.seg, rfl, fun k4 u4 => ?_⟩
 exact C k4 d3 (((u0.trans u1).trans u3).trans u4) (h3.up u4)
theorem xcos12_s (C : ∀ k' ds, Up k k' → SurdV k' ds (cosQ 12) 1 → R k' (.agg ds)) :
   ∀ k0, Up k k0 → CallsG Try.prog 80 #[.int .i64 12] k0 R := by
 intro k0 u0
 refine xcos_vc ⟨fun h => absurd h (by decide +kernel), fun _ => ⟨fun _ => ?_, fun h => absurd h (by decide +kernel)⟩⟩
 rw [show IntKind.wrap .i64 (12 - 12) = (0 : Int) from by decide +kernel]
 refine xcos0_s fun k1 d1 u1 h1 => ⟨d1, h1.seg, rfl, ?_⟩
 refine SNeg_s h1 (by decide) fun k3 d3 u3 h3 => ⟨d3, h3.seg, rfl, fun k4 u4 => ?_⟩
 exact C k4 d3 (((u0.trans u1).trans u3).trans u4) (h3.up u4)
theorem xcos13_s (C : ∀ k' ds, Up k k' → SurdV k' ds (cosQ 13) 1 → R k' (.agg ds)) :
   ∀ k0, Up k k0 → CallsG Try.prog 80 #[.int .i64 13] k0 R := by
 intro k0 u0
 refine xcos_vc ⟨fun _ => ⟨fun _ => ?_, fun h => absurd h (by decide +kernel)⟩, fun h => absurd h (by decide +kernel)⟩
 rw [show IntKind.wrap .i64 (12 - (IntKind.wrap .i64 (24 - 13))) = (1 : Int) from by decide +kernel]
 refine xcos1_s fun k1 d1 u1 h1 => ⟨d1, h1.seg, rfl, ?_⟩
 refine SNeg_s h1 (by decide) fun k3 d3 u3 h3 => ⟨d3, h3.seg, rfl, fun k4 u4 => ?_⟩
 exact C k4 d3 (((u0.trans u1).trans u3).trans u4) (h3.up u4)
theorem xcos14_s (C : ∀ k' ds, Up k k' → SurdV k' ds (cosQ 14) 1 → R k' (.agg ds)) :
   ∀ k0, Up k k0 → CallsG Try.prog 80 #[.int .i64 14] k0 R := by
 intro k0 u0
 refine xcos_vc ⟨fun _ => ⟨fun _ => ?_, fun h => absurd h (by decide +kernel)⟩, fun h => absurd h (by decide +kernel)⟩
 rw [show IntKind.wrap .i64 (12 - (IntKind.wrap .i64 (24 - 14))) = (2 : Int) from by decide +kernel]
 refine xcos2_s fun k1 d1 u1 h1 => ⟨d1, h1.seg, rfl, ?_⟩
 refine SNeg_s h1 (by decide) fun k3 d3 u3 h3 => ⟨d3, h3.seg, rfl, fun k4 u4 => ?_⟩
 exact C k4 d3 (((u0.trans u1).trans u3).trans u4) (h3.up u4)
theorem xcos15_s (C : ∀ k' ds, Up k k' → SurdV k' ds (cosQ 15) 1 → R k' (.agg ds)) :
   ∀ k0, Up k k0 → CallsG Try.prog 80 #[.int .i64 15] k0 R := by
 intro k0 u0
 refine xcos_vc ⟨fun _ => ⟨fun _ => ?_, fun h => absurd h (by decide +kernel)⟩, fun h => absurd h (by decide +kernel)⟩
 rw [show IntKind.wrap .i64 (12 - (IntKind.wrap .i64 (24 - 15))) = (3 : Int) from by decide +kernel]
 refine xcos3_s fun k1 d1 u1 h1 => ⟨d1, h1.seg, rfl, ?_⟩
 refine SNeg_s h1 (by decide) fun k3 d3 u3 h3 => ⟨d3, h3.seg, rfl, fun k4 u4 => ?_⟩
 exact C k4 d3 (((u0.trans u1).trans u3).trans u4) (h3.up u4)
theorem xcos16_s (C : ∀ k' ds, Up k k' → SurdV k' ds (cosQ 16) 1 → R k' (.agg ds)) :
   ∀ k0, Up k k0 → CallsG Try.prog 80 #[.int .i64 16] k0 R := by
 intro k0 u0
 refine xcos_vc ⟨fun _ => ⟨fun _ => ?_, fun h => absurd h (by decide +kernel)⟩, fun h => absurd h (by decide +kernel)⟩
 rw [show IntKind.wrap .i64 (12 - (IntKind.wrap .i64 (24 - 16))) = (4 : Int) from by decide +kernel]
 refine xcos4_s fun k1 d1 u1 h1 => ⟨d1, h1.seg, rfl, ?_⟩
 refine SNeg_s h1 (by decide) fun k3 d3 u3 h3 => ⟨d3, h3.seg, rfl, fun k4 u4 => ?_⟩
 exact C k4 d3 (((u0.trans u1).trans u3).trans u4) (h3.up u4)
theorem xcos17_s (C : ∀ k' ds, Up k k' → SurdV k' ds (cosQ 17) 1 → R k' (.agg ds)) :
   ∀ k0, Up k k0 → CallsG Try.prog 80 #[.int .i64 17] k0 R := by
 intro k0 u0
 refine xcos_vc ⟨fun _ => ⟨fun _ => ?_, fun h => absurd h (by decide +kernel)⟩, fun h => absurd h (by decide +kernel)⟩
 rw [show IntKind.wrap .i64 (12 - (IntKind.wrap .i64 (24 - 17))) = (5 : Int) from by decide +kernel]
 refine xcos5_s fun k1 d1 u1 h1 => ⟨d1, h1.seg, rfl, ?_⟩
 refine SNeg_s h1 (by decide) fun k3 d3 u3 h3 => ⟨d3, h3.seg, rfl, fun k4 u4 => ?_⟩
 exact C k4 d3 (((u0.trans u1).trans u3).trans u4) (h3.up u4)
theorem xcos18_s (C : ∀ k' ds, Up k k' → SurdV k' ds (cosQ 18) 1 → R k' (.agg ds)) :
   ∀ k0, Up k k0 → CallsG Try.prog 80 #[.int .i64 18] k0 R := by
 intro k0 u0
 refine xcos_vc ⟨fun _ => ⟨fun h => absurd h (by decide +kernel), fun _ => ⟨fun h => absurd h (by decide +kernel), fun _ => ⟨fun h => absurd h (by decide +kernel), fun _ => ⟨fun h => absurd h (by decide +kernel), fun _ => ⟨fun h => absurd h (by decide +kernel), fun _ => ⟨fun h => absurd h (by decide +kernel), fun _ => ⟨fun h => absurd h (by decide +kernel), fun _ => ?_⟩⟩⟩⟩⟩⟩⟩, fun h => absurd h (by decide +kernel)⟩
 intro k1 u1
 exact C k1 _ (u0.trans u1) (SurdV.nil (Nat.zero_le _))
theorem xcos19_s (C : ∀ k' ds, Up k k' → SurdV k' ds (cosQ 19) 1 → R k' (.agg ds)) :
   ∀ k0, Up k k0 → CallsG Try.prog 80 #[.int .i64 19] k0 R := by
 intro k0 u0
 refine xcos_vc ⟨fun _ => ⟨fun h => absurd h (by decide +kernel), fun _ => ⟨fun h => absurd h (by decide +kernel), fun _ => ⟨fun h => absurd h (by decide +kernel), fun _ => ⟨fun h => absurd h (by decide +kernel), fun _ => ⟨fun h => absurd h (by decide +kernel), fun _ => ⟨fun h => absurd h (by decide +kernel), fun _ => ⟨fun _ => ?_, fun h => absurd h (by decide +kernel)⟩⟩⟩⟩⟩⟩⟩, fun h => absurd h (by decide +kernel)⟩
 refine part34_s fun k1 d1 u1 h1 => ⟨d1, h1.seg, rfl, ?_⟩
 refine part14_s fun k2 d2 u2 h2 => ⟨d2, h2.seg, rfl, ?_⟩
 refine SSub_s (h1.up u2) h2 (by decide) (by decide) fun k3 d3 u3 h3 => ⟨d3, h3.seg, rfl, fun k4 u4 => ?_⟩
 refine C k4 d3 ((((u0.trans u1).trans u2).trans u3).trans u4) (SurdV.cut (K := 2 * 1 + 1) (cast4 (h3.up u4) (by decide +kernel)) (by decide +kernel))
theorem xcos20_s (C : ∀ k' ds, Up k k' → SurdV k' ds (cosQ 20) 1 → R k' (.agg ds)) :
   ∀ k0, Up k k0 → CallsG Try.prog 80 #[.int .i64 20] k0 R := by
 intro k0 u0
 refine xcos_vc ⟨fun _ => ⟨fun h => absurd h (by decide +kernel), fun _ => ⟨fun h => absurd h (by decide +kernel), fun _ => ⟨fun h => absurd h (by decide +kernel), fun _ => ⟨fun h => absurd h (by decide +kernel), fun _ => ⟨fun h => absurd h (by decide +kernel), fun _ => ⟨fun _ => ?_, fun h => absurd h (by decide +kernel)⟩⟩⟩⟩⟩⟩, fun h => absurd h (by decide +kernel)⟩
 exact part02_s fun k1 d1 u1 h1 => ⟨d1, h1.seg, rfl, fun k2 u2 => C k2 d1 ((u0.trans u1).trans u2) (h1.up u2)⟩
theorem xcos21_s (C : ∀ k' ds, Up k k' → SurdV k' ds (cosQ 21) 1 → R k' (.agg ds)) :
   ∀ k0, Up k k0 → CallsG Try.prog 80 #[.int .i64 21] k0 R := by
 intro k0 u0
 refine xcos_vc ⟨fun _ => ⟨fun h => absurd h (by decide +kernel), fun _ => ⟨fun h => absurd h (by decide +kernel), fun _ => ⟨fun h => absurd h (by decide +kernel), fun _ => ⟨fun h => absurd h (by decide +kernel), fun _ => ⟨fun _ => ?_, fun h => absurd h (by decide +kernel)⟩⟩⟩⟩⟩, fun h => absurd h (by decide +kernel)⟩
 exact part12_s fun k1 d1 u1 h1 => ⟨d1, h1.seg, rfl, fun k2 u2 => C k2 d1 ((u0.trans u1).trans u2) (h1.up u2)⟩
theorem xcos22_s (C : ∀ k' ds, Up k k' → SurdV k' ds (cosQ 22) 1 → R k' (.agg ds)) :
   ∀ k0, Up k k0 → CallsG Try.prog 80 #[.int .i64 22] k0 R := by
 intro k0 u0
 refine xcos_vc ⟨fun _ => ⟨fun h => absurd h (by decide +kernel), fun _ => ⟨fun h => absurd h (by decide +kernel), fun _ => ⟨fun h => absurd h (by decide +kernel), fun _ => ⟨fun _ => ?_, fun h => absurd h (by decide +kernel)⟩⟩⟩⟩, fun h => absurd h (by decide +kernel)⟩
 exact part22_s fun k1 d1 u1 h1 => ⟨d1, h1.seg, rfl, fun k2 u2 => C k2 d1 ((u0.trans u1).trans u2) (h1.up u2)⟩
theorem xcos23_s (C : ∀ k' ds, Up k k' → SurdV k' ds (cosQ 23) 1 → R k' (.agg ds)) :
   ∀ k0, Up k k0 → CallsG Try.prog 80 #[.int .i64 23] k0 R := by
 intro k0 u0
 refine xcos_vc ⟨fun _ => ⟨fun h => absurd h (by decide +kernel), fun _ => ⟨fun h => absurd h (by decide +kernel), fun _ => ⟨fun _ => ?_, fun h => absurd h (by decide +kernel)⟩⟩⟩, fun h => absurd h (by decide +kernel)⟩
 refine part14_s fun k1 d1 u1 h1 => ⟨d1, h1.seg, rfl, ?_⟩
 refine part34_s fun k2 d2 u2 h2 => ⟨d2, h2.seg, rfl, ?_⟩
 refine SAdd_s (h1.up u2) h2 (by decide) (by decide) fun k3 d3 u3 h3 => ⟨d3, h3.seg, rfl, fun k4 u4 => ?_⟩
 refine C k4 d3 ((((u0.trans u1).trans u2).trans u3).trans u4) (SurdV.cut (K := 2 * 1 + 1) (cast4 (h3.up u4) (by decide +kernel)) (by decide +kernel))
theorem xcos_s {n : Nat} (hn : n < 24) (C : ∀ k' ds, Up k k' → SurdV k' ds (cosQ n) 1 → R k' (.agg ds)) :
   ∀ k0, Up k k0 → CallsG Try.prog 80 #[.int .i64 (n : Int)] k0 R := by
 match n, hn with
 | 0, _ => exact xcos0_s C
 | 1, _ => exact xcos1_s C
 | 2, _ => exact xcos2_s C
 | 3, _ => exact xcos3_s C
 | 4, _ => exact xcos4_s C
 | 5, _ => exact xcos5_s C
 | 6, _ => exact xcos6_s C
 | 7, _ => exact xcos7_s C
 | 8, _ => exact xcos8_s C
 | 9, _ => exact xcos9_s C
 | 10, _ => exact xcos10_s C
 | 11, _ => exact xcos11_s C
 | 12, _ => exact xcos12_s C
 | 13, _ => exact xcos13_s C
 | 14, _ => exact xcos14_s C
 | 15, _ => exact xcos15_s C
 | 16, _ => exact xcos16_s C
 | 17, _ => exact xcos17_s C
 | 18, _ => exact xcos18_s C
 | 19, _ => exact xcos19_s C
 | 20, _ => exact xcos20_s C
 | 21, _ => exact xcos21_s C
 | 22, _ => exact xcos22_s C
 | 23, _ => exact xcos23_s C
 | n + 24, h => exact absurd h (by omega)
theorem plc_eq {n : Int} : Int.tmod (IntKind.wrap .i64 ((Int.tmod n 24) + 24)) 24 = (plc n : Int) := by
 have h : Int.tmod n 24 = n % 24 ∨ Int.tmod n 24 = n % 24 - 24 := by
   rw [Int.tmod_eq_emod]
   split
   · left; omega
   · right; rfl
 have hw : IntKind.wrap .i64 ((Int.tmod n 24) + 24) = Int.tmod n 24 + 24 := by rw [IntKind.wrap_i64]; omega
 rw [hw, Int.tmod_eq_emod_of_nonneg (by omega)]
 unfold plc
 omega
theorem place_s {n : Int} (C : ∀ k', Up k k' → R k' (.int .i64 (plc n : Int))) :
   ∀ k0, Up k k0 → CallsG Try.prog 79 #[.int .i64 n] k0 R := by
 intro k0 u0
 refine place_vc fun k1 u1 => ?_
 rw [plc_eq]
 exact C k1 (u0.trans u1)
theorem plc_back {m : Nat} (h : m < 24) : plc (IntKind.wrap .i64 ((m : Int) - 6)) = (m + 18) % 24 := by
 have hw : IntKind.wrap .i64 ((m : Int) - 6) = (m : Int) - 6 := by rw [IntKind.wrap_i64]; omega
 rw [hw]
 unfold plc
 omega
theorem xturn_s {n : Int} (C : ∀ k' ds, Up k k' → WaveV k' ds (turnW (plc n)) 1 → R k' (.agg ds)) :
   ∀ k0, Up k k0 → CallsG Try.prog 44 #[.int .i64 n] k0 R := by
 intro k0 u0
 have hl := plc_lt n
 refine xTurn_vc (place_s fun k1 u1 => ⟨_, rfl, ?_⟩)
 refine xcos_s hl fun k2 d2 u2 h2 => ⟨d2, h2.seg, rfl, ?_⟩
 have e := plc_back hl
 refine place_s fun k3 u3 => ⟨_, rfl, ?_⟩
 rw [e]
 refine xcos_s (Nat.mod_lt _ (by decide)) fun k4 d4 u4 h4 => ⟨d4, h4.seg, rfl, fun k5 u5 => ?_⟩
 exact C k5 _ (((((u0.trans u1).trans u2).trans u3).trans u4).trans u5) ⟨d2, d4, rfl, ((h2.up u3).up u4).up u5, h4.up u5⟩
end
end Go.Proofs.Ytpjakokgmgggiaa

/- What is to be shown of the calls of some functions. (Printed by gen/vc.py.) -/
namespace Go.Proofs.Ytpjakokgmgggiaa
open Go.RowKit
open Sy (Up Sees CallsG Seg execFn_use)
set_option maxRecDepth 100000
variable {k : World} {R : World → Value → Prop}
theorem OfWave_vc {n0 n1 n2 n3 n4 n5 n6 n7 n8 n9 n10 n11 n12 n13 n14 n15 : Int}
    (h : ∀ k0, Up k k0 → CallsG Try.prog 21 #[Value.agg #[Value.int .i64 n0, Value.int .i64 n1, Value.int .i64 n2, Value.int .i64 n3, Value.int .i64 n4, Value.int .i64 n5, Value.int .i64 n6, Value.int .i64 n7]] k0 fun k1 r0 => ∃ cs16, Seg 9 cs16 ∧ some (Value.agg cs16) = some r0 ∧
 ∀ k2, Up k1 k2 → CallsG Try.prog 21 #[Value.agg #[Value.int .i64 n8, Value.int .i64 n9, Value.int .i64 n10, Value.int .i64 n11, Value.int .i64 n12, Value.int .i64 n13, Value.int .i64 n14, Value.int .i64 n15]] k2 fun k3 r2 => ∃ cs17, Seg 9 cs17 ∧ some (Value.agg cs17) = some r2 ∧
 ∀ k4, Up k3 k4 → CallsG Try.prog 72 #[Value.agg cs16, Value.agg cs17] k4 fun k5 r4 => ∃ cs18, Seg 9 cs18 ∧ ∃ cs19, Seg 9 cs19 ∧ some (Value.agg (cs18.toList ++ (cs19.toList ++ ([]))).toArray) = some r4 ∧
 ∀ k6, Up k5 k6 → R k6 (Value.agg (cs18.toList ++ (cs19.toList ++ ([]))).toArray)) :
    CallsG Try.prog 33 #[Value.agg #[Value.int .i64 n0, Value.int .i64 n1, Value.int .i64 n2, Value.int .i64 n3, Value.int .i64 n4, Value.int .i64 n5, Value.int .i64 n6, Value.int .i64 n7, Value.int .i64 n8, Value.int .i64 n9, Value.int .i64 n10, Value.int .i64 n11, Value.int .i64 n12, Value.int .i64 n13, Value.int .i64 n14, Value.int .i64 n15]] k R :=
  execFn_use (cfg := { opq := [53] }) (args := [.agg [.var 0, .var 1, .var 2, .var 3, .var 4, .var 5, .var 6, .var 7, .var 8, .var 9, .var 10, .var 11, .var 12, .var 13, .var 14, .var 15]]) (vals := [Value.int .i64 n0, Value.int .i64 n1, Value.int .i64 n2, Value.int .i64 n3, Value.int .i64 n4, Value.int .i64 n5, Value.int .i64 n6, Value.int .i64 n7, Value.int .i64 n8, Value.int .i64 n9, Value.int .i64 n10, Value.int .i64 n11, Value.int .i64 n12, Value.int .i64 n13, Value.int .i64 n14, Value.int .i64 n15]) (kinds := [.int .i64, .int .i64, .int .i64, .int .i64, .int .i64, .int .i64, .int .i64, .int .i64, .int .i64, .int .i64, .int .i64, .int .i64, .int .i64, .int .i64, .int .i64, .int .i64]) (by kernel_rfl) ⟨⟨_, rfl⟩, ⟨⟨_, rfl⟩, ⟨⟨_, rfl⟩, ⟨⟨_, rfl⟩, ⟨⟨_, rfl⟩, ⟨⟨_, rfl⟩, ⟨⟨_, rfl⟩, ⟨⟨_, rfl⟩, ⟨⟨_, rfl⟩, ⟨⟨_, rfl⟩, ⟨⟨_, rfl⟩, ⟨⟨_, rfl⟩, ⟨⟨_, rfl⟩, ⟨⟨_, rfl⟩, ⟨⟨_, rfl⟩, ⟨⟨_, rfl⟩, trivial⟩⟩⟩⟩⟩⟩⟩⟩⟩⟩⟩⟩⟩⟩⟩⟩ (by kernel_rfl) (by kernel_rfl) h
theorem smallWave_vc {n0 n1 n2 n3 n4 n5 n6 n7 n8 n9 n10 n11 n12 n13 n14 n15 : Int}
    (h : ∀ k0, Up k k0 → CallsG Try.prog 34 #[Value.agg #[Value.int .i64 n0, Value.int .i64 n1, Value.int .i64 n2, Value.int .i64 n3, Value.int .i64 n4, Value.int .i64 n5, Value.int .i64 n6, Value.int .i64 n7]] k0 fun k1 r0 => ∃ b16, some (Value.bool b16) = some r0 ∧
 (b16 = true →
 (∀ k2, Up k1 k2 → CallsG Try.prog 34 #[Value.agg #[Value.int .i64 n8, Value.int .i64 n9, Value.int .i64 n10, Value.int .i64 n11, Value.int .i64 n12, Value.int .i64 n13, Value.int .i64 n14, Value.int .i64 n15]] k2 fun k3 r2 => ∃ b17, some (Value.bool b17) = some r2 ∧
 ∀ k4, Up k3 k4 → R k4 (Value.bool b17))) ∧
 (b16 = false →
 (∀ k5, Up k1 k5 → R k5 (Value.bool false)))) :
    CallsG Try.prog 29 #[Value.agg #[Value.int .i64 n0, Value.int .i64 n1, Value.int .i64 n2, Value.int .i64 n3, Value.int .i64 n4, Value.int .i64 n5, Value.int .i64 n6, Value.int .i64 n7, Value.int .i64 n8, Value.int .i64 n9, Value.int .i64 n10, Value.int .i64 n11, Value.int .i64 n12, Value.int .i64 n13, Value.int .i64 n14, Value.int .i64 n15]] k R :=
  execFn_use (cfg := { opq := [] }) (args := [.agg [.var 0, .var 1, .var 2, .var 3, .var 4, .var 5, .var 6, .var 7, .var 8, .var 9, .var 10, .var 11, .var 12, .var 13, .var 14, .var 15]]) (vals := [Value.int .i64 n0, Value.int .i64 n1, Value.int .i64 n2, Value.int .i64 n3, Value.int .i64 n4, Value.int .i64 n5, Value.int .i64 n6, Value.int .i64 n7, Value.int .i64 n8, Value.int .i64 n9, Value.int .i64 n10, Value.int .i64 n11, Value.int .i64 n12, Value.int .i64 n13, Value.int .i64 n14, Value.int .i64 n15]) (kinds := [.int .i64, .int .i64, .int .i64, .int .i64, .int .i64, .int .i64, .int .i64, .int .i64, .int .i64, .int .i64, .int .i64, .int .i64, .int .i64, .int .i64, .int .i64, .int .i64]) (by kernel_rfl) ⟨⟨_, rfl⟩, ⟨⟨_, rfl⟩, ⟨⟨_, rfl⟩, ⟨⟨_, rfl⟩, ⟨⟨_, rfl⟩, ⟨⟨_, rfl⟩, ⟨⟨_, rfl⟩, ⟨⟨_, rfl⟩, ⟨⟨_, rfl⟩, ⟨⟨_, rfl⟩, ⟨⟨_, rfl⟩, ⟨⟨_, rfl⟩, ⟨⟨_, rfl⟩, ⟨⟨_, rfl⟩, ⟨⟨_, rfl⟩, ⟨⟨_, rfl⟩, trivial⟩⟩⟩⟩⟩⟩⟩⟩⟩⟩⟩⟩⟩⟩⟩⟩ (by kernel_rfl) (by kernel_rfl) h
end Go.Proofs.Ytpjakokgmgggiaa

/- What ExactSizes computes. (Printed by gen/sizez.py.) -/
namespace Go.Proofs.Ytpjakokgmgggiaa
open Go.RowKit Num Plain
open Sy (Up Sees CallsG Seg)
section
variable {k k' : World} {R : World → Value → Prop} {K L : Nat} {cs cs' : Array Value} {x y : W4} {v v' : Q4}
theorem plc_down {j : Nat} (hj : j < 24) : plc (IntKind.wrap .i64 (0 - (j : Int))) = (24 - j) % 24 := by
 have hw : IntKind.wrap .i64 (0 - (j : Int)) = 0 - (j : Int) := by rw [IntKind.wrap_i64]; omega
 rw [hw]
 unfold plc
 omega
theorem wrap_up {j : Nat} (hj : j < 100) : IntKind.wrap .i64 ((j : Int) + 1) = ((j + 1 : Nat) : Int) := by rw [IntKind.wrap_i64]; omega
theorem high_s (hx : WaveV k cs x K) (hK1 : 1 ≤ K) (hK : K ≤ 1000000) (C : ∀ k' ds, Up k k' → SurdV k' ds (hi x 23).2 (4 * K + 9) → R k' (.tuple #[.int .i64 ((hi x 23).1 : Int), .agg ds])) :
   ∀ k0, Up k k0 → CallsG Try.prog 43 #[.agg cs] k0 R := by
 intro k0 u0
 replace hx := hx.up u0
 replace C := fun k' ds u => C k' ds (u0.trans u)
 have hx' := hx
 obtain ⟨a, b, rfl, a0, b0⟩ := hx'
 refine wHigh_vc a0.seg b0.seg ⟨fun m k' vs => ∃ j c, j ≤ 23 ∧ m = 23 - j ∧ vs = [.int .i64 ((hi x j).1 : Int), .int .i64 ((j + 1 : Nat) : Int), .agg c] ∧ SurdV k' c (hi x j).2 (4 * K + 9), ⟨23, fun k' u => ⟨0, a, by omega, rfl, rfl, (a0.up u).mono (by omega)⟩⟩, ?_⟩
 rintro m k1 vs u1 ⟨j, c, hj, rfl, rfl, hb⟩
 refine ⟨_, _, c, hb.seg, rfl, fun hlt => ?_, fun hge k9 u9 => ?_⟩
 · have hlt := of_decide_eq_true hlt
   refine xturn_s fun k2 d2 u2 hT => ?_
   rw [plc_down (j := j + 1) (by omega)] at hT
   have hT' := hT
   obtain ⟨p, q, rfl, p0, q0⟩ := hT'
   refine ⟨p, p0.seg, q, q0.seg, rfl, ?_⟩
   refine WMul_s ((hx.up u1).up u2) (hT.mono hK1) hK1 (by omega) fun k4 d4 u4 hM => ?_
   obtain ⟨r, s, rfl, r0, s0⟩ := hM
   refine ⟨r, r0.seg, s, s0.seg, rfl, ?_⟩
   refine SCmp_s r0 ((hb.up u2).up u4) (by omega) (by omega) fun k6 u6 => ⟨_, rfl, fun hc => ?_, fun hc => ?_⟩
   · have hc : 0 < sgd (fAt x (j + 1)) (hi x j).2 := of_decide_eq_true hc
     have e : hi x (j + 1) = (j + 1, fAt x (j + 1)) := by show (if _ then _ else _) = _; rw [if_pos hc]
     intro k7 u7
     refine ⟨23 - (j + 1), by omega, j + 1, r, by omega, rfl, ?_, ?_⟩
     · rw [e, wrap_up (by omega)]
     · rw [e]; exact (r0.up u6).up u7
   · have hc : ¬ 0 < sgd (fAt x (j + 1)) (hi x j).2 := of_decide_eq_false hc
     have e : hi x (j + 1) = hi x j := by show (if _ then _ else _) = _; rw [if_neg hc]
     intro k7 u7
     refine ⟨23 - (j + 1), by omega, j + 1, c, by omega, rfl, ?_, ?_⟩
     · rw [e, wrap_up (by omega)]
     · rw [e]; exact (((hb.up u2).up u4).up u6).up u7
 · have hge := of_decide_eq_false hge
   have e : j = 23 := by omega
   subst e
   exact C k9 c (u1.trans u9) (hb.up u9)
theorem HSame_t (hx : SurdV k cs v K) (hy : SurdV k cs' v' K) (e : v = v') (hK1 : 1 ≤ K) (hK : K ≤ 134217727) (C : ∀ k', Up k k' → R k' (.bool true)) :
   ∀ k0, Up k k0 → CallsG Try.prog 24 #[.agg cs, .agg cs'] k0 R := SSame_d hx hy hK1 hK fun k' u => by rw [decide_eq_true e]; exact C k' u
theorem smallWave_s {n0 n1 n2 n3 n4 n5 n6 n7 n8 n9 n10 n11 n12 n13 n14 n15 : Int} (C : ∀ k' b, Up k k' → R k' (.bool b)) :
   ∀ k0, Up k k0 → CallsG Try.prog 29 #[.agg #[.int .i64 n0, .int .i64 n1, .int .i64 n2, .int .i64 n3, .int .i64 n4, .int .i64 n5, .int .i64 n6, .int .i64 n7, .int .i64 n8, .int .i64 n9, .int .i64 n10, .int .i64 n11, .int .i64 n12, .int .i64 n13, .int .i64 n14, .int .i64 n15]] k0 R := by
 intro k0 u0
 refine smallWave_vc (small_s fun k1 b1 u1 => ⟨_, rfl, fun _ => ?_, fun _ k2 u2 => C k2 _ ((u0.trans u1).trans u2)⟩)
 exact small_s fun k3 b3 u3 => ⟨_, rfl, fun k4 u4 => C k4 _ (((u0.trans u1).trans u3).trans u4)⟩
theorem OfWave_s {n0 n1 n2 n3 n4 n5 n6 n7 n8 n9 n10 n11 n12 n13 n14 n15 : Int} (h0 : In64 n0) (h1 : In64 n1) (h2 : In64 n2) (h3 : In64 n3) (h4 : In64 n4) (h5 : In64 n5) (h6 : In64 n6) (h7 : In64 n7) (h8 : In64 n8) (h9 : In64 n9) (h10 : In64 n10) (h11 : In64 n11) (h12 : In64 n12) (h13 : In64 n13) (h14 : In64 n14) (h15 : In64 n15) (C : ∀ k' ds, Up k k' → WaveV k' ds ⟨⟨ofQ n0 n1, ofQ n2 n3, ofQ n4 n5, ofQ n6 n7⟩, ⟨ofQ n8 n9, ofQ n10 n11, ofQ n12 n13, ofQ n14 n15⟩⟩ 6 → R k' (.agg ds)) :
   ∀ k0, Up k k0 → CallsG Try.prog 33 #[.agg #[.int .i64 n0, .int .i64 n1, .int .i64 n2, .int .i64 n3, .int .i64 n4, .int .i64 n5, .int .i64 n6, .int .i64 n7, .int .i64 n8, .int .i64 n9, .int .i64 n10, .int .i64 n11, .int .i64 n12, .int .i64 n13, .int .i64 n14, .int .i64 n15]] k0 R := by
 intro k0 u0
 refine OfWave_vc (OfQuad_s h0 h1 h2 h3 h4 h5 h6 h7 fun k1 d1 u1 q1 => ⟨d1, q1.seg, rfl, ?_⟩)
 refine OfQuad_s h8 h9 h10 h11 h12 h13 h14 h15 fun k3 d3 u3 q3 => ⟨d3, q3.seg, rfl, ?_⟩
 refine pair_s (q1.up u3) q3 fun k5 d5 u5 q5 => ?_
 have q5' := q5
 obtain ⟨a, b, rfl, a0, b0⟩ := q5'
 exact ⟨a, a0.seg, b, b0.seg, rfl, fun k6 u6 => C k6 _ ((((u0.trans u1).trans u3).trans u5).trans u6) (q5.up u6)⟩
theorem ofQ_24 : ofQ 24 25 = (24 / 25 : Rat) := by decide +kernel
set_option maxRecDepth 4000 in
theorem sizes_s {n0 n1 n2 n3 n4 n5 n6 n7 n8 n9 n10 n11 n12 n13 n14 n15 n16 n17 n18 n19 n20 n21 n22 n23 n24 n25 n26 n27 n28 n29 n30 n31 : Int} (h0 : In64 n0) (h1 : In64 n1) (h2 : In64 n2) (h3 : In64 n3) (h4 : In64 n4) (h5 : In64 n5) (h6 : In64 n6) (h7 : In64 n7) (h8 : In64 n8) (h9 : In64 n9) (h10 : In64 n10) (h11 : In64 n11) (h12 : In64 n12) (h13 : In64 n13) (h14 : In64 n14) (h15 : In64 n15) (h16 : In64 n16) (h17 : In64 n17) (h18 : In64 n18) (h19 : In64 n19) (h20 : In64 n20) (h21 : In64 n21) (h22 : In64 n22) (h23 : In64 n23) (h24 : In64 n24) (h25 : In64 n25) (h26 : In64 n26) (h27 : In64 n27) (h28 : In64 n28) (h29 : In64 n29) (h30 : In64 n30) (h31 : In64 n31) (C : ∀ k', Up k k' → R k' (.bool true)) :
   ∀ k0, Up k k0 → CallsG Try.prog 8 #[.agg #[.int .i64 n0, .int .i64 n1, .int .i64 n2, .int .i64 n3, .int .i64 n4, .int .i64 n5, .int .i64 n6, .int .i64 n7, .int .i64 n8, .int .i64 n9, .int .i64 n10, .int .i64 n11, .int .i64 n12, .int .i64 n13, .int .i64 n14, .int .i64 n15], .agg #[.int .i64 n16, .int .i64 n17, .int .i64 n18, .int .i64 n19, .int .i64 n20, .int .i64 n21, .int .i64 n22, .int .i64 n23, .int .i64 n24, .int .i64 n25, .int .i64 n26, .int .i64 n27, .int .i64 n28, .int .i64 n29, .int .i64 n30, .int .i64 n31]] k0 R := by
 intro k0 u0
 replace C := fun k' u => C k' (u0.trans u)
 refine sizes_vc ?_
 have aw : ∀ {k1 : World}, Up k0 k1 → ∀ k2, Up k1 k2 → CallsG Try.prog 9 #[] k2 fun k3 r2 => ∃ b : Bool, some (Value.bool b) = some r2 ∧ ∀ k4, Up k3 k4 → R k4 (Value.bool b) :=
   fun u1 => awake_s fun k3 u3 => ⟨_, rfl, fun k4 u4 => C k4 ((u1.trans u3).trans u4)⟩
 refine awake_s fun k1 u1 => ⟨_, rfl, fun h => (nomatch h), fun _ => ?_⟩
 refine smallWave_s fun k2 b2 u2 => ⟨_, rfl, fun _ => aw (u1.trans u2), fun _ => ?_⟩
 refine smallWave_s fun k3 b3 u3 => ⟨_, rfl, fun _ => aw ((u1.trans u2).trans u3), fun _ => ?_⟩
 clear aw
 replace C := fun k' u => C k' (((u1.trans u2).trans u3).trans u)
 clear u1 u2 u3
 refine OfWave_s h0 h1 h2 h3 h4 h5 h6 h7 h8 h9 h10 h11 h12 h13 h14 h15 fun k4 d4 u4 hX => ⟨d4, hX.seg, rfl, ?_⟩
 refine OfWave_s h16 h17 h18 h19 h20 h21 h22 h23 h24 h25 h26 h27 h28 h29 h30 h31 fun k5 d5 u5 hY => ⟨d5, hY.seg, rfl, ?_⟩
 replace hX := hX.up u5
 replace C := fun k' u => C k' ((u4.trans u5).trans u)
 clear u4 u5
 generalize (⟨⟨ofQ n0 n1, ofQ n2 n3, ofQ n4 n5, ofQ n6 n7⟩, ⟨ofQ n8 n9, ofQ n10 n11, ofQ n12 n13, ofQ n14 n15⟩⟩ : W4) = x at *
 generalize (⟨⟨ofQ n16 n17, ofQ n18 n19, ofQ n20 n21, ofQ n22 n23⟩, ⟨ofQ n24 n25, ofQ n26 n27, ofQ n28 n29, ofQ n30 n31⟩⟩ : W4) = y at *
 clear h0 h1 h2 h3 h4 h5 h6 h7 h8 h9 h10 h11 h12 h13 h14 h15 h16 h17 h18 h19 h20 h21 h22 h23 h24 h25 h26 h27 h28 h29 h30 h31
 refine WMul_s hX hY (by decide) (by decide) fun k6 d6 u6 hM => ⟨d6, hM.seg, rfl, ?_⟩
 refine WNorm_s hM (by decide) (by decide) fun k7 d7 u7 hA => ⟨d7, hA.seg, rfl, ?_⟩
 refine WNorm_s ((hX.up u6).up u7) (by decide) (by decide) fun k8 d8 u8 hB => ⟨d8, hB.seg, rfl, ?_⟩
 refine WNorm_s (((hY.up u6).up u7).up u8) (by decide) (by decide) fun k9 d9 u9 hD => ⟨d9, hD.seg, rfl, ?_⟩
 refine SMul_s (hB.up u9) hD (by decide) (by decide) fun k10 d10 u10 hE => ⟨d10, hE.seg, rfl, ?_⟩
 refine HSame_t (K := 4 * 33 + 9) (((hA.up u8).up u9).up u10) (hE.mono (by decide)) (W4.norm_mul x y) (by decide) (by decide) fun k11 u11 => ⟨_, rfl, fun h => (nomatch h), fun _ => ?_⟩
 have v11 := ((((u6.trans u7).trans u8).trans u9).trans u10).trans u11
 replace hX := hX.up v11
 replace C := fun k' u => C k' (v11.trans u)
 clear hM hA hB hD hE hY u6 u7 u8 u9 u10 u11 v11
 refine high_s hX (by decide) (by decide) fun k12 d12 u12 hS => ⟨_, d12, hS.seg, rfl, ?_⟩
 replace hX := hX.up u12
 replace C := fun k' u => C k' (u12.trans u)
 clear u12
 obtain ⟨g1, g2, g3, g4⟩ := hi_spec x 23
 refine ⟨fun m k' vs => ∃ j : Nat, j ≤ 24 ∧ m = 24 - j ∧ vs = [.int .i64 (cnt x (hi x 23).2 j : Int), .int .i64 (j : Int)], ⟨24, fun k' u => ⟨0, by omega, rfl, rfl⟩⟩, ?_⟩
 rintro m k13 vs u13 ⟨j, hj, rfl, rfl⟩
 replace hX := hX.up u13
 replace hS := hS.up u13
 replace C := fun k' u => C k' (u13.trans u)
 clear u13
 refine ⟨_, _, rfl, fun hlt => ?_, fun hge => ?_⟩
 · have hlt : (j : Int) < 24 := of_decide_eq_true hlt
   refine xturn_s fun k14 d14 u14 hT => ⟨d14, hT.seg, rfl, ?_⟩
   rw [plc_down (by omega)] at hT
   refine WMul_s (hX.up u14) (hT.mono (by decide)) (by decide) (by decide) fun k15 d15 u15 hM => ⟨d15, hM.seg, rfl, ?_⟩
   refine WRe_s hM fun k16 d16 u16 hr => ⟨d16, hr.seg, rfl, ?_⟩
   refine SCmp_s hr (((hS.up u14).up u15).up u16) (by decide) (by decide) fun k17 u17 => ⟨_, rfl, ?_⟩
   have hsg : Plain.C.sg ((x.mul (turnW ((24 - j) % 24))).re.sub (hi x 23).2).toQ = sgd (fAt x j) (hi x 23).2 := rfl
   rw [hsg]
   clear hsg
   have hle := g3 j (by omega)
   have hcs := cnt_succ x (hi x 23).2 j
   have hcl := cnt_le x (hi x 23).2 j
   have hfirst := first_at (x := x) (k := j) (by omega)
   have up1 : ∀ k44, Up k17 k44 → sgd (fAt x j) (hi x 23).2 = 0 → ∃ m, m < 24 - j ∧ ∃ i : Nat, i ≤ 24 ∧ m = 24 - i ∧ [Value.int .i64 (IntKind.wrap .i64 ((cnt x (hi x 23).2 j : Int) + 1)), Value.int .i64 (IntKind.wrap .i64 ((j : Int) + 1))] = [.int .i64 (cnt x (hi x 23).2 i : Int), .int .i64 (i : Int)] := fun k44 _ h0 =>
     ⟨24 - (j + 1), by omega, j + 1, by omega, rfl, by rw [hcs, if_pos h0, wrap_up (by omega), wrap_up (by omega)]⟩
   have up0 : ∀ k44, Up k17 k44 → sgd (fAt x j) (hi x 23).2 ≠ 0 → ∃ m, m < 24 - j ∧ ∃ i : Nat, i ≤ 24 ∧ m = 24 - i ∧ [Value.int .i64 (cnt x (hi x 23).2 j : Int), Value.int .i64 (IntKind.wrap .i64 ((j : Int) + 1))] = [.int .i64 (cnt x (hi x 23).2 i : Int), .int .i64 (i : Int)] := fun k44 _ h0 =>
     ⟨24 - (j + 1), by omega, j + 1, by omega, rfl, by rw [hcs, if_neg h0, wrap_up (by omega)]; rfl⟩
   generalize sgd (fAt x j) (hi x 23).2 = c at *
   refine ⟨fun h => absurd (of_decide_eq_true h) (by omega), fun _ => ⟨fun h0 => ⟨fun ht => ⟨fun hne => ?_, fun _ => ⟨fun _ k u => up1 k u (eq_of_beq h0), fun h => (by rw [h0] at h; cases h)⟩⟩, fun _ => ⟨fun _ k u => up1 k u (eq_of_beq h0), fun h => (by rw [h0] at h; cases h)⟩⟩, fun h0 => ⟨fun h => (by rw [h0] at h; cases h), fun _ k u => up0 k u (fun e => by rw [e] at h0; exact absurd h0 (by decide))⟩⟩⟩
   have e1 : cnt x (hi x 23).2 j = 0 := by have := eq_of_beq ht; omega
   rw [hfirst (eq_of_beq h0) e1] at hne
   simp at hne
 · have hge : ¬ (j : Int) < 24 := of_decide_eq_false hge
   have e : j = 24 := by omega
   subst e
   obtain ⟨n1, n2⟩ := hi_norm x
   refine WNorm_s hX (by decide) (by decide) fun k14 d14 u14 hN => ⟨d14, hN.seg, rfl, ?_⟩
   refine Of_s (n := 24) (d := 25) ⟨by decide, by decide⟩ ⟨by decide, by decide⟩ fun k15 d15 u15 hQ => ⟨d15, hQ.seg, rfl, ?_⟩
   refine SOf_s (hS.up (u14.trans u15)) hQ fun k16 d16 u16 hO => ⟨d16, hO.seg, rfl, ?_⟩
   refine SMul_s (hN.up (u15.trans u16)) (hO.mono (by decide)) (by decide) (by decide) fun k17 d17 u17 hL => ⟨d17, hL.seg, rfl, ?_⟩
   have v17 := ((u14.trans u15).trans u16).trans u17
   replace hX := hX.up v17
   replace hS := hS.up v17
   replace C := fun k' u => C k' (v17.trans u)
   clear u14 u15 u16 u17 v17 hN hQ hO
   rw [ofQ_24] at hL
   refine SMul_s hS hS (by decide) (by decide) fun k18 d18 u18 h2 => ⟨d18, h2.seg, rfl, ?_⟩
   refine WNorm_s (hX.up u18) (by decide) (by decide) fun k19 d19 u19 hN => ⟨d19, hN.seg, rfl, ?_⟩
   refine SCmp_s (K := 2 * (4 * 6 + 9) + 4) (h2.up u19) (hN.mono (by decide)) (by decide) (by decide) fun k20 u20 => ⟨_, rfl, fun h => ?_, fun _ => ?_⟩
   · have h : 0 < sgd ((hi x 23).2.mul (hi x 23).2) x.norm := of_decide_eq_true h
     omega
   have v20 := (u18.trans u19).trans u20
   replace hX := hX.up v20
   replace hS := hS.up v20
   replace hL := hL.up v20
   replace C := fun k' u => C k' (v20.trans u)
   clear u18 u19 u20 v20 hN h2
   refine SMul_s hS hS (by decide) (by decide) fun k21 d21 u21 h2 => ⟨d21, h2.seg, rfl, ?_⟩
   refine SCmp_s h2 (hL.up u21) (by decide) (by decide) fun k22 u22 => ⟨_, rfl, fun h => ?_, fun _ => ?_⟩
   · have h : sgd ((hi x 23).2.mul (hi x 23).2) (x.norm.mul (Q4.real (24 / 25))) < 0 := of_decide_eq_true h
     omega
   have v22 := u21.trans u22
   replace hX := hX.up v22
   replace hS := hS.up v22
   replace C := fun k' u => C k' (v22.trans u)
   clear u21 u22 v22 hL h2
   refine xturn_s fun k23 d23 u23 hT => ⟨d23, hT.seg, rfl, ?_⟩
   rw [show plc 1 = 1 from by decide] at hT
   refine WMul_s (hX.up u23) (hT.mono (by decide)) (by decide) (by decide) fun k24 d24 u24 hM => ⟨d24, hM.seg, rfl, ?_⟩
   refine high_s hM (by decide) (by decide) fun k25 d25 u25 hV => ⟨_, d25, hV.seg, rfl, ?_⟩
   have v25 := (u23.trans u24).trans u25
   replace hS := hS.up v25
   replace C := fun k' u => C k' (v25.trans u)
   refine ⟨fun _ k u => C k u, fun h1 => ?_⟩
   have h1 : cnt x (hi x 23).2 24 = 1 := by
     have : ((cnt x (hi x 23).2 24 : Int) != 1) = false := h1
     have := (bne_eq_false_iff_eq).1 this
     omega
   have ht := hi_turn h1
   rw [ht] at hV
   refine ⟨fun _ => ?_, fun h => ?_⟩
   · refine HSame_t (K := 4 * (4 * 6 + 9) + 9) hV (hS.mono (by decide)) rfl (by decide) (by decide) fun k26 u26 => ⟨_, rfl, fun k27 u27 => C k27 (u26.trans u27)⟩
   · exfalso
     rw [ht, wrap_up (by omega), Int.tmod_eq_emod_of_nonneg (by omega)] at h
     have : ((((hi x 23).1 + 1) % 24 : Nat) : Int) = (((hi x 23).1 + 1 : Nat) : Int) % 24 := by omega
     rw [this] at h
     simp at h
end
end Go.Proofs.Ytpjakokgmgggiaa

