/- What is to be shown of the calls of some functions. (Printed by gen/vc.py.) -/
import Derived.Test.YtimkcbikeocaeaaGreatProg
import Derived.Test.YtimkcbikeocaeaaGreatMtSy14
namespace Go.Proofs.YtimkcbikeocaeaaGreat
open Go.RowKit
open Sy (Up Sees CallsG Seg execFn_use)
set_option maxRecDepth 100000
variable {k : World} {R : World → Value → Prop}
theorem surd_vc {b0 : Bool} {A1 : Option Addr} {l1 c1 : Nat} {b2 : Bool} {A3 : Option Addr} {l3 c3 : Nat} {b4 : Bool} {A5 : Option Addr} {l5 c5 : Nat} {b6 : Bool} {A7 : Option Addr} {l7 c7 : Nat} {A8 : Option Addr} {l8 c8 : Nat}
    (h : ∀ k0, Up k k0 → CallsG Tryz.prog 57 #[Value.slice A8 l8 c8, Value.slice A1 l1 c1] k0 fun k1 r0 => ∃ A9 l9 c9, some (Value.slice A9 l9 c9) = some r0 ∧
 ∀ k2, Up k1 k2 → CallsG Tryz.prog 57 #[Value.slice A9 l9 c9, Value.slice A3 l3 c3] k2 fun k3 r2 => ∃ A10 l10 c10, some (Value.slice A10 l10 c10) = some r2 ∧
 ∀ k4, Up k3 k4 → CallsG Tryz.prog 57 #[Value.slice A10 l10 c10, Value.slice A5 l5 c5] k4 fun k5 r4 => ∃ A11 l11 c11, some (Value.slice A11 l11 c11) = some r4 ∧
 ∀ k6, Up k5 k6 → CallsG Tryz.prog 57 #[Value.slice A11 l11 c11, Value.slice A7 l7 c7] k6 fun k7 r6 => ∃ A12 l12 c12, some (Value.slice A12 l12 c12) = some r6 ∧
 ∀ k8, Up k7 k8 → CallsG Tryz.prog 58 #[Value.slice A12 l12 c12] k8 fun k9 r8 => ∃ b13, some (Value.bool b13) = some r8 ∧
 ((!b13) = true →
 (∀ k10, Up k9 k10 → CallsG Tryz.prog 59 #[Value.slice A1 l1 c1, Value.slice A12 l12 c12] k10 fun k11 r10 => ∃ A14 l14 c14, ∃ A15 l15 c15, some (Value.tuple #[Value.slice A14 l14 c14, Value.slice A15 l15 c15]) = some r10 ∧
 ∀ k12, Up k11 k12 → CallsG Tryz.prog 59 #[Value.slice A3 l3 c3, Value.slice A12 l12 c12] k12 fun k13 r12 => ∃ A16 l16 c16, ∃ A17 l17 c17, some (Value.tuple #[Value.slice A16 l16 c16, Value.slice A17 l17 c17]) = some r12 ∧
 ∀ k14, Up k13 k14 → CallsG Tryz.prog 59 #[Value.slice A5 l5 c5, Value.slice A12 l12 c12] k14 fun k15 r14 => ∃ A18 l18 c18, ∃ A19 l19 c19, some (Value.tuple #[Value.slice A18 l18 c18, Value.slice A19 l19 c19]) = some r14 ∧
 ∀ k16, Up k15 k16 → CallsG Tryz.prog 59 #[Value.slice A7 l7 c7, Value.slice A12 l12 c12] k16 fun k17 r16 => ∃ A20 l20 c20, ∃ A21 l21 c21, some (Value.tuple #[Value.slice A20 l20 c20, Value.slice A21 l21 c21]) = some r16 ∧
 ∀ k18, Up k17 k18 → CallsG Tryz.prog 59 #[Value.slice A8 l8 c8, Value.slice A12 l12 c12] k18 fun k19 r18 => ∃ A22 l22 c22, ∃ A23 l23 c23, some (Value.tuple #[Value.slice A22 l22 c22, Value.slice A23 l23 c23]) = some r18 ∧
 ∀ k20, Up k19 k20 → CallsG Tryz.prog 58 #[Value.slice A22 l22 c22] k20 fun k21 r20 => ∃ b24, some (Value.bool b24) = some r20 ∧
 (b24 = true →
 (∀ k22, Up k21 k22 → R k22 (Value.agg #[Value.bool b0, Value.slice A14 l14 c14, Value.bool b2, Value.slice A16 l16 c16, Value.bool b4, Value.slice A18 l18 c18, Value.bool b6, Value.slice A20 l20 c20, Value.slice none 0 0]))) ∧
 (b24 = false →
 (∀ k23, Up k21 k23 → R k23 (Value.agg #[Value.bool b0, Value.slice A14 l14 c14, Value.bool b2, Value.slice A16 l16 c16, Value.bool b4, Value.slice A18 l18 c18, Value.bool b6, Value.slice A20 l20 c20, Value.slice A22 l22 c22]))))) ∧
 ((!b13) = false →
 (∀ k24, Up k9 k24 → CallsG Tryz.prog 58 #[Value.slice A8 l8 c8] k24 fun k25 r24 => ∃ b14, some (Value.bool b14) = some r24 ∧
 (b14 = true →
 (∀ k26, Up k25 k26 → R k26 (Value.agg #[Value.bool b0, Value.slice A1 l1 c1, Value.bool b2, Value.slice A3 l3 c3, Value.bool b4, Value.slice A5 l5 c5, Value.bool b6, Value.slice A7 l7 c7, Value.slice none 0 0]))) ∧
 (b14 = false →
 (∀ k27, Up k25 k27 → R k27 (Value.agg #[Value.bool b0, Value.slice A1 l1 c1, Value.bool b2, Value.slice A3 l3 c3, Value.bool b4, Value.slice A5 l5 c5, Value.bool b6, Value.slice A7 l7 c7, Value.slice A8 l8 c8])))))) :
    CallsG Tryz.prog 34 #[Value.agg #[Value.bool b0, Value.slice A1 l1 c1, Value.bool b2, Value.slice A3 l3 c3, Value.bool b4, Value.slice A5 l5 c5, Value.bool b6, Value.slice A7 l7 c7], Value.slice A8 l8 c8] k R :=
  execFn_use (cfg := { opq := [] }) (args := [.agg [.var 0, .var 1, .var 2, .var 3, .var 4, .var 5, .var 6, .var 7], .one (.var 8)]) (vals := [Value.bool b0, Value.slice A1 l1 c1, Value.bool b2, Value.slice A3 l3 c3, Value.bool b4, Value.slice A5 l5 c5, Value.bool b6, Value.slice A7 l7 c7, Value.slice A8 l8 c8]) (kinds := [.bool, .slice, .bool, .slice, .bool, .slice, .bool, .slice, .slice]) (by kernel_rfl) ⟨⟨_, rfl⟩, ⟨⟨_, _, _, rfl⟩, ⟨⟨_, rfl⟩, ⟨⟨_, _, _, rfl⟩, ⟨⟨_, rfl⟩, ⟨⟨_, _, _, rfl⟩, ⟨⟨_, rfl⟩, ⟨⟨_, _, _, rfl⟩, ⟨⟨_, _, _, rfl⟩, trivial⟩⟩⟩⟩⟩⟩⟩⟩⟩ (by kernel_rfl) (by kernel_rfl) h
theorem SAdd_vc {cs0 cs1 cs2 cs3 : Array Value} {A4 : Option Addr} {l4 c4 : Nat} {cs5 cs6 cs7 cs8 : Array Value} {A9 : Option Addr} {l9 c9 : Nat} (hcs0 : Seg 2 cs0) (hcs1 : Seg 2 cs1) (hcs2 : Seg 2 cs2) (hcs3 : Seg 2 cs3) (hcs5 : Seg 2 cs5) (hcs6 : Seg 2 cs6) (hcs7 : Seg 2 cs7) (hcs8 : Seg 2 cs8)
    (h : ∀ k0, Up k k0 → CallsG Tryz.prog 36 #[Value.slice A4 l4 c4] k0 fun k1 r0 => ∃ A10 l10 c10, some (Value.slice A10 l10 c10) = some r0 ∧
 ∀ k2, Up k1 k2 → CallsG Tryz.prog 36 #[Value.slice A9 l9 c9] k2 fun k3 r2 => ∃ A11 l11 c11, some (Value.slice A11 l11 c11) = some r2 ∧
 ∀ k4, Up k3 k4 → CallsG Tryz.prog 38 #[Value.agg cs0, Value.slice A11 l11 c11] k4 fun k5 r4 => ∃ cs12, Seg 2 cs12 ∧ some (Value.agg cs12) = some r4 ∧
 ∀ k6, Up k5 k6 → CallsG Tryz.prog 38 #[Value.agg cs5, Value.slice A10 l10 c10] k6 fun k7 r6 => ∃ cs13, Seg 2 cs13 ∧ some (Value.agg cs13) = some r6 ∧
 ∀ k8, Up k7 k8 → CallsG Tryz.prog 39 #[Value.agg cs12, Value.agg cs13] k8 fun k9 r8 => ∃ cs14, Seg 2 cs14 ∧ some (Value.agg cs14) = some r8 ∧
 ∀ k10, Up k9 k10 → CallsG Tryz.prog 38 #[Value.agg cs1, Value.slice A11 l11 c11] k10 fun k11 r10 => ∃ cs15, Seg 2 cs15 ∧ some (Value.agg cs15) = some r10 ∧
 ∀ k12, Up k11 k12 → CallsG Tryz.prog 38 #[Value.agg cs6, Value.slice A10 l10 c10] k12 fun k13 r12 => ∃ cs16, Seg 2 cs16 ∧ some (Value.agg cs16) = some r12 ∧
 ∀ k14, Up k13 k14 → CallsG Tryz.prog 39 #[Value.agg cs15, Value.agg cs16] k14 fun k15 r14 => ∃ cs17, Seg 2 cs17 ∧ some (Value.agg cs17) = some r14 ∧
 ∀ k16, Up k15 k16 → CallsG Tryz.prog 38 #[Value.agg cs2, Value.slice A11 l11 c11] k16 fun k17 r16 => ∃ cs18, Seg 2 cs18 ∧ some (Value.agg cs18) = some r16 ∧
 ∀ k18, Up k17 k18 → CallsG Tryz.prog 38 #[Value.agg cs7, Value.slice A10 l10 c10] k18 fun k19 r18 => ∃ cs19, Seg 2 cs19 ∧ some (Value.agg cs19) = some r18 ∧
 ∀ k20, Up k19 k20 → CallsG Tryz.prog 39 #[Value.agg cs18, Value.agg cs19] k20 fun k21 r20 => ∃ cs20, Seg 2 cs20 ∧ some (Value.agg cs20) = some r20 ∧
 ∀ k22, Up k21 k22 → CallsG Tryz.prog 38 #[Value.agg cs3, Value.slice A11 l11 c11] k22 fun k23 r22 => ∃ cs21, Seg 2 cs21 ∧ some (Value.agg cs21) = some r22 ∧
 ∀ k24, Up k23 k24 → CallsG Tryz.prog 38 #[Value.agg cs8, Value.slice A10 l10 c10] k24 fun k25 r24 => ∃ cs22, Seg 2 cs22 ∧ some (Value.agg cs22) = some r24 ∧
 ∀ k26, Up k25 k26 → CallsG Tryz.prog 39 #[Value.agg cs21, Value.agg cs22] k26 fun k27 r26 => ∃ cs23, Seg 2 cs23 ∧ some (Value.agg cs23) = some r26 ∧
 ∀ k28, Up k27 k28 → CallsG Tryz.prog 37 #[Value.slice A10 l10 c10, Value.slice A11 l11 c11] k28 fun k29 r28 => ∃ A24 l24 c24, some (Value.slice A24 l24 c24) = some r28 ∧
 ∀ k30, Up k29 k30 → CallsG Tryz.prog 34 #[Value.agg (cs14.toList ++ (cs17.toList ++ (cs20.toList ++ (cs23.toList ++ ([]))))).toArray, Value.slice A24 l24 c24] k30 fun k31 r30 => ∃ cs25, Seg 2 cs25 ∧ ∃ cs26, Seg 2 cs26 ∧ ∃ cs27, Seg 2 cs27 ∧ ∃ cs28, Seg 2 cs28 ∧ ∃ A29 l29 c29, some (Value.agg (cs25.toList ++ (cs26.toList ++ (cs27.toList ++ (cs28.toList ++ ((Value.slice A29 l29 c29) :: ([])))))).toArray) = some r30 ∧
 ∀ k32, Up k31 k32 → R k32 (Value.agg (cs25.toList ++ (cs26.toList ++ (cs27.toList ++ (cs28.toList ++ ((Value.slice A29 l29 c29) :: ([])))))).toArray)) :
    CallsG Tryz.prog 23 #[Value.agg (cs0.toList ++ (cs1.toList ++ (cs2.toList ++ (cs3.toList ++ ((Value.slice A4 l4 c4) :: ([])))))).toArray, Value.agg (cs5.toList ++ (cs6.toList ++ (cs7.toList ++ (cs8.toList ++ ((Value.slice A9 l9 c9) :: ([])))))).toArray] k R :=
  execFn_use (cfg := { opq := [29] }) (args := [.agg [.seg 0 2, .seg 1 2, .seg 2 2, .seg 3 2, .var 4], .agg [.seg 5 2, .seg 6 2, .seg 7 2, .seg 8 2, .var 9]]) (vals := [Value.agg cs0, Value.agg cs1, Value.agg cs2, Value.agg cs3, Value.slice A4 l4 c4, Value.agg cs5, Value.agg cs6, Value.agg cs7, Value.agg cs8, Value.slice A9 l9 c9]) (kinds := [.seg 2, .seg 2, .seg 2, .seg 2, .slice, .seg 2, .seg 2, .seg 2, .seg 2, .slice]) (by kernel_rfl) ⟨⟨cs0, rfl, hcs0⟩, ⟨⟨cs1, rfl, hcs1⟩, ⟨⟨cs2, rfl, hcs2⟩, ⟨⟨cs3, rfl, hcs3⟩, ⟨⟨_, _, _, rfl⟩, ⟨⟨cs5, rfl, hcs5⟩, ⟨⟨cs6, rfl, hcs6⟩, ⟨⟨cs7, rfl, hcs7⟩, ⟨⟨cs8, rfl, hcs8⟩, ⟨⟨_, _, _, rfl⟩, trivial⟩⟩⟩⟩⟩⟩⟩⟩⟩⟩ (by kernel_rfl) (by kernel_rfl) h
theorem product_vc {cs0 cs1 cs2 cs3 cs4 cs5 cs6 cs7 : Array Value} (hcs0 : Seg 2 cs0) (hcs1 : Seg 2 cs1) (hcs2 : Seg 2 cs2) (hcs3 : Seg 2 cs3) (hcs4 : Seg 2 cs4) (hcs5 : Seg 2 cs5) (hcs6 : Seg 2 cs6) (hcs7 : Seg 2 cs7)
    (h : ∀ p8 k0, Up k k0 → Sy.Blk k0 p8 30 (cs0.toList ++ (cs1.toList ++ (cs2.toList ++ (cs3.toList ++ ([]))))).toArray →
 ∀ p9 k1, Up k0 k1 → Sy.Blk k1 p9 30 (cs4.toList ++ (cs5.toList ++ (cs6.toList ++ (cs7.toList ++ ([]))))).toArray →
 ∀ k2, Up k1 k2 → CallsG Tryz.prog 60 #[Value.int .i64 0, Value.int .i64 0, (Value.pointer (some ⟨p8, 0, none⟩)), (Value.pointer (some ⟨p9, 0, none⟩))] k2 fun k3 r2 => ∃ cs10, Seg 2 cs10 ∧ some (Value.agg cs10) = some r2 ∧
 ∀ k4, Up k3 k4 → CallsG Tryz.prog 60 #[Value.int .i64 1, Value.int .i64 1, (Value.pointer (some ⟨p8, 0, none⟩)), (Value.pointer (some ⟨p9, 0, none⟩))] k4 fun k5 r4 => ∃ cs11, Seg 2 cs11 ∧ some (Value.agg cs11) = some r4 ∧
 ∀ k6, Up k5 k6 → CallsG Tryz.prog 44 #[Value.agg cs11, Value.int .u64 2] k6 fun k7 r6 => ∃ cs12, Seg 2 cs12 ∧ some (Value.agg cs12) = some r6 ∧
 ∀ k8, Up k7 k8 → CallsG Tryz.prog 39 #[Value.agg cs10, Value.agg cs12] k8 fun k9 r8 => ∃ cs13, Seg 2 cs13 ∧ some (Value.agg cs13) = some r8 ∧
 ∀ k10, Up k9 k10 → CallsG Tryz.prog 60 #[Value.int .i64 2, Value.int .i64 2, (Value.pointer (some ⟨p8, 0, none⟩)), (Value.pointer (some ⟨p9, 0, none⟩))] k10 fun k11 r10 => ∃ cs14, Seg 2 cs14 ∧ some (Value.agg cs14) = some r10 ∧
 ∀ k12, Up k11 k12 → CallsG Tryz.prog 44 #[Value.agg cs14, Value.int .u64 3] k12 fun k13 r12 => ∃ cs15, Seg 2 cs15 ∧ some (Value.agg cs15) = some r12 ∧
 ∀ k14, Up k13 k14 → CallsG Tryz.prog 39 #[Value.agg cs13, Value.agg cs15] k14 fun k15 r14 => ∃ cs16, Seg 2 cs16 ∧ some (Value.agg cs16) = some r14 ∧
 ∀ k16, Up k15 k16 → CallsG Tryz.prog 60 #[Value.int .i64 3, Value.int .i64 3, (Value.pointer (some ⟨p8, 0, none⟩)), (Value.pointer (some ⟨p9, 0, none⟩))] k16 fun k17 r16 => ∃ cs17, Seg 2 cs17 ∧ some (Value.agg cs17) = some r16 ∧
 ∀ k18, Up k17 k18 → CallsG Tryz.prog 44 #[Value.agg cs17, Value.int .u64 6] k18 fun k19 r18 => ∃ cs18, Seg 2 cs18 ∧ some (Value.agg cs18) = some r18 ∧
 ∀ k20, Up k19 k20 → CallsG Tryz.prog 39 #[Value.agg cs16, Value.agg cs18] k20 fun k21 r20 => ∃ cs19, Seg 2 cs19 ∧ some (Value.agg cs19) = some r20 ∧
 ∀ k22, Up k21 k22 → CallsG Tryz.prog 60 #[Value.int .i64 0, Value.int .i64 1, (Value.pointer (some ⟨p8, 0, none⟩)), (Value.pointer (some ⟨p9, 0, none⟩))] k22 fun k23 r22 => ∃ cs20, Seg 2 cs20 ∧ some (Value.agg cs20) = some r22 ∧
 ∀ k24, Up k23 k24 → CallsG Tryz.prog 60 #[Value.int .i64 1, Value.int .i64 0, (Value.pointer (some ⟨p8, 0, none⟩)), (Value.pointer (some ⟨p9, 0, none⟩))] k24 fun k25 r24 => ∃ cs21, Seg 2 cs21 ∧ some (Value.agg cs21) = some r24 ∧
 ∀ k26, Up k25 k26 → CallsG Tryz.prog 39 #[Value.agg cs20, Value.agg cs21] k26 fun k27 r26 => ∃ cs22, Seg 2 cs22 ∧ some (Value.agg cs22) = some r26 ∧
 ∀ k28, Up k27 k28 → CallsG Tryz.prog 60 #[Value.int .i64 2, Value.int .i64 3, (Value.pointer (some ⟨p8, 0, none⟩)), (Value.pointer (some ⟨p9, 0, none⟩))] k28 fun k29 r28 => ∃ cs23, Seg 2 cs23 ∧ some (Value.agg cs23) = some r28 ∧
 ∀ k30, Up k29 k30 → CallsG Tryz.prog 60 #[Value.int .i64 3, Value.int .i64 2, (Value.pointer (some ⟨p8, 0, none⟩)), (Value.pointer (some ⟨p9, 0, none⟩))] k30 fun k31 r30 => ∃ cs24, Seg 2 cs24 ∧ some (Value.agg cs24) = some r30 ∧
 ∀ k32, Up k31 k32 → CallsG Tryz.prog 39 #[Value.agg cs23, Value.agg cs24] k32 fun k33 r32 => ∃ cs25, Seg 2 cs25 ∧ some (Value.agg cs25) = some r32 ∧
 ∀ k34, Up k33 k34 → CallsG Tryz.prog 44 #[Value.agg cs25, Value.int .u64 3] k34 fun k35 r34 => ∃ cs26, Seg 2 cs26 ∧ some (Value.agg cs26) = some r34 ∧
 ∀ k36, Up k35 k36 → CallsG Tryz.prog 39 #[Value.agg cs22, Value.agg cs26] k36 fun k37 r36 => ∃ cs27, Seg 2 cs27 ∧ some (Value.agg cs27) = some r36 ∧
 ∀ k38, Up k37 k38 → CallsG Tryz.prog 60 #[Value.int .i64 0, Value.int .i64 2, (Value.pointer (some ⟨p8, 0, none⟩)), (Value.pointer (some ⟨p9, 0, none⟩))] k38 fun k39 r38 => ∃ cs28, Seg 2 cs28 ∧ some (Value.agg cs28) = some r38 ∧
 ∀ k40, Up k39 k40 → CallsG Tryz.prog 60 #[Value.int .i64 2, Value.int .i64 0, (Value.pointer (some ⟨p8, 0, none⟩)), (Value.pointer (some ⟨p9, 0, none⟩))] k40 fun k41 r40 => ∃ cs29, Seg 2 cs29 ∧ some (Value.agg cs29) = some r40 ∧
 ∀ k42, Up k41 k42 → CallsG Tryz.prog 39 #[Value.agg cs28, Value.agg cs29] k42 fun k43 r42 => ∃ cs30, Seg 2 cs30 ∧ some (Value.agg cs30) = some r42 ∧
 ∀ k44, Up k43 k44 → CallsG Tryz.prog 60 #[Value.int .i64 1, Value.int .i64 3, (Value.pointer (some ⟨p8, 0, none⟩)), (Value.pointer (some ⟨p9, 0, none⟩))] k44 fun k45 r44 => ∃ cs31, Seg 2 cs31 ∧ some (Value.agg cs31) = some r44 ∧
 ∀ k46, Up k45 k46 → CallsG Tryz.prog 60 #[Value.int .i64 3, Value.int .i64 1, (Value.pointer (some ⟨p8, 0, none⟩)), (Value.pointer (some ⟨p9, 0, none⟩))] k46 fun k47 r46 => ∃ cs32, Seg 2 cs32 ∧ some (Value.agg cs32) = some r46 ∧
 ∀ k48, Up k47 k48 → CallsG Tryz.prog 39 #[Value.agg cs31, Value.agg cs32] k48 fun k49 r48 => ∃ cs33, Seg 2 cs33 ∧ some (Value.agg cs33) = some r48 ∧
 ∀ k50, Up k49 k50 → CallsG Tryz.prog 44 #[Value.agg cs33, Value.int .u64 2] k50 fun k51 r50 => ∃ cs34, Seg 2 cs34 ∧ some (Value.agg cs34) = some r50 ∧
 ∀ k52, Up k51 k52 → CallsG Tryz.prog 39 #[Value.agg cs30, Value.agg cs34] k52 fun k53 r52 => ∃ cs35, Seg 2 cs35 ∧ some (Value.agg cs35) = some r52 ∧
 ∀ k54, Up k53 k54 → CallsG Tryz.prog 60 #[Value.int .i64 0, Value.int .i64 3, (Value.pointer (some ⟨p8, 0, none⟩)), (Value.pointer (some ⟨p9, 0, none⟩))] k54 fun k55 r54 => ∃ cs36, Seg 2 cs36 ∧ some (Value.agg cs36) = some r54 ∧
 ∀ k56, Up k55 k56 → CallsG Tryz.prog 60 #[Value.int .i64 3, Value.int .i64 0, (Value.pointer (some ⟨p8, 0, none⟩)), (Value.pointer (some ⟨p9, 0, none⟩))] k56 fun k57 r56 => ∃ cs37, Seg 2 cs37 ∧ some (Value.agg cs37) = some r56 ∧
 ∀ k58, Up k57 k58 → CallsG Tryz.prog 39 #[Value.agg cs36, Value.agg cs37] k58 fun k59 r58 => ∃ cs38, Seg 2 cs38 ∧ some (Value.agg cs38) = some r58 ∧
 ∀ k60, Up k59 k60 → CallsG Tryz.prog 60 #[Value.int .i64 1, Value.int .i64 2, (Value.pointer (some ⟨p8, 0, none⟩)), (Value.pointer (some ⟨p9, 0, none⟩))] k60 fun k61 r60 => ∃ cs39, Seg 2 cs39 ∧ some (Value.agg cs39) = some r60 ∧
 ∀ k62, Up k61 k62 → CallsG Tryz.prog 39 #[Value.agg cs38, Value.agg cs39] k62 fun k63 r62 => ∃ cs40, Seg 2 cs40 ∧ some (Value.agg cs40) = some r62 ∧
 ∀ k64, Up k63 k64 → CallsG Tryz.prog 60 #[Value.int .i64 2, Value.int .i64 1, (Value.pointer (some ⟨p8, 0, none⟩)), (Value.pointer (some ⟨p9, 0, none⟩))] k64 fun k65 r64 => ∃ cs41, Seg 2 cs41 ∧ some (Value.agg cs41) = some r64 ∧
 ∀ k66, Up k65 k66 → CallsG Tryz.prog 39 #[Value.agg cs40, Value.agg cs41] k66 fun k67 r66 => ∃ cs42, Seg 2 cs42 ∧ some (Value.agg cs42) = some r66 ∧
 ∀ k68, Up k67 k68 → R k68 (Value.agg (cs19.toList ++ (cs27.toList ++ (cs35.toList ++ (cs42.toList ++ ([]))))).toArray)) :
    CallsG Tryz.prog 35 #[Value.agg (cs0.toList ++ (cs1.toList ++ (cs2.toList ++ (cs3.toList ++ ([]))))).toArray, Value.agg (cs4.toList ++ (cs5.toList ++ (cs6.toList ++ (cs7.toList ++ ([]))))).toArray] k R :=
  execFn_use (cfg := { opq := [29] }) (args := [.agg [.seg 0 2, .seg 1 2, .seg 2 2, .seg 3 2], .agg [.seg 4 2, .seg 5 2, .seg 6 2, .seg 7 2]]) (vals := [Value.agg cs0, Value.agg cs1, Value.agg cs2, Value.agg cs3, Value.agg cs4, Value.agg cs5, Value.agg cs6, Value.agg cs7]) (kinds := [.seg 2, .seg 2, .seg 2, .seg 2, .seg 2, .seg 2, .seg 2, .seg 2]) (by kernel_rfl) ⟨⟨cs0, rfl, hcs0⟩, ⟨⟨cs1, rfl, hcs1⟩, ⟨⟨cs2, rfl, hcs2⟩, ⟨⟨cs3, rfl, hcs3⟩, ⟨⟨cs4, rfl, hcs4⟩, ⟨⟨cs5, rfl, hcs5⟩, ⟨⟨cs6, rfl, hcs6⟩, ⟨⟨cs7, rfl, hcs7⟩, trivial⟩⟩⟩⟩⟩⟩⟩⟩ (by kernel_rfl) (by kernel_rfl) h
theorem SNeg_vc {cs0 cs1 cs2 cs3 : Array Value} {A4 : Option Addr} {l4 c4 : Nat} (hcs0 : Seg 2 cs0) (hcs1 : Seg 2 cs1) (hcs2 : Seg 2 cs2) (hcs3 : Seg 2 cs3)
    (h : ∀ k0, Up k k0 → CallsG Tryz.prog 45 #[Value.agg cs0] k0 fun k1 r0 => ∃ cs5, Seg 2 cs5 ∧ some (Value.agg cs5) = some r0 ∧
 ∀ k2, Up k1 k2 → CallsG Tryz.prog 45 #[Value.agg cs1] k2 fun k3 r2 => ∃ cs6, Seg 2 cs6 ∧ some (Value.agg cs6) = some r2 ∧
 ∀ k4, Up k3 k4 → CallsG Tryz.prog 45 #[Value.agg cs2] k4 fun k5 r4 => ∃ cs7, Seg 2 cs7 ∧ some (Value.agg cs7) = some r4 ∧
 ∀ k6, Up k5 k6 → CallsG Tryz.prog 45 #[Value.agg cs3] k6 fun k7 r6 => ∃ cs8, Seg 2 cs8 ∧ some (Value.agg cs8) = some r6 ∧
 ∀ k8, Up k7 k8 → R k8 (Value.agg (cs5.toList ++ (cs6.toList ++ (cs7.toList ++ (cs8.toList ++ ((Value.slice A4 l4 c4) :: ([])))))).toArray)) :
    CallsG Tryz.prog 33 #[Value.agg (cs0.toList ++ (cs1.toList ++ (cs2.toList ++ (cs3.toList ++ ((Value.slice A4 l4 c4) :: ([])))))).toArray] k R :=
  execFn_use (cfg := { opq := [29] }) (args := [.agg [.seg 0 2, .seg 1 2, .seg 2 2, .seg 3 2, .var 4]]) (vals := [Value.agg cs0, Value.agg cs1, Value.agg cs2, Value.agg cs3, Value.slice A4 l4 c4]) (kinds := [.seg 2, .seg 2, .seg 2, .seg 2, .slice]) (by kernel_rfl) ⟨⟨cs0, rfl, hcs0⟩, ⟨⟨cs1, rfl, hcs1⟩, ⟨⟨cs2, rfl, hcs2⟩, ⟨⟨cs3, rfl, hcs3⟩, ⟨⟨_, _, _, rfl⟩, trivial⟩⟩⟩⟩⟩ (by kernel_rfl) (by kernel_rfl) h
theorem SZero_vc {b0 : Bool} {A1 : Option Addr} {l1 c1 : Nat} {b2 : Bool} {A3 : Option Addr} {l3 c3 : Nat} {b4 : Bool} {A5 : Option Addr} {l5 c5 : Nat} {b6 : Bool} {A7 : Option Addr} {l7 c7 : Nat} {A8 : Option Addr} {l8 c8 : Nat}
   (h : true = true ∧ (true = true ∧ (true = true ∧ (true = true ∧ (∀ k0, Up k k0 → R k0 (Value.bool (((IntKind.wrap .i64 ((IntKind.wrap .i64 ((IntKind.wrap .i64 ((l1 : Nat) + (l3 : Nat))) + (l5 : Nat))) + (l7 : Nat))) : Int) == 0))))))) :
   CallsG Tryz.prog 24 #[Value.agg #[Value.bool b0, Value.slice A1 l1 c1, Value.bool b2, Value.slice A3 l3 c3, Value.bool b4, Value.slice A5 l5 c5, Value.bool b6, Value.slice A7 l7 c7, Value.slice A8 l8 c8]] k R :=
 execFn_use (cfg := { opq := [] }) (args := [.agg [.var 0, .var 1, .var 2, .var 3, .var 4, .var 5, .var 6, .var 7, .var 8]]) (vals := [Value.bool b0, Value.slice A1 l1 c1, Value.bool b2, Value.slice A3 l3 c3, Value.bool b4, Value.slice A5 l5 c5, Value.bool b6, Value.slice A7 l7 c7, Value.slice A8 l8 c8]) (kinds := [.bool, .slice, .bool, .slice, .bool, .slice, .bool, .slice, .slice]) (by kernel_rfl) ⟨⟨_, rfl⟩, ⟨⟨_, _, _, rfl⟩, ⟨⟨_, rfl⟩, ⟨⟨_, _, _, rfl⟩, ⟨⟨_, rfl⟩, ⟨⟨_, _, _, rfl⟩, ⟨⟨_, rfl⟩, ⟨⟨_, _, _, rfl⟩, ⟨⟨_, _, _, rfl⟩, trivial⟩⟩⟩⟩⟩⟩⟩⟩⟩ (by kernel_rfl) (by kernel_rfl) h
theorem SSame_vc {cs0 cs1 : Array Value} (hcs0 : Seg 9 cs0) (hcs1 : Seg 9 cs1)
    (h : ∀ k0, Up k k0 → CallsG Tryz.prog 21 #[Value.agg cs0, Value.agg cs1] k0 fun k1 r0 => ∃ cs2, Seg 9 cs2 ∧ some (Value.agg cs2) = some r0 ∧
 ∀ k2, Up k1 k2 → CallsG Tryz.prog 24 #[Value.agg cs2] k2 fun k3 r2 => ∃ b3, some (Value.bool b3) = some r2 ∧
 ∀ k4, Up k3 k4 → R k4 (Value.bool b3)) :
    CallsG Tryz.prog 8 #[Value.agg cs0, Value.agg cs1] k R :=
  execFn_use (cfg := { opq := [32] }) (args := [.agg [.seg 0 9], .agg [.seg 1 9]]) (vals := [Value.agg cs0, Value.agg cs1]) (kinds := [.seg 9, .seg 9]) (by kernel_rfl) ⟨⟨cs0, rfl, hcs0⟩, ⟨⟨cs1, rfl, hcs1⟩, trivial⟩⟩ (by kernel_rfl) (by kernel_rfl) h
theorem SSub_vc {cs0 cs1 : Array Value} (hcs0 : Seg 9 cs0) (hcs1 : Seg 9 cs1)
    (h : ∀ k0, Up k k0 → CallsG Tryz.prog 33 #[Value.agg cs1] k0 fun k1 r0 => ∃ cs2, Seg 9 cs2 ∧ some (Value.agg cs2) = some r0 ∧
 ∀ k2, Up k1 k2 → CallsG Tryz.prog 23 #[Value.agg cs0, Value.agg cs2] k2 fun k3 r2 => ∃ cs3, Seg 9 cs3 ∧ some (Value.agg cs3) = some r2 ∧
 ∀ k4, Up k3 k4 → R k4 (Value.agg cs3)) :
    CallsG Tryz.prog 21 #[Value.agg cs0, Value.agg cs1] k R :=
  execFn_use (cfg := { opq := [32] }) (args := [.agg [.seg 0 9], .agg [.seg 1 9]]) (vals := [Value.agg cs0, Value.agg cs1]) (kinds := [.seg 9, .seg 9]) (by kernel_rfl) ⟨⟨cs0, rfl, hcs0⟩, ⟨⟨cs1, rfl, hcs1⟩, trivial⟩⟩ (by kernel_rfl) (by kernel_rfl) h
theorem Make_vc {cs0 : Array Value} {A1 : Option Addr} {l1 c1 : Nat} {cs2 : Array Value} {A3 : Option Addr} {l3 c3 : Nat} {cs4 : Array Value} {A5 : Option Addr} {l5 c5 : Nat} {cs6 : Array Value} {A7 : Option Addr} {l7 c7 : Nat} (hcs0 : Seg 2 cs0) (hcs2 : Seg 2 cs2) (hcs4 : Seg 2 cs4) (hcs6 : Seg 2 cs6)
    (h : ∀ k0, Up k k0 → CallsG Tryz.prog 48 #[Value.int .u64 1] k0 fun k1 r0 => ∃ A8 l8 c8, some (Value.slice A8 l8 c8) = some r0 ∧
 ∀ k2, Up k1 k2 → CallsG Tryz.prog 36 #[Value.slice A1 l1 c1] k2 fun k3 r2 => ∃ A9 l9 c9, some (Value.slice A9 l9 c9) = some r2 ∧
 ∀ k4, Up k3 k4 → CallsG Tryz.prog 37 #[Value.slice A8 l8 c8, Value.slice A9 l9 c9] k4 fun k5 r4 => ∃ A10 l10 c10, some (Value.slice A10 l10 c10) = some r4 ∧
 ∀ k6, Up k5 k6 → CallsG Tryz.prog 36 #[Value.slice A3 l3 c3] k6 fun k7 r6 => ∃ A11 l11 c11, some (Value.slice A11 l11 c11) = some r6 ∧
 ∀ k8, Up k7 k8 → CallsG Tryz.prog 37 #[Value.slice A10 l10 c10, Value.slice A11 l11 c11] k8 fun k9 r8 => ∃ A12 l12 c12, some (Value.slice A12 l12 c12) = some r8 ∧
 ∀ k10, Up k9 k10 → CallsG Tryz.prog 36 #[Value.slice A5 l5 c5] k10 fun k11 r10 => ∃ A13 l13 c13, some (Value.slice A13 l13 c13) = some r10 ∧
 ∀ k12, Up k11 k12 → CallsG Tryz.prog 37 #[Value.slice A12 l12 c12, Value.slice A13 l13 c13] k12 fun k13 r12 => ∃ A14 l14 c14, some (Value.slice A14 l14 c14) = some r12 ∧
 ∀ k14, Up k13 k14 → CallsG Tryz.prog 36 #[Value.slice A7 l7 c7] k14 fun k15 r14 => ∃ A15 l15 c15, some (Value.slice A15 l15 c15) = some r14 ∧
 ∀ k16, Up k15 k16 → CallsG Tryz.prog 37 #[Value.slice A14 l14 c14, Value.slice A15 l15 c15] k16 fun k17 r16 => ∃ A16 l16 c16, some (Value.slice A16 l16 c16) = some r16 ∧
 ∀ k18, Up k17 k18 → CallsG Tryz.prog 36 #[Value.slice A1 l1 c1] k18 fun k19 r18 => ∃ A17 l17 c17, some (Value.slice A17 l17 c17) = some r18 ∧
 ∀ k20, Up k19 k20 → CallsG Tryz.prog 59 #[Value.slice A16 l16 c16, Value.slice A17 l17 c17] k20 fun k21 r20 => ∃ A18 l18 c18, ∃ A19 l19 c19, some (Value.tuple #[Value.slice A18 l18 c18, Value.slice A19 l19 c19]) = some r20 ∧
 ∀ k22, Up k21 k22 → CallsG Tryz.prog 38 #[Value.agg cs0, Value.slice A18 l18 c18] k22 fun k23 r22 => ∃ cs20, Seg 2 cs20 ∧ some (Value.agg cs20) = some r22 ∧
 ∀ k24, Up k23 k24 → CallsG Tryz.prog 36 #[Value.slice A3 l3 c3] k24 fun k25 r24 => ∃ A21 l21 c21, some (Value.slice A21 l21 c21) = some r24 ∧
 ∀ k26, Up k25 k26 → CallsG Tryz.prog 59 #[Value.slice A16 l16 c16, Value.slice A21 l21 c21] k26 fun k27 r26 => ∃ A22 l22 c22, ∃ A23 l23 c23, some (Value.tuple #[Value.slice A22 l22 c22, Value.slice A23 l23 c23]) = some r26 ∧
 ∀ k28, Up k27 k28 → CallsG Tryz.prog 38 #[Value.agg cs2, Value.slice A22 l22 c22] k28 fun k29 r28 => ∃ cs24, Seg 2 cs24 ∧ some (Value.agg cs24) = some r28 ∧
 ∀ k30, Up k29 k30 → CallsG Tryz.prog 36 #[Value.slice A5 l5 c5] k30 fun k31 r30 => ∃ A25 l25 c25, some (Value.slice A25 l25 c25) = some r30 ∧
 ∀ k32, Up k31 k32 → CallsG Tryz.prog 59 #[Value.slice A16 l16 c16, Value.slice A25 l25 c25] k32 fun k33 r32 => ∃ A26 l26 c26, ∃ A27 l27 c27, some (Value.tuple #[Value.slice A26 l26 c26, Value.slice A27 l27 c27]) = some r32 ∧
 ∀ k34, Up k33 k34 → CallsG Tryz.prog 38 #[Value.agg cs4, Value.slice A26 l26 c26] k34 fun k35 r34 => ∃ cs28, Seg 2 cs28 ∧ some (Value.agg cs28) = some r34 ∧
 ∀ k36, Up k35 k36 → CallsG Tryz.prog 36 #[Value.slice A7 l7 c7] k36 fun k37 r36 => ∃ A29 l29 c29, some (Value.slice A29 l29 c29) = some r36 ∧
 ∀ k38, Up k37 k38 → CallsG Tryz.prog 59 #[Value.slice A16 l16 c16, Value.slice A29 l29 c29] k38 fun k39 r38 => ∃ A30 l30 c30, ∃ A31 l31 c31, some (Value.tuple #[Value.slice A30 l30 c30, Value.slice A31 l31 c31]) = some r38 ∧
 ∀ k40, Up k39 k40 → CallsG Tryz.prog 38 #[Value.agg cs6, Value.slice A30 l30 c30] k40 fun k41 r40 => ∃ cs32, Seg 2 cs32 ∧ some (Value.agg cs32) = some r40 ∧
 ∀ k42, Up k41 k42 → CallsG Tryz.prog 34 #[Value.agg (cs20.toList ++ (cs24.toList ++ (cs28.toList ++ (cs32.toList ++ ([]))))).toArray, Value.slice A16 l16 c16] k42 fun k43 r42 => ∃ cs33, Seg 2 cs33 ∧ ∃ cs34, Seg 2 cs34 ∧ ∃ cs35, Seg 2 cs35 ∧ ∃ cs36, Seg 2 cs36 ∧ ∃ A37 l37 c37, some (Value.agg (cs33.toList ++ (cs34.toList ++ (cs35.toList ++ (cs36.toList ++ ((Value.slice A37 l37 c37) :: ([])))))).toArray) = some r42 ∧
 ∀ k44, Up k43 k44 → R k44 (Value.agg (cs33.toList ++ (cs34.toList ++ (cs35.toList ++ (cs36.toList ++ ((Value.slice A37 l37 c37) :: ([])))))).toArray)) :
    CallsG Tryz.prog 54 #[Value.agg (cs0.toList ++ ((Value.slice A1 l1 c1) :: (cs2.toList ++ ((Value.slice A3 l3 c3) :: (cs4.toList ++ ((Value.slice A5 l5 c5) :: (cs6.toList ++ ((Value.slice A7 l7 c7) :: ([]))))))))).toArray] k R :=
  execFn_use (cfg := { opq := [29] }) (args := [.agg [.seg 0 2, .var 1, .seg 2 2, .var 3, .seg 4 2, .var 5, .seg 6 2, .var 7]]) (vals := [Value.agg cs0, Value.slice A1 l1 c1, Value.agg cs2, Value.slice A3 l3 c3, Value.agg cs4, Value.slice A5 l5 c5, Value.agg cs6, Value.slice A7 l7 c7]) (kinds := [.seg 2, .slice, .seg 2, .slice, .seg 2, .slice, .seg 2, .slice]) (by kernel_rfl) ⟨⟨cs0, rfl, hcs0⟩, ⟨⟨_, _, _, rfl⟩, ⟨⟨cs2, rfl, hcs2⟩, ⟨⟨_, _, _, rfl⟩, ⟨⟨cs4, rfl, hcs4⟩, ⟨⟨_, _, _, rfl⟩, ⟨⟨cs6, rfl, hcs6⟩, ⟨⟨_, _, _, rfl⟩, trivial⟩⟩⟩⟩⟩⟩⟩⟩ (by kernel_rfl) (by kernel_rfl) h
theorem Parts_vc {cs0 cs1 cs2 cs3 : Array Value} {A4 : Option Addr} {l4 c4 : Nat} (hcs0 : Seg 2 cs0) (hcs1 : Seg 2 cs1) (hcs2 : Seg 2 cs2) (hcs3 : Seg 2 cs3)
    (h : ∀ k0, Up k k0 → CallsG Tryz.prog 36 #[Value.slice A4 l4 c4] k0 fun k1 r0 => ∃ A5 l5 c5, some (Value.slice A5 l5 c5) = some r0 ∧
 ∀ k2, Up k1 k2 → CallsG Tryz.prog 70 #[Value.agg cs0, Value.slice A5 l5 c5] k2 fun k3 r2 => ∃ cs6, Seg 3 cs6 ∧ some (Value.agg cs6) = some r2 ∧
 ∀ k4, Up k3 k4 → CallsG Tryz.prog 36 #[Value.slice A4 l4 c4] k4 fun k5 r4 => ∃ A7 l7 c7, some (Value.slice A7 l7 c7) = some r4 ∧
 ∀ k6, Up k5 k6 → CallsG Tryz.prog 70 #[Value.agg cs1, Value.slice A7 l7 c7] k6 fun k7 r6 => ∃ cs8, Seg 3 cs8 ∧ some (Value.agg cs8) = some r6 ∧
 ∀ k8, Up k7 k8 → CallsG Tryz.prog 36 #[Value.slice A4 l4 c4] k8 fun k9 r8 => ∃ A9 l9 c9, some (Value.slice A9 l9 c9) = some r8 ∧
 ∀ k10, Up k9 k10 → CallsG Tryz.prog 70 #[Value.agg cs2, Value.slice A9 l9 c9] k10 fun k11 r10 => ∃ cs10, Seg 3 cs10 ∧ some (Value.agg cs10) = some r10 ∧
 ∀ k12, Up k11 k12 → CallsG Tryz.prog 36 #[Value.slice A4 l4 c4] k12 fun k13 r12 => ∃ A11 l11 c11, some (Value.slice A11 l11 c11) = some r12 ∧
 ∀ k14, Up k13 k14 → CallsG Tryz.prog 70 #[Value.agg cs3, Value.slice A11 l11 c11] k14 fun k15 r14 => ∃ cs12, Seg 3 cs12 ∧ some (Value.agg cs12) = some r14 ∧
 ∀ k16, Up k15 k16 → R k16 (Value.agg (cs6.toList ++ (cs8.toList ++ (cs10.toList ++ (cs12.toList ++ ([]))))).toArray)) :
    CallsG Tryz.prog 49 #[Value.agg (cs0.toList ++ (cs1.toList ++ (cs2.toList ++ (cs3.toList ++ ((Value.slice A4 l4 c4) :: ([])))))).toArray] k R :=
  execFn_use (cfg := { opq := [29, 89] }) (args := [.agg [.seg 0 2, .seg 1 2, .seg 2 2, .seg 3 2, .var 4]]) (vals := [Value.agg cs0, Value.agg cs1, Value.agg cs2, Value.agg cs3, Value.slice A4 l4 c4]) (kinds := [.seg 2, .seg 2, .seg 2, .seg 2, .slice]) (by kernel_rfl) ⟨⟨cs0, rfl, hcs0⟩, ⟨⟨cs1, rfl, hcs1⟩, ⟨⟨cs2, rfl, hcs2⟩, ⟨⟨cs3, rfl, hcs3⟩, ⟨⟨_, _, _, rfl⟩, trivial⟩⟩⟩⟩⟩ (by kernel_rfl) (by kernel_rfl) h
theorem SMul_vc {cs0 cs1 cs2 cs3 : Array Value} {A4 : Option Addr} {l4 c4 : Nat} {cs5 cs6 cs7 cs8 : Array Value} {A9 : Option Addr} {l9 c9 : Nat} (hcs0 : Seg 2 cs0) (hcs1 : Seg 2 cs1) (hcs2 : Seg 2 cs2) (hcs3 : Seg 2 cs3) (hcs5 : Seg 2 cs5) (hcs6 : Seg 2 cs6) (hcs7 : Seg 2 cs7) (hcs8 : Seg 2 cs8)
    (h : ∀ k0, Up k k0 → CallsG Tryz.prog 35 #[Value.agg (cs0.toList ++ (cs1.toList ++ (cs2.toList ++ (cs3.toList ++ ([]))))).toArray, Value.agg (cs5.toList ++ (cs6.toList ++ (cs7.toList ++ (cs8.toList ++ ([]))))).toArray] k0 fun k1 r0 => ∃ cs10, Seg 2 cs10 ∧ ∃ cs11, Seg 2 cs11 ∧ ∃ cs12, Seg 2 cs12 ∧ ∃ cs13, Seg 2 cs13 ∧ some (Value.agg (cs10.toList ++ (cs11.toList ++ (cs12.toList ++ (cs13.toList ++ ([]))))).toArray) = some r0 ∧
 ∀ k2, Up k1 k2 → CallsG Tryz.prog 36 #[Value.slice A4 l4 c4] k2 fun k3 r2 => ∃ A14 l14 c14, some (Value.slice A14 l14 c14) = some r2 ∧
 ∀ k4, Up k3 k4 → CallsG Tryz.prog 36 #[Value.slice A9 l9 c9] k4 fun k5 r4 => ∃ A15 l15 c15, some (Value.slice A15 l15 c15) = some r4 ∧
 ∀ k6, Up k5 k6 → CallsG Tryz.prog 37 #[Value.slice A14 l14 c14, Value.slice A15 l15 c15] k6 fun k7 r6 => ∃ A16 l16 c16, some (Value.slice A16 l16 c16) = some r6 ∧
 ∀ k8, Up k7 k8 → CallsG Tryz.prog 34 #[Value.agg (cs10.toList ++ (cs11.toList ++ (cs12.toList ++ (cs13.toList ++ ([]))))).toArray, Value.slice A16 l16 c16] k8 fun k9 r8 => ∃ cs17, Seg 2 cs17 ∧ ∃ cs18, Seg 2 cs18 ∧ ∃ cs19, Seg 2 cs19 ∧ ∃ cs20, Seg 2 cs20 ∧ ∃ A21 l21 c21, some (Value.agg (cs17.toList ++ (cs18.toList ++ (cs19.toList ++ (cs20.toList ++ ((Value.slice A21 l21 c21) :: ([])))))).toArray) = some r8 ∧
 ∀ k10, Up k9 k10 → R k10 (Value.agg (cs17.toList ++ (cs18.toList ++ (cs19.toList ++ (cs20.toList ++ ((Value.slice A21 l21 c21) :: ([])))))).toArray)) :
    CallsG Tryz.prog 20 #[Value.agg (cs0.toList ++ (cs1.toList ++ (cs2.toList ++ (cs3.toList ++ ((Value.slice A4 l4 c4) :: ([])))))).toArray, Value.agg (cs5.toList ++ (cs6.toList ++ (cs7.toList ++ (cs8.toList ++ ((Value.slice A9 l9 c9) :: ([])))))).toArray] k R :=
  execFn_use (cfg := { opq := [29] }) (args := [.agg [.seg 0 2, .seg 1 2, .seg 2 2, .seg 3 2, .var 4], .agg [.seg 5 2, .seg 6 2, .seg 7 2, .seg 8 2, .var 9]]) (vals := [Value.agg cs0, Value.agg cs1, Value.agg cs2, Value.agg cs3, Value.slice A4 l4 c4, Value.agg cs5, Value.agg cs6, Value.agg cs7, Value.agg cs8, Value.slice A9 l9 c9]) (kinds := [.seg 2, .seg 2, .seg 2, .seg 2, .slice, .seg 2, .seg 2, .seg 2, .seg 2, .slice]) (by kernel_rfl) ⟨⟨cs0, rfl, hcs0⟩, ⟨⟨cs1, rfl, hcs1⟩, ⟨⟨cs2, rfl, hcs2⟩, ⟨⟨cs3, rfl, hcs3⟩, ⟨⟨_, _, _, rfl⟩, ⟨⟨cs5, rfl, hcs5⟩, ⟨⟨cs6, rfl, hcs6⟩, ⟨⟨cs7, rfl, hcs7⟩, ⟨⟨cs8, rfl, hcs8⟩, ⟨⟨_, _, _, rfl⟩, trivial⟩⟩⟩⟩⟩⟩⟩⟩⟩⟩ (by kernel_rfl) (by kernel_rfl) h
theorem SCmp_vc {cs0 cs1 : Array Value} (hcs0 : Seg 9 cs0) (hcs1 : Seg 9 cs1)
    (h : ∀ k0, Up k k0 → CallsG Tryz.prog 21 #[Value.agg cs0, Value.agg cs1] k0 fun k1 r0 => ∃ cs2, Seg 9 cs2 ∧ some (Value.agg cs2) = some r0 ∧
 ∀ k2, Up k1 k2 → CallsG Tryz.prog 25 #[Value.agg cs2] k2 fun k3 r2 => ∃ n3, some (Value.int .i64 n3) = some r2 ∧
 ∀ k4, Up k3 k4 → R k4 (Value.int .i64 n3)) :
    CallsG Tryz.prog 9 #[Value.agg cs0, Value.agg cs1] k R :=
  execFn_use (cfg := { opq := [32] }) (args := [.agg [.seg 0 9], .agg [.seg 1 9]]) (vals := [Value.agg cs0, Value.agg cs1]) (kinds := [.seg 9, .seg 9]) (by kernel_rfl) ⟨⟨cs0, rfl, hcs0⟩, ⟨⟨cs1, rfl, hcs1⟩, trivial⟩⟩ (by kernel_rfl) (by kernel_rfl) h
theorem SSign_vc {cs0 cs1 cs2 cs3 : Array Value} {A4 : Option Addr} {l4 c4 : Nat} (hcs0 : Seg 2 cs0) (hcs1 : Seg 2 cs1) (hcs2 : Seg 2 cs2) (hcs3 : Seg 2 cs3)
    (h : ∀ p5 k0, Up k k0 → Sy.Blk k0 p5 29 (cs0.toList ++ ([])).toArray →
 ∀ p6 k1, Up k0 k1 → Sy.Blk k1 p6 29 (cs1.toList ++ ([])).toArray →
 ∀ p7 k2, Up k1 k2 → Sy.Blk k2 p7 29 (cs2.toList ++ ([])).toArray →
 ∀ p8 k3, Up k2 k3 → Sy.Blk k3 p8 29 (cs3.toList ++ ([])).toArray →
 ∀ k4, Up k3 k4 → CallsG Tryz.prog 41 #[Value.agg cs0, Value.agg cs1] k4 fun k5 r4 => ∃ n9, some (Value.int .i64 n9) = some r4 ∧
 ∀ k6, Up k5 k6 → CallsG Tryz.prog 41 #[Value.agg cs2, Value.agg cs3] k6 fun k7 r6 => ∃ n10, some (Value.int .i64 n10) = some r6 ∧
 ∀ k8, Up k7 k8 → CallsG Tryz.prog 40 #[Value.int .i64 n9, Value.int .i64 n10, Value.func (.func 42) #[] #[(Value.pointer (some ⟨p5, 0, none⟩)), (Value.pointer (some ⟨p6, 0, none⟩)), (Value.pointer (some ⟨p7, 0, none⟩)), (Value.pointer (some ⟨p8, 0, none⟩))]] k8 fun k9 r8 => ∃ n11, some (Value.int .i64 n11) = some r8 ∧
 ∀ k10, Up k9 k10 → R k10 (Value.int .i64 n11)) :
    CallsG Tryz.prog 25 #[Value.agg (cs0.toList ++ (cs1.toList ++ (cs2.toList ++ (cs3.toList ++ ((Value.slice A4 l4 c4) :: ([])))))).toArray] k R :=
  execFn_use (cfg := { opq := [29] }) (args := [.agg [.seg 0 2, .seg 1 2, .seg 2 2, .seg 3 2, .var 4]]) (vals := [Value.agg cs0, Value.agg cs1, Value.agg cs2, Value.agg cs3, Value.slice A4 l4 c4]) (kinds := [.seg 2, .seg 2, .seg 2, .seg 2, .slice]) (by kernel_rfl) ⟨⟨cs0, rfl, hcs0⟩, ⟨⟨cs1, rfl, hcs1⟩, ⟨⟨cs2, rfl, hcs2⟩, ⟨⟨cs3, rfl, hcs3⟩, ⟨⟨_, _, _, rfl⟩, trivial⟩⟩⟩⟩⟩ (by kernel_rfl) (by kernel_rfl) h
theorem sign2_vc {cs0 cs1 : Array Value} (hcs0 : Seg 2 cs0) (hcs1 : Seg 2 cs1)
    (h : ∀ p2 k0, Up k k0 → Sy.Blk k0 p2 29 (cs0.toList ++ ([])).toArray →
 ∀ p3 k1, Up k0 k1 → Sy.Blk k1 p3 29 (cs1.toList ++ ([])).toArray →
 ∀ k2, Up k1 k2 → CallsG Tryz.prog 68 #[Value.agg cs0] k2 fun k3 r2 => ∃ n4, some (Value.int .i64 n4) = some r2 ∧
 ∀ k4, Up k3 k4 → CallsG Tryz.prog 68 #[Value.agg cs1] k4 fun k5 r4 => ∃ n5, some (Value.int .i64 n5) = some r4 ∧
 ∀ k6, Up k5 k6 → CallsG Tryz.prog 40 #[Value.int .i64 n4, Value.int .i64 n5, Value.func (.func 69) #[] #[(Value.pointer (some ⟨p2, 0, none⟩)), (Value.pointer (some ⟨p3, 0, none⟩))]] k6 fun k7 r6 => ∃ n6, some (Value.int .i64 n6) = some r6 ∧
 ∀ k8, Up k7 k8 → R k8 (Value.int .i64 n6)) :
    CallsG Tryz.prog 41 #[Value.agg cs0, Value.agg cs1] k R :=
  execFn_use (cfg := { opq := [29] }) (args := [.agg [.seg 0 2], .agg [.seg 1 2]]) (vals := [Value.agg cs0, Value.agg cs1]) (kinds := [.seg 2, .seg 2]) (by kernel_rfl) ⟨⟨cs0, rfl, hcs0⟩, ⟨⟨cs1, rfl, hcs1⟩, trivial⟩⟩ (by kernel_rfl) (by kernel_rfl) h
end Go.Proofs.YtimkcbikeocaeaaGreat
