/- What is to be shown of the calls of some functions. (Printed by gen/vc.py.) -/
import Derived.Test.YtimkcbikeocaeaaGreatProg
import Derived.Test.YtimkcbikeocaeaaGreatMtSy14
namespace Go.Proofs.YtimkcbikeocaeaaGreat
open Go.RowKit
open Sy (Up Sees CallsG Seg execFn_use)
set_option maxRecDepth 100000
variable {k : World} {R : World → Value → Prop}
theorem SText_vc {cs0 : Array Value} (hcs0 : Seg 9 cs0)
    (h : ∀ k0, Up k k0 → CallsG Tryz.prog 49 #[Value.agg cs0] k0 fun k1 r0 => ∃ cs1, Seg 3 cs1 ∧ ∃ cs2, Seg 3 cs2 ∧ ∃ cs3, Seg 3 cs3 ∧ ∃ cs4, Seg 3 cs4 ∧ some (Value.agg (cs1.toList ++ (cs2.toList ++ (cs3.toList ++ (cs4.toList ++ ([]))))).toArray) = some r0 ∧
 ∃ I2 : Nat → World → List Value → Prop, (∃ m2, ∀ k2, Up k1 k2 → I2 m2 k2 [Value.string ⟨#[]⟩, Value.int .i64 0]) ∧
 ∀ m2 k2 vs2, Up k1 k2 → I2 m2 k2 vs2 → ∃ s5, ∃ n6, some [Value.string s5, Value.int .i64 n6] = some vs2 ∧
 (((n6 : Int) == 0) = true →
 (∀ k3, Up k2 k3 → CallsG Tryz.prog 50 #[Value.agg cs1] k3 fun k4 r3 => ∃ b7, some (Value.bool b7) = some r3 ∧
 (b7 = true →
 (∀ k5, Up k4 k5 → ∃ m, m < m2 ∧ I2 m k5 [Value.string s5, Value.int .i64 1])) ∧
 (b7 = false →
 (((!(ByteArray.toList s5 == ByteArray.toList ⟨#[]⟩)) = true →
 (∀ k6, Up k4 k6 → CallsG Tryz.prog 51 #[Value.agg cs1] k6 fun k7 r6 => ∃ n8, some (Value.int .i64 n8) = some r6 ∧
 ((decide ((n8 : Int) > 0)) = true →
 ((decide (((ByteArray.size s5 + ByteArray.size ⟨#[43]⟩ : Nat) : Int) ≤ 9223372036854775807)) = true ∧
 (∀ k8, Up k7 k8 → CallsG Tryz.prog 52 #[Value.agg cs1] k8 fun k9 r8 => ∃ s9, some (Value.string s9) = some r8 ∧
 ∀ k10, Up k9 k10 → CallsG Tryz.prog 53 #[] k10 fun k11 r10 => ∃ s10, ∃ s11, ∃ s12, ∃ s13, some (Value.agg #[Value.string s10, Value.string s11, Value.string s12, Value.string s13]) = some r10 ∧
 (decide (((ByteArray.size s9 + ByteArray.size s10 : Nat) : Int) ≤ 9223372036854775807)) = true ∧
 ((decide (((ByteArray.size (s5 ++ ⟨#[43]⟩) + ByteArray.size (s9 ++ s10) : Nat) : Int) ≤ 9223372036854775807)) = true ∧
 (∀ k12, Up k11 k12 → ∃ m, m < m2 ∧ I2 m k12 [Value.string ((s5 ++ ⟨#[43]⟩) ++ (s9 ++ s10)), Value.int .i64 1]))))) ∧
 ((decide ((n8 : Int) > 0)) = false →
 (∀ k13, Up k7 k13 → CallsG Tryz.prog 52 #[Value.agg cs1] k13 fun k14 r13 => ∃ s9, some (Value.string s9) = some r13 ∧
 ∀ k15, Up k14 k15 → CallsG Tryz.prog 53 #[] k15 fun k16 r15 => ∃ s10, ∃ s11, ∃ s12, ∃ s13, some (Value.agg #[Value.string s10, Value.string s11, Value.string s12, Value.string s13]) = some r15 ∧
 (decide (((ByteArray.size s9 + ByteArray.size s10 : Nat) : Int) ≤ 9223372036854775807)) = true ∧
 ((decide (((ByteArray.size s5 + ByteArray.size (s9 ++ s10) : Nat) : Int) ≤ 9223372036854775807)) = true ∧
 (∀ k17, Up k16 k17 → ∃ m, m < m2 ∧ I2 m k17 [Value.string (s5 ++ (s9 ++ s10)), Value.int .i64 1])))))) ∧
 ((!(ByteArray.toList s5 == ByteArray.toList ⟨#[]⟩)) = false →
 (∀ k18, Up k4 k18 → CallsG Tryz.prog 52 #[Value.agg cs1] k18 fun k19 r18 => ∃ s8, some (Value.string s8) = some r18 ∧
 ∀ k20, Up k19 k20 → CallsG Tryz.prog 53 #[] k20 fun k21 r20 => ∃ s9, ∃ s10, ∃ s11, ∃ s12, some (Value.agg #[Value.string s9, Value.string s10, Value.string s11, Value.string s12]) = some r20 ∧
 (decide (((ByteArray.size s8 + ByteArray.size s9 : Nat) : Int) ≤ 9223372036854775807)) = true ∧
 ((decide (((ByteArray.size s5 + ByteArray.size (s8 ++ s9) : Nat) : Int) ≤ 9223372036854775807)) = true ∧
 (∀ k22, Up k21 k22 → ∃ m, m < m2 ∧ I2 m k22 [Value.string (s5 ++ (s8 ++ s9)), Value.int .i64 1])))))))) ∧
 (((n6 : Int) == 0) = false →
 ((((n6 : Int) == 1) = true →
 (∀ k23, Up k2 k23 → CallsG Tryz.prog 50 #[Value.agg cs2] k23 fun k24 r23 => ∃ b7, some (Value.bool b7) = some r23 ∧
 (b7 = true →
 (∀ k25, Up k24 k25 → ∃ m, m < m2 ∧ I2 m k25 [Value.string s5, Value.int .i64 2])) ∧
 (b7 = false →
 (((!(ByteArray.toList s5 == ByteArray.toList ⟨#[]⟩)) = true →
 (∀ k26, Up k24 k26 → CallsG Tryz.prog 51 #[Value.agg cs2] k26 fun k27 r26 => ∃ n8, some (Value.int .i64 n8) = some r26 ∧
 ((decide ((n8 : Int) > 0)) = true →
 ((decide (((ByteArray.size s5 + ByteArray.size ⟨#[43]⟩ : Nat) : Int) ≤ 9223372036854775807)) = true ∧
 (∀ k28, Up k27 k28 → CallsG Tryz.prog 52 #[Value.agg cs2] k28 fun k29 r28 => ∃ s9, some (Value.string s9) = some r28 ∧
 ∀ k30, Up k29 k30 → CallsG Tryz.prog 53 #[] k30 fun k31 r30 => ∃ s10, ∃ s11, ∃ s12, ∃ s13, some (Value.agg #[Value.string s10, Value.string s11, Value.string s12, Value.string s13]) = some r30 ∧
 (decide (((ByteArray.size s9 + ByteArray.size s11 : Nat) : Int) ≤ 9223372036854775807)) = true ∧
 ((decide (((ByteArray.size (s5 ++ ⟨#[43]⟩) + ByteArray.size (s9 ++ s11) : Nat) : Int) ≤ 9223372036854775807)) = true ∧
 (∀ k32, Up k31 k32 → ∃ m, m < m2 ∧ I2 m k32 [Value.string ((s5 ++ ⟨#[43]⟩) ++ (s9 ++ s11)), Value.int .i64 2]))))) ∧
 ((decide ((n8 : Int) > 0)) = false →
 (∀ k33, Up k27 k33 → CallsG Tryz.prog 52 #[Value.agg cs2] k33 fun k34 r33 => ∃ s9, some (Value.string s9) = some r33 ∧
 ∀ k35, Up k34 k35 → CallsG Tryz.prog 53 #[] k35 fun k36 r35 => ∃ s10, ∃ s11, ∃ s12, ∃ s13, some (Value.agg #[Value.string s10, Value.string s11, Value.string s12, Value.string s13]) = some r35 ∧
 (decide (((ByteArray.size s9 + ByteArray.size s11 : Nat) : Int) ≤ 9223372036854775807)) = true ∧
 ((decide (((ByteArray.size s5 + ByteArray.size (s9 ++ s11) : Nat) : Int) ≤ 9223372036854775807)) = true ∧
 (∀ k37, Up k36 k37 → ∃ m, m < m2 ∧ I2 m k37 [Value.string (s5 ++ (s9 ++ s11)), Value.int .i64 2])))))) ∧
 ((!(ByteArray.toList s5 == ByteArray.toList ⟨#[]⟩)) = false →
 (∀ k38, Up k24 k38 → CallsG Tryz.prog 52 #[Value.agg cs2] k38 fun k39 r38 => ∃ s8, some (Value.string s8) = some r38 ∧
 ∀ k40, Up k39 k40 → CallsG Tryz.prog 53 #[] k40 fun k41 r40 => ∃ s9, ∃ s10, ∃ s11, ∃ s12, some (Value.agg #[Value.string s9, Value.string s10, Value.string s11, Value.string s12]) = some r40 ∧
 (decide (((ByteArray.size s8 + ByteArray.size s10 : Nat) : Int) ≤ 9223372036854775807)) = true ∧
 ((decide (((ByteArray.size s5 + ByteArray.size (s8 ++ s10) : Nat) : Int) ≤ 9223372036854775807)) = true ∧
 (∀ k42, Up k41 k42 → ∃ m, m < m2 ∧ I2 m k42 [Value.string (s5 ++ (s8 ++ s10)), Value.int .i64 2])))))))) ∧
 (((n6 : Int) == 1) = false →
 ((((n6 : Int) == 2) = true →
 (∀ k43, Up k2 k43 → CallsG Tryz.prog 50 #[Value.agg cs3] k43 fun k44 r43 => ∃ b7, some (Value.bool b7) = some r43 ∧
 (b7 = true →
 (∀ k45, Up k44 k45 → ∃ m, m < m2 ∧ I2 m k45 [Value.string s5, Value.int .i64 3])) ∧
 (b7 = false →
 (((!(ByteArray.toList s5 == ByteArray.toList ⟨#[]⟩)) = true →
 (∀ k46, Up k44 k46 → CallsG Tryz.prog 51 #[Value.agg cs3] k46 fun k47 r46 => ∃ n8, some (Value.int .i64 n8) = some r46 ∧
 ((decide ((n8 : Int) > 0)) = true →
 ((decide (((ByteArray.size s5 + ByteArray.size ⟨#[43]⟩ : Nat) : Int) ≤ 9223372036854775807)) = true ∧
 (∀ k48, Up k47 k48 → CallsG Tryz.prog 52 #[Value.agg cs3] k48 fun k49 r48 => ∃ s9, some (Value.string s9) = some r48 ∧
 ∀ k50, Up k49 k50 → CallsG Tryz.prog 53 #[] k50 fun k51 r50 => ∃ s10, ∃ s11, ∃ s12, ∃ s13, some (Value.agg #[Value.string s10, Value.string s11, Value.string s12, Value.string s13]) = some r50 ∧
 (decide (((ByteArray.size s9 + ByteArray.size s12 : Nat) : Int) ≤ 9223372036854775807)) = true ∧
 ((decide (((ByteArray.size (s5 ++ ⟨#[43]⟩) + ByteArray.size (s9 ++ s12) : Nat) : Int) ≤ 9223372036854775807)) = true ∧
 (∀ k52, Up k51 k52 → ∃ m, m < m2 ∧ I2 m k52 [Value.string ((s5 ++ ⟨#[43]⟩) ++ (s9 ++ s12)), Value.int .i64 3]))))) ∧
 ((decide ((n8 : Int) > 0)) = false →
 (∀ k53, Up k47 k53 → CallsG Tryz.prog 52 #[Value.agg cs3] k53 fun k54 r53 => ∃ s9, some (Value.string s9) = some r53 ∧
 ∀ k55, Up k54 k55 → CallsG Tryz.prog 53 #[] k55 fun k56 r55 => ∃ s10, ∃ s11, ∃ s12, ∃ s13, some (Value.agg #[Value.string s10, Value.string s11, Value.string s12, Value.string s13]) = some r55 ∧
 (decide (((ByteArray.size s9 + ByteArray.size s12 : Nat) : Int) ≤ 9223372036854775807)) = true ∧
 ((decide (((ByteArray.size s5 + ByteArray.size (s9 ++ s12) : Nat) : Int) ≤ 9223372036854775807)) = true ∧
 (∀ k57, Up k56 k57 → ∃ m, m < m2 ∧ I2 m k57 [Value.string (s5 ++ (s9 ++ s12)), Value.int .i64 3])))))) ∧
 ((!(ByteArray.toList s5 == ByteArray.toList ⟨#[]⟩)) = false →
 (∀ k58, Up k44 k58 → CallsG Tryz.prog 52 #[Value.agg cs3] k58 fun k59 r58 => ∃ s8, some (Value.string s8) = some r58 ∧
 ∀ k60, Up k59 k60 → CallsG Tryz.prog 53 #[] k60 fun k61 r60 => ∃ s9, ∃ s10, ∃ s11, ∃ s12, some (Value.agg #[Value.string s9, Value.string s10, Value.string s11, Value.string s12]) = some r60 ∧
 (decide (((ByteArray.size s8 + ByteArray.size s11 : Nat) : Int) ≤ 9223372036854775807)) = true ∧
 ((decide (((ByteArray.size s5 + ByteArray.size (s8 ++ s11) : Nat) : Int) ≤ 9223372036854775807)) = true ∧
 (∀ k62, Up k61 k62 → ∃ m, m < m2 ∧ I2 m k62 [Value.string (s5 ++ (s8 ++ s11)), Value.int .i64 3])))))))) ∧
 (((n6 : Int) == 2) = false →
 ((((n6 : Int) == 3) = true →
 (∀ k63, Up k2 k63 → CallsG Tryz.prog 50 #[Value.agg cs4] k63 fun k64 r63 => ∃ b7, some (Value.bool b7) = some r63 ∧
 (b7 = true →
 (∀ k65, Up k64 k65 → ∃ m, m < m2 ∧ I2 m k65 [Value.string s5, Value.int .i64 4])) ∧
 (b7 = false →
 (((!(ByteArray.toList s5 == ByteArray.toList ⟨#[]⟩)) = true →
 (∀ k66, Up k64 k66 → CallsG Tryz.prog 51 #[Value.agg cs4] k66 fun k67 r66 => ∃ n8, some (Value.int .i64 n8) = some r66 ∧
 ((decide ((n8 : Int) > 0)) = true →
 ((decide (((ByteArray.size s5 + ByteArray.size ⟨#[43]⟩ : Nat) : Int) ≤ 9223372036854775807)) = true ∧
 (∀ k68, Up k67 k68 → CallsG Tryz.prog 52 #[Value.agg cs4] k68 fun k69 r68 => ∃ s9, some (Value.string s9) = some r68 ∧
 ∀ k70, Up k69 k70 → CallsG Tryz.prog 53 #[] k70 fun k71 r70 => ∃ s10, ∃ s11, ∃ s12, ∃ s13, some (Value.agg #[Value.string s10, Value.string s11, Value.string s12, Value.string s13]) = some r70 ∧
 (decide (((ByteArray.size s9 + ByteArray.size s13 : Nat) : Int) ≤ 9223372036854775807)) = true ∧
 ((decide (((ByteArray.size (s5 ++ ⟨#[43]⟩) + ByteArray.size (s9 ++ s13) : Nat) : Int) ≤ 9223372036854775807)) = true ∧
 (∀ k72, Up k71 k72 → ∃ m, m < m2 ∧ I2 m k72 [Value.string ((s5 ++ ⟨#[43]⟩) ++ (s9 ++ s13)), Value.int .i64 4]))))) ∧
 ((decide ((n8 : Int) > 0)) = false →
 (∀ k73, Up k67 k73 → CallsG Tryz.prog 52 #[Value.agg cs4] k73 fun k74 r73 => ∃ s9, some (Value.string s9) = some r73 ∧
 ∀ k75, Up k74 k75 → CallsG Tryz.prog 53 #[] k75 fun k76 r75 => ∃ s10, ∃ s11, ∃ s12, ∃ s13, some (Value.agg #[Value.string s10, Value.string s11, Value.string s12, Value.string s13]) = some r75 ∧
 (decide (((ByteArray.size s9 + ByteArray.size s13 : Nat) : Int) ≤ 9223372036854775807)) = true ∧
 ((decide (((ByteArray.size s5 + ByteArray.size (s9 ++ s13) : Nat) : Int) ≤ 9223372036854775807)) = true ∧
 (∀ k77, Up k76 k77 → ∃ m, m < m2 ∧ I2 m k77 [Value.string (s5 ++ (s9 ++ s13)), Value.int .i64 4])))))) ∧
 ((!(ByteArray.toList s5 == ByteArray.toList ⟨#[]⟩)) = false →
 (∀ k78, Up k64 k78 → CallsG Tryz.prog 52 #[Value.agg cs4] k78 fun k79 r78 => ∃ s8, some (Value.string s8) = some r78 ∧
 ∀ k80, Up k79 k80 → CallsG Tryz.prog 53 #[] k80 fun k81 r80 => ∃ s9, ∃ s10, ∃ s11, ∃ s12, some (Value.agg #[Value.string s9, Value.string s10, Value.string s11, Value.string s12]) = some r80 ∧
 (decide (((ByteArray.size s8 + ByteArray.size s12 : Nat) : Int) ≤ 9223372036854775807)) = true ∧
 ((decide (((ByteArray.size s5 + ByteArray.size (s8 ++ s12) : Nat) : Int) ≤ 9223372036854775807)) = true ∧
 (∀ k82, Up k81 k82 → ∃ m, m < m2 ∧ I2 m k82 [Value.string (s5 ++ (s8 ++ s12)), Value.int .i64 4])))))))) ∧
 (((n6 : Int) == 3) = false →
 ((((n6 : Int) == 4) = true →
 (((ByteArray.toList s5 == ByteArray.toList ⟨#[]⟩) = true →
 (∀ k83, Up k2 k83 → R k83 (Value.string ⟨#[48]⟩))) ∧
 ((ByteArray.toList s5 == ByteArray.toList ⟨#[]⟩) = false →
 (∀ k84, Up k2 k84 → R k84 (Value.string s5))))) ∧
 (((n6 : Int) == 4) = false →
 (False /- split -/))))))))))) :
    CallsG Tryz.prog 29 #[Value.agg cs0] k R :=
  execFn_use (cfg := { opq := [89, 32], loops := [(0, [.tmp 3 false [.str], .tmp 8 false [.int .i64]])], splits := [(0, 8, [0, 1, 2, 3, 4])] }) (args := [.agg [.seg 0 9]]) (vals := [Value.agg cs0]) (kinds := [.seg 9]) (by kernel_rfl) ⟨⟨cs0, rfl, hcs0⟩, trivial⟩ (by kernel_rfl) (by kernel_rfl) h
theorem marks_vc2
   (h : ∀ k0, Up k k0 → R k0 (Value.agg #[Value.string ⟨#[]⟩, Value.string ⟨#[114, 50]⟩, Value.string ⟨#[114, 51]⟩, Value.string ⟨#[114, 54]⟩])) :
   CallsG Tryz.prog 53 #[] k R :=
 execFn_use (cfg := { opq := [] }) (args := []) (vals := []) (kinds := []) (by kernel_rfl) trivial (by kernel_rfl) (by kernel_rfl) h
end Go.Proofs.YtimkcbikeocaeaaGreat
