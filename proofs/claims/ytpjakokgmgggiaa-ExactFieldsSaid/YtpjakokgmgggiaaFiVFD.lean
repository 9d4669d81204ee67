/- What is to be shown of the calls of some functions. (Printed by gen/vc.py.) -/
import Derived.Test.YtpjakokgmgggiaaProg
import Derived.Test.YtpjakokgmgggiaaFiSy14
namespace Go.Proofs.Ytpjakokgmgggiaa
open Go.RowKit
open Sy (Up Sees CallsG Seg execFn_use)
set_option maxRecDepth 100000
variable {k : World} {R : World → Value → Prop}
theorem fieldq_vc {cs0 cs1 cs2 : Array Value} (hcs0 : Seg 3 cs0) (hcs1 : Seg 3 cs1) (hcs2 : Seg 3 cs2)
    (h : ∀ k0, Up k k0 → CallsG Try.prog 107 #[Value.agg cs0, Value.agg cs1] k0 fun k1 r0 => ∃ cs3, Seg 3 cs3 ∧ some (Value.agg cs3) = some r0 ∧
 ∀ k2, Up k1 k2 → CallsG Try.prog 107 #[Value.agg cs1, Value.agg cs0] k2 fun k3 r2 => ∃ cs4, Seg 3 cs4 ∧ some (Value.agg cs4) = some r2 ∧
 ∀ k4, Up k3 k4 → CallsG Try.prog 26 #[Value.agg cs3, Value.agg cs4] k4 fun k5 r4 => ∃ b5, some (Value.bool b5) = some r4 ∧
 ((!b5) = true →
 (∀ k6, Up k5 k6 → R k6 (Value.bool false))) ∧
 ((!b5) = false →
 (∀ k7, Up k5 k7 → CallsG Try.prog 153 #[Value.agg cs0, Value.agg cs1] k7 fun k8 r7 => ∃ cs6, Seg 3 cs6 ∧ some (Value.agg cs6) = some r7 ∧
 ∀ k9, Up k8 k9 → CallsG Try.prog 153 #[Value.agg cs1, Value.agg cs0] k9 fun k10 r9 => ∃ cs7, Seg 3 cs7 ∧ some (Value.agg cs7) = some r9 ∧
 ∀ k11, Up k10 k11 → CallsG Try.prog 26 #[Value.agg cs6, Value.agg cs7] k11 fun k12 r11 => ∃ b8, some (Value.bool b8) = some r11 ∧
 ((!b8) = true →
 (∀ k13, Up k12 k13 → R k13 (Value.bool false))) ∧
 ((!b8) = false →
 (∀ k14, Up k12 k14 → CallsG Try.prog 107 #[Value.agg cs0, Value.agg cs1] k14 fun k15 r14 => ∃ cs9, Seg 3 cs9 ∧ some (Value.agg cs9) = some r14 ∧
 ∀ k16, Up k15 k16 → CallsG Try.prog 107 #[Value.agg cs9, Value.agg cs2] k16 fun k17 r16 => ∃ cs10, Seg 3 cs10 ∧ some (Value.agg cs10) = some r16 ∧
 ∀ k18, Up k17 k18 → CallsG Try.prog 107 #[Value.agg cs1, Value.agg cs2] k18 fun k19 r18 => ∃ cs11, Seg 3 cs11 ∧ some (Value.agg cs11) = some r18 ∧
 ∀ k20, Up k19 k20 → CallsG Try.prog 107 #[Value.agg cs0, Value.agg cs11] k20 fun k21 r20 => ∃ cs12, Seg 3 cs12 ∧ some (Value.agg cs12) = some r20 ∧
 ∀ k22, Up k21 k22 → CallsG Try.prog 26 #[Value.agg cs10, Value.agg cs12] k22 fun k23 r22 => ∃ b13, some (Value.bool b13) = some r22 ∧
 ((!b13) = true →
 (∀ k24, Up k23 k24 → R k24 (Value.bool false))) ∧
 ((!b13) = false →
 (∀ k25, Up k23 k25 → CallsG Try.prog 153 #[Value.agg cs0, Value.agg cs1] k25 fun k26 r25 => ∃ cs14, Seg 3 cs14 ∧ some (Value.agg cs14) = some r25 ∧
 ∀ k27, Up k26 k27 → CallsG Try.prog 153 #[Value.agg cs14, Value.agg cs2] k27 fun k28 r27 => ∃ cs15, Seg 3 cs15 ∧ some (Value.agg cs15) = some r27 ∧
 ∀ k29, Up k28 k29 → CallsG Try.prog 153 #[Value.agg cs1, Value.agg cs2] k29 fun k30 r29 => ∃ cs16, Seg 3 cs16 ∧ some (Value.agg cs16) = some r29 ∧
 ∀ k31, Up k30 k31 → CallsG Try.prog 153 #[Value.agg cs0, Value.agg cs16] k31 fun k32 r31 => ∃ cs17, Seg 3 cs17 ∧ some (Value.agg cs17) = some r31 ∧
 ∀ k33, Up k32 k33 → CallsG Try.prog 26 #[Value.agg cs15, Value.agg cs17] k33 fun k34 r33 => ∃ b18, some (Value.bool b18) = some r33 ∧
 ((!b18) = true →
 (∀ k35, Up k34 k35 → R k35 (Value.bool false))) ∧
 ((!b18) = false →
 (∀ k36, Up k34 k36 → CallsG Try.prog 107 #[Value.agg cs0, Value.agg cs1] k36 fun k37 r36 => ∃ cs19, Seg 3 cs19 ∧ some (Value.agg cs19) = some r36 ∧
 ∀ k38, Up k37 k38 → CallsG Try.prog 153 #[Value.agg cs19, Value.agg cs2] k38 fun k39 r38 => ∃ cs20, Seg 3 cs20 ∧ some (Value.agg cs20) = some r38 ∧
 ∀ k40, Up k39 k40 → CallsG Try.prog 153 #[Value.agg cs0, Value.agg cs2] k40 fun k41 r40 => ∃ cs21, Seg 3 cs21 ∧ some (Value.agg cs21) = some r40 ∧
 ∀ k42, Up k41 k42 → CallsG Try.prog 153 #[Value.agg cs1, Value.agg cs2] k42 fun k43 r42 => ∃ cs22, Seg 3 cs22 ∧ some (Value.agg cs22) = some r42 ∧
 ∀ k44, Up k43 k44 → CallsG Try.prog 107 #[Value.agg cs21, Value.agg cs22] k44 fun k45 r44 => ∃ cs23, Seg 3 cs23 ∧ some (Value.agg cs23) = some r44 ∧
 ∀ k46, Up k45 k46 → CallsG Try.prog 26 #[Value.agg cs20, Value.agg cs23] k46 fun k47 r46 => ∃ b24, some (Value.bool b24) = some r46 ∧
 ((!b24) = true →
 (∀ k48, Up k47 k48 → R k48 (Value.bool false))) ∧
 ((!b24) = false →
 (∀ k49, Up k47 k49 → CallsG Try.prog 74 #[Value.agg cs0, Value.agg cs1] k49 fun k50 r49 => ∃ cs25, Seg 3 cs25 ∧ some (Value.agg cs25) = some r49 ∧
 ∀ k51, Up k50 k51 → CallsG Try.prog 107 #[Value.agg cs25, Value.agg cs1] k51 fun k52 r51 => ∃ cs26, Seg 3 cs26 ∧ some (Value.agg cs26) = some r51 ∧
 ∀ k53, Up k52 k53 → CallsG Try.prog 26 #[Value.agg cs26, Value.agg cs0] k53 fun k54 r53 => ∃ b27, some (Value.bool b27) = some r53 ∧
 ((!b27) = true →
 (∀ k55, Up k54 k55 → R k55 (Value.bool false))) ∧
 ((!b27) = false →
 (∀ k56, Up k54 k56 → CallsG Try.prog 108 #[Value.agg cs0] k56 fun k57 r56 => ∃ cs28, Seg 3 cs28 ∧ some (Value.agg cs28) = some r56 ∧
 ∀ k58, Up k57 k58 → CallsG Try.prog 107 #[Value.agg cs28, Value.agg cs0] k58 fun k59 r58 => ∃ cs29, Seg 3 cs29 ∧ some (Value.agg cs29) = some r58 ∧
 ∀ k60, Up k59 k60 → CallsG Try.prog 18 #[Value.agg cs29] k60 fun k61 r60 => ∃ b30, some (Value.bool b30) = some r60 ∧
 ((!b30) = true →
 (∀ k62, Up k61 k62 → R k62 (Value.bool false))) ∧
 ((!b30) = false →
 (∀ k63, Up k61 k63 → CallsG Try.prog 153 #[Value.agg cs0, Value.agg cs1] k63 fun k64 r63 => ∃ cs31, Seg 3 cs31 ∧ some (Value.agg cs31) = some r63 ∧
 ∀ k65, Up k64 k65 → CallsG Try.prog 151 #[Value.agg cs31] k65 fun k66 r65 => ∃ cs32, Seg 3 cs32 ∧ some (Value.agg cs32) = some r65 ∧
 ∀ k67, Up k66 k67 → CallsG Try.prog 151 #[Value.agg cs0] k67 fun k68 r67 => ∃ cs33, Seg 3 cs33 ∧ some (Value.agg cs33) = some r67 ∧
 ∀ k69, Up k68 k69 → CallsG Try.prog 151 #[Value.agg cs1] k69 fun k70 r69 => ∃ cs34, Seg 3 cs34 ∧ some (Value.agg cs34) = some r69 ∧
 ∀ k71, Up k70 k71 → CallsG Try.prog 153 #[Value.agg cs33, Value.agg cs34] k71 fun k72 r71 => ∃ cs35, Seg 3 cs35 ∧ some (Value.agg cs35) = some r71 ∧
 ∀ k73, Up k72 k73 → CallsG Try.prog 26 #[Value.agg cs32, Value.agg cs35] k73 fun k74 r73 => ∃ b36, some (Value.bool b36) = some r73 ∧
 ((!b36) = true →
 (∀ k75, Up k74 k75 → R k75 (Value.bool false))) ∧
 ((!b36) = false →
 (∀ k76, Up k74 k76 → CallsG Try.prog 152 #[Value.agg cs0, Value.agg cs1] k76 fun k77 r76 => ∃ cs37, Seg 3 cs37 ∧ ∃ n38, some (Value.tuple #[Value.agg cs37, Value.int .i64 n38]) = some r76 ∧
 ∀ k78, Up k77 k78 → CallsG Try.prog 18 #[Value.agg cs1] k78 fun k79 r78 => ∃ b39, some (Value.bool b39) = some r78 ∧
 ((b39 == ((n38 : Int) == 3)) = true →
 ((((n38 : Int) != 0) = true →
 (∀ k80, Up k79 k80 → R k80 (Value.bool true))) ∧
 (((n38 : Int) != 0) = false →
 (∀ k81, Up k79 k81 → CallsG Try.prog 153 #[Value.agg cs37, Value.agg cs1] k81 fun k82 r81 => ∃ cs40, Seg 3 cs40 ∧ some (Value.agg cs40) = some r81 ∧
 ∀ k83, Up k82 k83 → CallsG Try.prog 26 #[Value.agg cs40, Value.agg cs0] k83 fun k84 r83 => ∃ b41, some (Value.bool b41) = some r83 ∧
 ∀ k85, Up k84 k85 → R k85 (Value.bool b41))))) ∧
 ((b39 == ((n38 : Int) == 3)) = false →
 (∀ k86, Up k79 k86 → R k86 (Value.bool false)))))))))))))))))))) :
    CallsG Try.prog 30 #[Value.agg cs0, Value.agg cs1, Value.agg cs2] k R :=
  execFn_use (cfg := { opq := [28] }) (args := [.agg [.seg 0 3], .agg [.seg 1 3], .agg [.seg 2 3]]) (vals := [Value.agg cs0, Value.agg cs1, Value.agg cs2]) (kinds := [.seg 3, .seg 3, .seg 3]) (by kernel_rfl) ⟨⟨cs0, rfl, hcs0⟩, ⟨⟨cs1, rfl, hcs1⟩, ⟨⟨cs2, rfl, hcs2⟩, trivial⟩⟩⟩ (by kernel_rfl) (by kernel_rfl) h
theorem fields_vc {cs0 cs1 cs2 : Array Value} (hcs0 : Seg 9 cs0) (hcs1 : Seg 9 cs1) (hcs2 : Seg 9 cs2)
    (h : ∀ k0, Up k k0 → CallsG Try.prog 75 #[Value.agg cs0, Value.agg cs1] k0 fun k1 r0 => ∃ cs3, Seg 9 cs3 ∧ some (Value.agg cs3) = some r0 ∧
 ∀ k2, Up k1 k2 → CallsG Try.prog 75 #[Value.agg cs1, Value.agg cs0] k2 fun k3 r2 => ∃ cs4, Seg 9 cs4 ∧ some (Value.agg cs4) = some r2 ∧
 ∀ k4, Up k3 k4 → CallsG Try.prog 24 #[Value.agg cs3, Value.agg cs4] k4 fun k5 r4 => ∃ b5, some (Value.bool b5) = some r4 ∧
 ((!b5) = true →
 (∀ k6, Up k5 k6 → R k6 (Value.bool false))) ∧
 ((!b5) = false →
 (∀ k7, Up k5 k7 → CallsG Try.prog 42 #[Value.agg cs0, Value.agg cs1] k7 fun k8 r7 => ∃ cs6, Seg 9 cs6 ∧ some (Value.agg cs6) = some r7 ∧
 ∀ k9, Up k8 k9 → CallsG Try.prog 42 #[Value.agg cs1, Value.agg cs0] k9 fun k10 r9 => ∃ cs7, Seg 9 cs7 ∧ some (Value.agg cs7) = some r9 ∧
 ∀ k11, Up k10 k11 → CallsG Try.prog 24 #[Value.agg cs6, Value.agg cs7] k11 fun k12 r11 => ∃ b8, some (Value.bool b8) = some r11 ∧
 ((!b8) = true →
 (∀ k13, Up k12 k13 → R k13 (Value.bool false))) ∧
 ((!b8) = false →
 (∀ k14, Up k12 k14 → CallsG Try.prog 75 #[Value.agg cs0, Value.agg cs1] k14 fun k15 r14 => ∃ cs9, Seg 9 cs9 ∧ some (Value.agg cs9) = some r14 ∧
 ∀ k16, Up k15 k16 → CallsG Try.prog 75 #[Value.agg cs9, Value.agg cs2] k16 fun k17 r16 => ∃ cs10, Seg 9 cs10 ∧ some (Value.agg cs10) = some r16 ∧
 ∀ k18, Up k17 k18 → CallsG Try.prog 75 #[Value.agg cs1, Value.agg cs2] k18 fun k19 r18 => ∃ cs11, Seg 9 cs11 ∧ some (Value.agg cs11) = some r18 ∧
 ∀ k20, Up k19 k20 → CallsG Try.prog 75 #[Value.agg cs0, Value.agg cs11] k20 fun k21 r20 => ∃ cs12, Seg 9 cs12 ∧ some (Value.agg cs12) = some r20 ∧
 ∀ k22, Up k21 k22 → CallsG Try.prog 24 #[Value.agg cs10, Value.agg cs12] k22 fun k23 r22 => ∃ b13, some (Value.bool b13) = some r22 ∧
 ((!b13) = true →
 (∀ k24, Up k23 k24 → R k24 (Value.bool false))) ∧
 ((!b13) = false →
 (∀ k25, Up k23 k25 → CallsG Try.prog 42 #[Value.agg cs0, Value.agg cs1] k25 fun k26 r25 => ∃ cs14, Seg 9 cs14 ∧ some (Value.agg cs14) = some r25 ∧
 ∀ k27, Up k26 k27 → CallsG Try.prog 42 #[Value.agg cs14, Value.agg cs2] k27 fun k28 r27 => ∃ cs15, Seg 9 cs15 ∧ some (Value.agg cs15) = some r27 ∧
 ∀ k29, Up k28 k29 → CallsG Try.prog 42 #[Value.agg cs1, Value.agg cs2] k29 fun k30 r29 => ∃ cs16, Seg 9 cs16 ∧ some (Value.agg cs16) = some r29 ∧
 ∀ k31, Up k30 k31 → CallsG Try.prog 42 #[Value.agg cs0, Value.agg cs16] k31 fun k32 r31 => ∃ cs17, Seg 9 cs17 ∧ some (Value.agg cs17) = some r31 ∧
 ∀ k33, Up k32 k33 → CallsG Try.prog 24 #[Value.agg cs15, Value.agg cs17] k33 fun k34 r33 => ∃ b18, some (Value.bool b18) = some r33 ∧
 ((!b18) = true →
 (∀ k35, Up k34 k35 → R k35 (Value.bool false))) ∧
 ((!b18) = false →
 (∀ k36, Up k34 k36 → CallsG Try.prog 75 #[Value.agg cs0, Value.agg cs1] k36 fun k37 r36 => ∃ cs19, Seg 9 cs19 ∧ some (Value.agg cs19) = some r36 ∧
 ∀ k38, Up k37 k38 → CallsG Try.prog 42 #[Value.agg cs19, Value.agg cs2] k38 fun k39 r38 => ∃ cs20, Seg 9 cs20 ∧ some (Value.agg cs20) = some r38 ∧
 ∀ k40, Up k39 k40 → CallsG Try.prog 42 #[Value.agg cs0, Value.agg cs2] k40 fun k41 r40 => ∃ cs21, Seg 9 cs21 ∧ some (Value.agg cs21) = some r40 ∧
 ∀ k42, Up k41 k42 → CallsG Try.prog 42 #[Value.agg cs1, Value.agg cs2] k42 fun k43 r42 => ∃ cs22, Seg 9 cs22 ∧ some (Value.agg cs22) = some r42 ∧
 ∀ k44, Up k43 k44 → CallsG Try.prog 75 #[Value.agg cs21, Value.agg cs22] k44 fun k45 r44 => ∃ cs23, Seg 9 cs23 ∧ some (Value.agg cs23) = some r44 ∧
 ∀ k46, Up k45 k46 → CallsG Try.prog 24 #[Value.agg cs20, Value.agg cs23] k46 fun k47 r46 => ∃ b24, some (Value.bool b24) = some r46 ∧
 ((!b24) = true →
 (∀ k48, Up k47 k48 → R k48 (Value.bool false))) ∧
 ((!b24) = false →
 (∀ k49, Up k47 k49 → CallsG Try.prog 60 #[Value.agg cs0, Value.agg cs1] k49 fun k50 r49 => ∃ cs25, Seg 9 cs25 ∧ some (Value.agg cs25) = some r49 ∧
 ∀ k51, Up k50 k51 → CallsG Try.prog 75 #[Value.agg cs25, Value.agg cs1] k51 fun k52 r51 => ∃ cs26, Seg 9 cs26 ∧ some (Value.agg cs26) = some r51 ∧
 ∀ k53, Up k52 k53 → CallsG Try.prog 24 #[Value.agg cs26, Value.agg cs0] k53 fun k54 r53 => ∃ b27, some (Value.bool b27) = some r53 ∧
 ((!b27) = true →
 (∀ k55, Up k54 k55 → R k55 (Value.bool false))) ∧
 ((!b27) = false →
 (∀ k56, Up k54 k56 → CallsG Try.prog 90 #[Value.agg cs0] k56 fun k57 r56 => ∃ cs28, Seg 9 cs28 ∧ some (Value.agg cs28) = some r56 ∧
 ∀ k58, Up k57 k58 → CallsG Try.prog 75 #[Value.agg cs28, Value.agg cs0] k58 fun k59 r58 => ∃ cs29, Seg 9 cs29 ∧ some (Value.agg cs29) = some r58 ∧
 ∀ k60, Up k59 k60 → CallsG Try.prog 61 #[Value.agg cs29] k60 fun k61 r60 => ∃ b30, some (Value.bool b30) = some r60 ∧
 ((!b30) = true →
 (∀ k62, Up k61 k62 → R k62 (Value.bool false))) ∧
 ((!b30) = false →
 (∀ k63, Up k61 k63 → CallsG Try.prog 42 #[Value.agg cs0, Value.agg cs1] k63 fun k64 r63 => ∃ cs31, Seg 9 cs31 ∧ some (Value.agg cs31) = some r63 ∧
 ∀ k65, Up k64 k65 → CallsG Try.prog 156 #[Value.agg cs31] k65 fun k66 r65 => ∃ cs32, Seg 9 cs32 ∧ some (Value.agg cs32) = some r65 ∧
 ∀ k67, Up k66 k67 → CallsG Try.prog 156 #[Value.agg cs0] k67 fun k68 r67 => ∃ cs33, Seg 9 cs33 ∧ some (Value.agg cs33) = some r67 ∧
 ∀ k69, Up k68 k69 → CallsG Try.prog 156 #[Value.agg cs1] k69 fun k70 r69 => ∃ cs34, Seg 9 cs34 ∧ some (Value.agg cs34) = some r69 ∧
 ∀ k71, Up k70 k71 → CallsG Try.prog 42 #[Value.agg cs33, Value.agg cs34] k71 fun k72 r71 => ∃ cs35, Seg 9 cs35 ∧ some (Value.agg cs35) = some r71 ∧
 ∀ k73, Up k72 k73 → CallsG Try.prog 24 #[Value.agg cs32, Value.agg cs35] k73 fun k74 r73 => ∃ b36, some (Value.bool b36) = some r73 ∧
 ((!b36) = true →
 (∀ k75, Up k74 k75 → R k75 (Value.bool false))) ∧
 ((!b36) = false →
 (∀ k76, Up k74 k76 → CallsG Try.prog 47 #[Value.agg cs0, Value.agg cs1] k76 fun k77 r76 => ∃ cs37, Seg 9 cs37 ∧ ∃ n38, some (Value.tuple #[Value.agg cs37, Value.int .i64 n38]) = some r76 ∧
 ∀ k78, Up k77 k78 → CallsG Try.prog 61 #[Value.agg cs1] k78 fun k79 r78 => ∃ b39, some (Value.bool b39) = some r78 ∧
 ((b39 == ((n38 : Int) == 3)) = true →
 ((((n38 : Int) != 0) = true →
 (∀ k80, Up k79 k80 → R k80 (Value.bool true))) ∧
 (((n38 : Int) != 0) = false →
 (∀ k81, Up k79 k81 → CallsG Try.prog 42 #[Value.agg cs37, Value.agg cs1] k81 fun k82 r81 => ∃ cs40, Seg 9 cs40 ∧ some (Value.agg cs40) = some r81 ∧
 ∀ k83, Up k82 k83 → CallsG Try.prog 24 #[Value.agg cs40, Value.agg cs0] k83 fun k84 r83 => ∃ b41, some (Value.bool b41) = some r83 ∧
 ∀ k85, Up k84 k85 → R k85 (Value.bool b41))))) ∧
 ((b39 == ((n38 : Int) == 3)) = false →
 (∀ k86, Up k79 k86 → R k86 (Value.bool false)))))))))))))))))))) :
    CallsG Try.prog 31 #[Value.agg cs0, Value.agg cs1, Value.agg cs2] k R :=
  execFn_use (cfg := { opq := [53] }) (args := [.agg [.seg 0 9], .agg [.seg 1 9], .agg [.seg 2 9]]) (vals := [Value.agg cs0, Value.agg cs1, Value.agg cs2]) (kinds := [.seg 9, .seg 9, .seg 9]) (by kernel_rfl) ⟨⟨cs0, rfl, hcs0⟩, ⟨⟨cs1, rfl, hcs1⟩, ⟨⟨cs2, rfl, hcs2⟩, trivial⟩⟩⟩ (by kernel_rfl) (by kernel_rfl) h
theorem fieldw_vc {cs0 cs1 cs2 : Array Value} (hcs0 : Seg 18 cs0) (hcs1 : Seg 18 cs1) (hcs2 : Seg 18 cs2)
    (h : ∀ k0, Up k k0 → CallsG Try.prog 158 #[Value.agg cs0, Value.agg cs1] k0 fun k1 r0 => ∃ cs3, Seg 18 cs3 ∧ some (Value.agg cs3) = some r0 ∧
 ∀ k2, Up k1 k2 → CallsG Try.prog 158 #[Value.agg cs1, Value.agg cs0] k2 fun k3 r2 => ∃ cs4, Seg 18 cs4 ∧ some (Value.agg cs4) = some r2 ∧
 ∀ k4, Up k3 k4 → CallsG Try.prog 163 #[Value.agg cs3, Value.agg cs4] k4 fun k5 r4 => ∃ b5, some (Value.bool b5) = some r4 ∧
 ((!b5) = true →
 (∀ k6, Up k5 k6 → R k6 (Value.bool false))) ∧
 ((!b5) = false →
 (∀ k7, Up k5 k7 → CallsG Try.prog 40 #[Value.agg cs0, Value.agg cs1] k7 fun k8 r7 => ∃ cs6, Seg 18 cs6 ∧ some (Value.agg cs6) = some r7 ∧
 ∀ k9, Up k8 k9 → CallsG Try.prog 40 #[Value.agg cs1, Value.agg cs0] k9 fun k10 r9 => ∃ cs7, Seg 18 cs7 ∧ some (Value.agg cs7) = some r9 ∧
 ∀ k11, Up k10 k11 → CallsG Try.prog 163 #[Value.agg cs6, Value.agg cs7] k11 fun k12 r11 => ∃ b8, some (Value.bool b8) = some r11 ∧
 ((!b8) = true →
 (∀ k13, Up k12 k13 → R k13 (Value.bool false))) ∧
 ((!b8) = false →
 (∀ k14, Up k12 k14 → CallsG Try.prog 158 #[Value.agg cs0, Value.agg cs1] k14 fun k15 r14 => ∃ cs9, Seg 18 cs9 ∧ some (Value.agg cs9) = some r14 ∧
 ∀ k16, Up k15 k16 → CallsG Try.prog 158 #[Value.agg cs9, Value.agg cs2] k16 fun k17 r16 => ∃ cs10, Seg 18 cs10 ∧ some (Value.agg cs10) = some r16 ∧
 ∀ k18, Up k17 k18 → CallsG Try.prog 158 #[Value.agg cs1, Value.agg cs2] k18 fun k19 r18 => ∃ cs11, Seg 18 cs11 ∧ some (Value.agg cs11) = some r18 ∧
 ∀ k20, Up k19 k20 → CallsG Try.prog 158 #[Value.agg cs0, Value.agg cs11] k20 fun k21 r20 => ∃ cs12, Seg 18 cs12 ∧ some (Value.agg cs12) = some r20 ∧
 ∀ k22, Up k21 k22 → CallsG Try.prog 163 #[Value.agg cs10, Value.agg cs12] k22 fun k23 r22 => ∃ b13, some (Value.bool b13) = some r22 ∧
 ((!b13) = true →
 (∀ k24, Up k23 k24 → R k24 (Value.bool false))) ∧
 ((!b13) = false →
 (∀ k25, Up k23 k25 → CallsG Try.prog 40 #[Value.agg cs0, Value.agg cs1] k25 fun k26 r25 => ∃ cs14, Seg 18 cs14 ∧ some (Value.agg cs14) = some r25 ∧
 ∀ k27, Up k26 k27 → CallsG Try.prog 40 #[Value.agg cs14, Value.agg cs2] k27 fun k28 r27 => ∃ cs15, Seg 18 cs15 ∧ some (Value.agg cs15) = some r27 ∧
 ∀ k29, Up k28 k29 → CallsG Try.prog 40 #[Value.agg cs1, Value.agg cs2] k29 fun k30 r29 => ∃ cs16, Seg 18 cs16 ∧ some (Value.agg cs16) = some r29 ∧
 ∀ k31, Up k30 k31 → CallsG Try.prog 40 #[Value.agg cs0, Value.agg cs16] k31 fun k32 r31 => ∃ cs17, Seg 18 cs17 ∧ some (Value.agg cs17) = some r31 ∧
 ∀ k33, Up k32 k33 → CallsG Try.prog 163 #[Value.agg cs15, Value.agg cs17] k33 fun k34 r33 => ∃ b18, some (Value.bool b18) = some r33 ∧
 ((!b18) = true →
 (∀ k35, Up k34 k35 → R k35 (Value.bool false))) ∧
 ((!b18) = false →
 (∀ k36, Up k34 k36 → CallsG Try.prog 158 #[Value.agg cs0, Value.agg cs1] k36 fun k37 r36 => ∃ cs19, Seg 18 cs19 ∧ some (Value.agg cs19) = some r36 ∧
 ∀ k38, Up k37 k38 → CallsG Try.prog 40 #[Value.agg cs19, Value.agg cs2] k38 fun k39 r38 => ∃ cs20, Seg 18 cs20 ∧ some (Value.agg cs20) = some r38 ∧
 ∀ k40, Up k39 k40 → CallsG Try.prog 40 #[Value.agg cs0, Value.agg cs2] k40 fun k41 r40 => ∃ cs21, Seg 18 cs21 ∧ some (Value.agg cs21) = some r40 ∧
 ∀ k42, Up k41 k42 → CallsG Try.prog 40 #[Value.agg cs1, Value.agg cs2] k42 fun k43 r42 => ∃ cs22, Seg 18 cs22 ∧ some (Value.agg cs22) = some r42 ∧
 ∀ k44, Up k43 k44 → CallsG Try.prog 158 #[Value.agg cs21, Value.agg cs22] k44 fun k45 r44 => ∃ cs23, Seg 18 cs23 ∧ some (Value.agg cs23) = some r44 ∧
 ∀ k46, Up k45 k46 → CallsG Try.prog 163 #[Value.agg cs20, Value.agg cs23] k46 fun k47 r46 => ∃ b24, some (Value.bool b24) = some r46 ∧
 ((!b24) = true →
 (∀ k48, Up k47 k48 → R k48 (Value.bool false))) ∧
 ((!b24) = false →
 (∀ k49, Up k47 k49 → CallsG Try.prog 164 #[Value.agg cs0, Value.agg cs1] k49 fun k50 r49 => ∃ cs25, Seg 18 cs25 ∧ some (Value.agg cs25) = some r49 ∧
 ∀ k51, Up k50 k51 → CallsG Try.prog 158 #[Value.agg cs25, Value.agg cs1] k51 fun k52 r51 => ∃ cs26, Seg 18 cs26 ∧ some (Value.agg cs26) = some r51 ∧
 ∀ k53, Up k52 k53 → CallsG Try.prog 163 #[Value.agg cs26, Value.agg cs0] k53 fun k54 r53 => ∃ b27, some (Value.bool b27) = some r53 ∧
 ((!b27) = true →
 (∀ k55, Up k54 k55 → R k55 (Value.bool false))) ∧
 ((!b27) = false →
 (∀ k56, Up k54 k56 → CallsG Try.prog 162 #[Value.agg cs0] k56 fun k57 r56 => ∃ cs28, Seg 18 cs28 ∧ some (Value.agg cs28) = some r56 ∧
 ∀ k58, Up k57 k58 → CallsG Try.prog 158 #[Value.agg cs28, Value.agg cs0] k58 fun k59 r58 => ∃ cs29, Seg 18 cs29 ∧ some (Value.agg cs29) = some r58 ∧
 ∀ k60, Up k59 k60 → CallsG Try.prog 165 #[Value.agg cs29] k60 fun k61 r60 => ∃ b30, some (Value.bool b30) = some r60 ∧
 ((!b30) = true →
 (∀ k62, Up k61 k62 → R k62 (Value.bool false))) ∧
 ((!b30) = false →
 (∀ k63, Up k61 k63 → CallsG Try.prog 40 #[Value.agg cs0, Value.agg cs1] k63 fun k64 r63 => ∃ cs31, Seg 18 cs31 ∧ some (Value.agg cs31) = some r63 ∧
 ∀ k65, Up k64 k65 → CallsG Try.prog 159 #[Value.agg cs31] k65 fun k66 r65 => ∃ cs32, Seg 18 cs32 ∧ some (Value.agg cs32) = some r65 ∧
 ∀ k67, Up k66 k67 → CallsG Try.prog 159 #[Value.agg cs0] k67 fun k68 r67 => ∃ cs33, Seg 18 cs33 ∧ some (Value.agg cs33) = some r67 ∧
 ∀ k69, Up k68 k69 → CallsG Try.prog 159 #[Value.agg cs1] k69 fun k70 r69 => ∃ cs34, Seg 18 cs34 ∧ some (Value.agg cs34) = some r69 ∧
 ∀ k71, Up k70 k71 → CallsG Try.prog 40 #[Value.agg cs33, Value.agg cs34] k71 fun k72 r71 => ∃ cs35, Seg 18 cs35 ∧ some (Value.agg cs35) = some r71 ∧
 ∀ k73, Up k72 k73 → CallsG Try.prog 163 #[Value.agg cs32, Value.agg cs35] k73 fun k74 r73 => ∃ b36, some (Value.bool b36) = some r73 ∧
 ((!b36) = true →
 (∀ k75, Up k74 k75 → R k75 (Value.bool false))) ∧
 ((!b36) = false →
 (∀ k76, Up k74 k76 → CallsG Try.prog 160 #[Value.agg cs0, Value.agg cs1] k76 fun k77 r76 => ∃ cs37, Seg 18 cs37 ∧ ∃ n38, some (Value.tuple #[Value.agg cs37, Value.int .i64 n38]) = some r76 ∧
 ∀ k78, Up k77 k78 → CallsG Try.prog 165 #[Value.agg cs1] k78 fun k79 r78 => ∃ b39, some (Value.bool b39) = some r78 ∧
 ((b39 == ((n38 : Int) == 3)) = true →
 ((((n38 : Int) != 0) = true →
 (∀ k80, Up k79 k80 → R k80 (Value.bool true))) ∧
 (((n38 : Int) != 0) = false →
 (∀ k81, Up k79 k81 → CallsG Try.prog 40 #[Value.agg cs37, Value.agg cs1] k81 fun k82 r81 => ∃ cs40, Seg 18 cs40 ∧ some (Value.agg cs40) = some r81 ∧
 ∀ k83, Up k82 k83 → CallsG Try.prog 163 #[Value.agg cs40, Value.agg cs0] k83 fun k84 r83 => ∃ b41, some (Value.bool b41) = some r83 ∧
 ∀ k85, Up k84 k85 → R k85 (Value.bool b41))))) ∧
 ((b39 == ((n38 : Int) == 3)) = false →
 (∀ k86, Up k79 k86 → R k86 (Value.bool false)))))))))))))))))))) :
    CallsG Try.prog 32 #[Value.agg cs0, Value.agg cs1, Value.agg cs2] k R :=
  execFn_use (cfg := { opq := [69] }) (args := [.agg [.seg 0 18], .agg [.seg 1 18], .agg [.seg 2 18]]) (vals := [Value.agg cs0, Value.agg cs1, Value.agg cs2]) (kinds := [.seg 18, .seg 18, .seg 18]) (by kernel_rfl) ⟨⟨cs0, rfl, hcs0⟩, ⟨⟨cs1, rfl, hcs1⟩, ⟨⟨cs2, rfl, hcs2⟩, trivial⟩⟩⟩ (by kernel_rfl) (by kernel_rfl) h
theorem fieldlaw_vc {n0 n1 n2 n3 n4 n5 n6 n7 n8 n9 n10 n11 n12 n13 n14 n15 n16 n17 n18 n19 n20 n21 n22 n23 n24 n25 n26 n27 n28 n29 n30 n31 n32 n33 n34 n35 n36 n37 n38 n39 n40 n41 n42 n43 n44 n45 n46 n47 : Int}
    (h : ∀ k0, Up k k0 → CallsG Try.prog 9 #[] k0 fun k1 r0 => ∃ b48, some (Value.bool b48) = some r0 ∧
 ((!b48) = true →
 (∀ k2, Up k1 k2 → CallsG Try.prog 9 #[] k2 fun k3 r2 => ∃ b49, some (Value.bool b49) = some r2 ∧
 ∀ k4, Up k3 k4 → R k4 (Value.bool b49))) ∧
 ((!b48) = false →
 (∀ k5, Up k1 k5 → CallsG Try.prog 29 #[Value.agg #[Value.int .i64 n0, Value.int .i64 n1, Value.int .i64 n2, Value.int .i64 n3, Value.int .i64 n4, Value.int .i64 n5, Value.int .i64 n6, Value.int .i64 n7, Value.int .i64 n8, Value.int .i64 n9, Value.int .i64 n10, Value.int .i64 n11, Value.int .i64 n12, Value.int .i64 n13, Value.int .i64 n14, Value.int .i64 n15]] k5 fun k6 r5 => ∃ b49, some (Value.bool b49) = some r5 ∧
 ((!b49) = true →
 (∀ k7, Up k6 k7 → CallsG Try.prog 9 #[] k7 fun k8 r7 => ∃ b50, some (Value.bool b50) = some r7 ∧
 ∀ k9, Up k8 k9 → R k9 (Value.bool b50))) ∧
 ((!b49) = false →
 (∀ k10, Up k6 k10 → CallsG Try.prog 29 #[Value.agg #[Value.int .i64 n16, Value.int .i64 n17, Value.int .i64 n18, Value.int .i64 n19, Value.int .i64 n20, Value.int .i64 n21, Value.int .i64 n22, Value.int .i64 n23, Value.int .i64 n24, Value.int .i64 n25, Value.int .i64 n26, Value.int .i64 n27, Value.int .i64 n28, Value.int .i64 n29, Value.int .i64 n30, Value.int .i64 n31]] k10 fun k11 r10 => ∃ b50, some (Value.bool b50) = some r10 ∧
 ((!b50) = true →
 (∀ k12, Up k11 k12 → CallsG Try.prog 9 #[] k12 fun k13 r12 => ∃ b51, some (Value.bool b51) = some r12 ∧
 ∀ k14, Up k13 k14 → R k14 (Value.bool b51))) ∧
 ((!b50) = false →
 (∀ k15, Up k11 k15 → CallsG Try.prog 29 #[Value.agg #[Value.int .i64 n32, Value.int .i64 n33, Value.int .i64 n34, Value.int .i64 n35, Value.int .i64 n36, Value.int .i64 n37, Value.int .i64 n38, Value.int .i64 n39, Value.int .i64 n40, Value.int .i64 n41, Value.int .i64 n42, Value.int .i64 n43, Value.int .i64 n44, Value.int .i64 n45, Value.int .i64 n46, Value.int .i64 n47]] k15 fun k16 r15 => ∃ b51, some (Value.bool b51) = some r15 ∧
 ((!b51) = true →
 (∀ k17, Up k16 k17 → CallsG Try.prog 9 #[] k17 fun k18 r17 => ∃ b52, some (Value.bool b52) = some r17 ∧
 ∀ k19, Up k18 k19 → R k19 (Value.bool b52))) ∧
 ((!b51) = false →
 (∀ k20, Up k16 k20 → CallsG Try.prog 22 #[Value.agg #[Value.int .i64 n0, Value.int .i64 n1]] k20 fun k21 r20 => ∃ cs52, Seg 3 cs52 ∧ some (Value.agg cs52) = some r20 ∧
 ∀ k22, Up k21 k22 → CallsG Try.prog 22 #[Value.agg #[Value.int .i64 n16, Value.int .i64 n17]] k22 fun k23 r22 => ∃ cs53, Seg 3 cs53 ∧ some (Value.agg cs53) = some r22 ∧
 ∀ k24, Up k23 k24 → CallsG Try.prog 22 #[Value.agg #[Value.int .i64 n32, Value.int .i64 n33]] k24 fun k25 r24 => ∃ cs54, Seg 3 cs54 ∧ some (Value.agg cs54) = some r24 ∧
 ∀ k26, Up k25 k26 → CallsG Try.prog 30 #[Value.agg cs52, Value.agg cs53, Value.agg cs54] k26 fun k27 r26 => ∃ b55, some (Value.bool b55) = some r26 ∧
 (b55 = true →
 (∀ k28, Up k27 k28 → CallsG Try.prog 21 #[Value.agg #[Value.int .i64 n0, Value.int .i64 n1, Value.int .i64 n2, Value.int .i64 n3, Value.int .i64 n4, Value.int .i64 n5, Value.int .i64 n6, Value.int .i64 n7]] k28 fun k29 r28 => ∃ cs56, Seg 9 cs56 ∧ some (Value.agg cs56) = some r28 ∧
 ∀ k30, Up k29 k30 → CallsG Try.prog 21 #[Value.agg #[Value.int .i64 n16, Value.int .i64 n17, Value.int .i64 n18, Value.int .i64 n19, Value.int .i64 n20, Value.int .i64 n21, Value.int .i64 n22, Value.int .i64 n23]] k30 fun k31 r30 => ∃ cs57, Seg 9 cs57 ∧ some (Value.agg cs57) = some r30 ∧
 ∀ k32, Up k31 k32 → CallsG Try.prog 21 #[Value.agg #[Value.int .i64 n32, Value.int .i64 n33, Value.int .i64 n34, Value.int .i64 n35, Value.int .i64 n36, Value.int .i64 n37, Value.int .i64 n38, Value.int .i64 n39]] k32 fun k33 r32 => ∃ cs58, Seg 9 cs58 ∧ some (Value.agg cs58) = some r32 ∧
 ∀ k34, Up k33 k34 → CallsG Try.prog 31 #[Value.agg cs56, Value.agg cs57, Value.agg cs58] k34 fun k35 r34 => ∃ b59, some (Value.bool b59) = some r34 ∧
 (b59 = true →
 (∀ k36, Up k35 k36 → CallsG Try.prog 33 #[Value.agg #[Value.int .i64 n0, Value.int .i64 n1, Value.int .i64 n2, Value.int .i64 n3, Value.int .i64 n4, Value.int .i64 n5, Value.int .i64 n6, Value.int .i64 n7, Value.int .i64 n8, Value.int .i64 n9, Value.int .i64 n10, Value.int .i64 n11, Value.int .i64 n12, Value.int .i64 n13, Value.int .i64 n14, Value.int .i64 n15]] k36 fun k37 r36 => ∃ cs60, Seg 18 cs60 ∧ some (Value.agg cs60) = some r36 ∧
 ∀ k38, Up k37 k38 → CallsG Try.prog 33 #[Value.agg #[Value.int .i64 n16, Value.int .i64 n17, Value.int .i64 n18, Value.int .i64 n19, Value.int .i64 n20, Value.int .i64 n21, Value.int .i64 n22, Value.int .i64 n23, Value.int .i64 n24, Value.int .i64 n25, Value.int .i64 n26, Value.int .i64 n27, Value.int .i64 n28, Value.int .i64 n29, Value.int .i64 n30, Value.int .i64 n31]] k38 fun k39 r38 => ∃ cs61, Seg 18 cs61 ∧ some (Value.agg cs61) = some r38 ∧
 ∀ k40, Up k39 k40 → CallsG Try.prog 33 #[Value.agg #[Value.int .i64 n32, Value.int .i64 n33, Value.int .i64 n34, Value.int .i64 n35, Value.int .i64 n36, Value.int .i64 n37, Value.int .i64 n38, Value.int .i64 n39, Value.int .i64 n40, Value.int .i64 n41, Value.int .i64 n42, Value.int .i64 n43, Value.int .i64 n44, Value.int .i64 n45, Value.int .i64 n46, Value.int .i64 n47]] k40 fun k41 r40 => ∃ cs62, Seg 18 cs62 ∧ some (Value.agg cs62) = some r40 ∧
 ∀ k42, Up k41 k42 → CallsG Try.prog 32 #[Value.agg cs60, Value.agg cs61, Value.agg cs62] k42 fun k43 r42 => ∃ b63, some (Value.bool b63) = some r42 ∧
 ∀ k44, Up k43 k44 → R k44 (Value.bool b63))) ∧
 (b59 = false →
 (∀ k45, Up k35 k45 → R k45 (Value.bool false))))) ∧
 (b55 = false →
 (∀ k46, Up k27 k46 → R k46 (Value.bool false)))))))))))) :
    CallsG Try.prog 6 #[Value.agg #[Value.int .i64 n0, Value.int .i64 n1, Value.int .i64 n2, Value.int .i64 n3, Value.int .i64 n4, Value.int .i64 n5, Value.int .i64 n6, Value.int .i64 n7, Value.int .i64 n8, Value.int .i64 n9, Value.int .i64 n10, Value.int .i64 n11, Value.int .i64 n12, Value.int .i64 n13, Value.int .i64 n14, Value.int .i64 n15], Value.agg #[Value.int .i64 n16, Value.int .i64 n17, Value.int .i64 n18, Value.int .i64 n19, Value.int .i64 n20, Value.int .i64 n21, Value.int .i64 n22, Value.int .i64 n23, Value.int .i64 n24, Value.int .i64 n25, Value.int .i64 n26, Value.int .i64 n27, Value.int .i64 n28, Value.int .i64 n29, Value.int .i64 n30, Value.int .i64 n31], Value.agg #[Value.int .i64 n32, Value.int .i64 n33, Value.int .i64 n34, Value.int .i64 n35, Value.int .i64 n36, Value.int .i64 n37, Value.int .i64 n38, Value.int .i64 n39, Value.int .i64 n40, Value.int .i64 n41, Value.int .i64 n42, Value.int .i64 n43, Value.int .i64 n44, Value.int .i64 n45, Value.int .i64 n46, Value.int .i64 n47]] k R :=
  execFn_use (cfg := { opq := [28, 53, 69] }) (args := [.agg [.var 0, .var 1, .var 2, .var 3, .var 4, .var 5, .var 6, .var 7, .var 8, .var 9, .var 10, .var 11, .var 12, .var 13, .var 14, .var 15], .agg [.var 16, .var 17, .var 18, .var 19, .var 20, .var 21, .var 22, .var 23, .var 24, .var 25, .var 26, .var 27, .var 28, .var 29, .var 30, .var 31], .agg [.var 32, .var 33, .var 34, .var 35, .var 36, .var 37, .var 38, .var 39, .var 40, .var 41, .var 42, .var 43, .var 44, .var 45, .var 46, .var 47]]) (vals := [Value.int .i64 n0, Value.int .i64 n1, Value.int .i64 n2, Value.int .i64 n3, Value.int .i64 n4, Value.int .i64 n5, Value.int .i64 n6, Value.int .i64 n7, Value.int .i64 n8, Value.int .i64 n9, Value.int .i64 n10, Value.int .i64 n11, Value.int .i64 n12, Value.int .i64 n13, Value.int .i64 n14, Value.int .i64 n15, Value.int .i64 n16, Value.int .i64 n17, Value.int .i64 n18, Value.int .i64 n19, Value.int .i64 n20, Value.int .i64 n21, Value.int .i64 n22, Value.int .i64 n23, Value.int .i64 n24, Value.int .i64 n25, Value.int .i64 n26, Value.int .i64 n27, Value.int .i64 n28, Value.int .i64 n29, Value.int .i64 n30, Value.int .i64 n31, Value.int .i64 n32, Value.int .i64 n33, Value.int .i64 n34, Value.int .i64 n35, Value.int .i64 n36, Value.int .i64 n37, Value.int .i64 n38, Value.int .i64 n39, Value.int .i64 n40, Value.int .i64 n41, Value.int .i64 n42, Value.int .i64 n43, Value.int .i64 n44, Value.int .i64 n45, Value.int .i64 n46, Value.int .i64 n47]) (kinds := [.int .i64, .int .i64, .int .i64, .int .i64, .int .i64, .int .i64, .int .i64, .int .i64, .int .i64, .int .i64, .int .i64, .int .i64, .int .i64, .int .i64, .int .i64, .int .i64, .int .i64, .int .i64, .int .i64, .int .i64, .int .i64, .int .i64, .int .i64, .int .i64, .int .i64, .int .i64, .int .i64, .int .i64, .int .i64, .int .i64, .int .i64, .int .i64, .int .i64, .int .i64, .int .i64, .int .i64, .int .i64, .int .i64, .int .i64, .int .i64, .int .i64, .int .i64, .int .i64, .int .i64, .int .i64, .int .i64, .int .i64, .int .i64]) (by kernel_rfl) (by (repeat (refine ⟨⟨_, rfl⟩, ?_⟩)); exact trivial) (by kernel_rfl) (by kernel_rfl) h
end Go.Proofs.Ytpjakokgmgggiaa
