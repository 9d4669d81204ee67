/- What is to be shown of the calls of some functions. (Printed by gen/vc.py.) -/
import Derived.Test.YtpjakokgmgggiaaProg
import Derived.Test.YtpjakokgmgggiaaSy14
namespace Go.Proofs.Ytpjakokgmgggiaa
open Go.RowKit
open Sy (Up Sees CallsG Seg execFn_use)

set_option maxRecDepth 100000 in
theorem awake_vc {k : World} {R : World → Value → Prop}
    (h : ∀ k0, Up k k0 → CallsG Try.prog 14 #[Value.int .i64 1] k0 fun k1 r0 => ∃ cs0 : Array Value, Seg 3 cs0 ∧ some (Value.agg cs0) = some r0 ∧
 ∀ k2, Up k1 k2 → CallsG Try.prog 14 #[Value.int .i64 0] k2 fun k3 r2 => ∃ cs1 : Array Value, Seg 3 cs1 ∧ some (Value.agg cs1) = some r2 ∧
 ∀ k4, Up k3 k4 → CallsG Try.prog 46 #[Value.agg (cs0.toList ++ (cs0.toList ++ (cs1.toList ++ (cs1.toList ++ ([]))))).toArray] k4 fun k5 r4 => ∃ cs2 : Array Value, Seg 9 cs2 ∧ some (Value.agg cs2) = some r4 ∧
 ∀ k6, Up k5 k6 → CallsG Try.prog 37 #[Value.agg cs2, Value.agg cs0] k6 fun k7 r6 => ∃ cs3 : Array Value, Seg 9 cs3 ∧ some (Value.agg cs3) = some r6 ∧
 ∀ k8, Up k7 k8 → CallsG Try.prog 47 #[Value.agg cs3, Value.agg cs2] k8 fun k9 r8 => ∃ cs4 : Array Value, Seg 9 cs4 ∧ ∃ n5 : Int, some (Value.tuple #[Value.agg cs4, Value.int .i64 n5]) = some r8 ∧
 (((n5 : Int) == 0) = true →
 (∀ k10, Up k9 k10 → CallsG Try.prog 23 #[Value.agg cs4] k10 fun k11 r10 => ∃ s6 : ByteArray, some (Value.string s6) = some r10 ∧
 ∀ k12, Up k11 k12 → R k12 (Value.bool (ByteArray.toList s6 == ByteArray.toList ⟨#[45, 49, 43, 49, 114, 50]⟩)))) ∧
 (((n5 : Int) == 0) = false →
 (∀ k13, Up k9 k13 → R k13 (Value.bool false)))) :
    CallsG Try.prog 9 #[] k R :=
  execFn_use (cfg := { opq := [28, 53] }) (args := []) (vals := []) (kinds := []) (by kernel_rfl) trivial (by kernel_rfl) (by kernel_rfl) h

set_option maxRecDepth 100000 in
theorem Of_vc {k : World} {R : World → Value → Prop} {n0 : Int} {n1 : Int}
    (h : (((n1 : Int) == 0) = true →
 (∀ k0, Up k k0 → CallsG Try.prog 14 #[Value.int .i64 n0] k0 fun k1 r0 => ∃ cs2 : Array Value, Seg 3 cs2 ∧ some (Value.agg cs2) = some r0 ∧
 ∀ k2, Up k1 k2 → R k2 (Value.agg cs2))) ∧
 (((n1 : Int) == 0) = false →
 (∀ k3, Up k k3 → CallsG Try.prog 10 #[Value.int .i64 n0, Value.int .i64 n1] k3 fun k4 r3 => ∃ cs2 : Array Value, Seg 3 cs2 ∧ ∃ n3 : Int, some (Value.tuple #[Value.agg cs2, Value.int .i64 n3]) = some r3 ∧
 ∀ k5, Up k4 k5 → R k5 (Value.agg cs2)))) :
    CallsG Try.prog 22 #[Value.agg #[Value.int .i64 n0, Value.int .i64 n1]] k R :=
  execFn_use (cfg := { opq := [28] }) (args := [.agg [.var 0, .var 1]]) (vals := [Value.int .i64 n0, Value.int .i64 n1]) (kinds := [.int .i64, .int .i64]) (by kernel_rfl) ⟨⟨_, rfl⟩, ⟨⟨_, rfl⟩, trivial⟩⟩ (by kernel_rfl) (by kernel_rfl) h

set_option maxRecDepth 100000 in
theorem OfQuad_vc {k : World} {R : World → Value → Prop} {n0 : Int} {n1 : Int} {n2 : Int} {n3 : Int} {n4 : Int} {n5 : Int} {n6 : Int} {n7 : Int}
    (h : ∀ k0, Up k k0 → CallsG Try.prog 22 #[Value.agg #[Value.int .i64 n0, Value.int .i64 n1]] k0 fun k1 r0 => ∃ cs8 : Array Value, Seg 3 cs8 ∧ some (Value.agg cs8) = some r0 ∧
 ∀ k2, Up k1 k2 → CallsG Try.prog 22 #[Value.agg #[Value.int .i64 n2, Value.int .i64 n3]] k2 fun k3 r2 => ∃ cs9 : Array Value, Seg 3 cs9 ∧ some (Value.agg cs9) = some r2 ∧
 ∀ k4, Up k3 k4 → CallsG Try.prog 22 #[Value.agg #[Value.int .i64 n4, Value.int .i64 n5]] k4 fun k5 r4 => ∃ cs10 : Array Value, Seg 3 cs10 ∧ some (Value.agg cs10) = some r4 ∧
 ∀ k6, Up k5 k6 → CallsG Try.prog 22 #[Value.agg #[Value.int .i64 n6, Value.int .i64 n7]] k6 fun k7 r6 => ∃ cs11 : Array Value, Seg 3 cs11 ∧ some (Value.agg cs11) = some r6 ∧
 ∀ k8, Up k7 k8 → CallsG Try.prog 46 #[Value.agg (cs8.toList ++ (cs9.toList ++ (cs10.toList ++ (cs11.toList ++ ([]))))).toArray] k8 fun k9 r8 => ∃ cs12 : Array Value, Seg 9 cs12 ∧ some (Value.agg cs12) = some r8 ∧
 ∀ k10, Up k9 k10 → R k10 (Value.agg cs12)) :
    CallsG Try.prog 21 #[Value.agg #[Value.int .i64 n0, Value.int .i64 n1, Value.int .i64 n2, Value.int .i64 n3, Value.int .i64 n4, Value.int .i64 n5, Value.int .i64 n6, Value.int .i64 n7]] k R :=
  execFn_use (cfg := { opq := [28, 53] }) (args := [.agg [.var 0, .var 1, .var 2, .var 3, .var 4, .var 5, .var 6, .var 7]]) (vals := [Value.int .i64 n0, Value.int .i64 n1, Value.int .i64 n2, Value.int .i64 n3, Value.int .i64 n4, Value.int .i64 n5, Value.int .i64 n6, Value.int .i64 n7]) (kinds := [.int .i64, .int .i64, .int .i64, .int .i64, .int .i64, .int .i64, .int .i64, .int .i64]) (by kernel_rfl) ⟨⟨_, rfl⟩, ⟨⟨_, rfl⟩, ⟨⟨_, rfl⟩, ⟨⟨_, rfl⟩, ⟨⟨_, rfl⟩, ⟨⟨_, rfl⟩, ⟨⟨_, rfl⟩, ⟨⟨_, rfl⟩, trivial⟩⟩⟩⟩⟩⟩⟩⟩ (by kernel_rfl) (by kernel_rfl) h

set_option maxRecDepth 100000 in
theorem small_vc {k : World} {R : World → Value → Prop} {n0 : Int} {n1 : Int} {n2 : Int} {n3 : Int} {n4 : Int} {n5 : Int} {n6 : Int} {n7 : Int}
    (h : ((decide (((if (decide ((n0 : Int) < n1)) = true then n1 else n0) : Int) > 1099511627776)) = true →
 (∀ k0, Up k k0 → R k0 (Value.bool false))) ∧
 ((decide (((if (decide ((n0 : Int) < n1)) = true then n1 else n0) : Int) > 1099511627776)) = false →
 (((decide (((if (decide ((n1 : Int) < n0)) = true then n1 else n0) : Int) < (-1099511627776))) = true →
 (∀ k1, Up k k1 → R k1 (Value.bool false))) ∧
 ((decide (((if (decide ((n1 : Int) < n0)) = true then n1 else n0) : Int) < (-1099511627776))) = false →
 (((decide (((if (decide ((n2 : Int) < n3)) = true then n3 else n2) : Int) > 1099511627776)) = true →
 (∀ k2, Up k k2 → R k2 (Value.bool false))) ∧
 ((decide (((if (decide ((n2 : Int) < n3)) = true then n3 else n2) : Int) > 1099511627776)) = false →
 (((decide (((if (decide ((n3 : Int) < n2)) = true then n3 else n2) : Int) < (-1099511627776))) = true →
 (∀ k3, Up k k3 → R k3 (Value.bool false))) ∧
 ((decide (((if (decide ((n3 : Int) < n2)) = true then n3 else n2) : Int) < (-1099511627776))) = false →
 (((decide (((if (decide ((n4 : Int) < n5)) = true then n5 else n4) : Int) > 1099511627776)) = true →
 (∀ k4, Up k k4 → R k4 (Value.bool false))) ∧
 ((decide (((if (decide ((n4 : Int) < n5)) = true then n5 else n4) : Int) > 1099511627776)) = false →
 (((decide (((if (decide ((n5 : Int) < n4)) = true then n5 else n4) : Int) < (-1099511627776))) = true →
 (∀ k5, Up k k5 → R k5 (Value.bool false))) ∧
 ((decide (((if (decide ((n5 : Int) < n4)) = true then n5 else n4) : Int) < (-1099511627776))) = false →
 (((decide (((if (decide ((n6 : Int) < n7)) = true then n7 else n6) : Int) > 1099511627776)) = true →
 (∀ k6, Up k k6 → R k6 (Value.bool false))) ∧
 ((decide (((if (decide ((n6 : Int) < n7)) = true then n7 else n6) : Int) > 1099511627776)) = false →
 (((decide (((if (decide ((n7 : Int) < n6)) = true then n7 else n6) : Int) < (-1099511627776))) = true →
 (∀ k7, Up k k7 → R k7 (Value.bool false))) ∧
 ((decide (((if (decide ((n7 : Int) < n6)) = true then n7 else n6) : Int) < (-1099511627776))) = false →
 (∀ k8, Up k k8 → R k8 (Value.bool true)))))))))))))))))) :
    CallsG Try.prog 34 #[Value.agg #[Value.int .i64 n0, Value.int .i64 n1, Value.int .i64 n2, Value.int .i64 n3, Value.int .i64 n4, Value.int .i64 n5, Value.int .i64 n6, Value.int .i64 n7]] k R :=
  execFn_use (cfg := { opq := [] }) (args := [.agg [.var 0, .var 1, .var 2, .var 3, .var 4, .var 5, .var 6, .var 7]]) (vals := [Value.int .i64 n0, Value.int .i64 n1, Value.int .i64 n2, Value.int .i64 n3, Value.int .i64 n4, Value.int .i64 n5, Value.int .i64 n6, Value.int .i64 n7]) (kinds := [.int .i64, .int .i64, .int .i64, .int .i64, .int .i64, .int .i64, .int .i64, .int .i64]) (by kernel_rfl) ⟨⟨_, rfl⟩, ⟨⟨_, rfl⟩, ⟨⟨_, rfl⟩, ⟨⟨_, rfl⟩, ⟨⟨_, rfl⟩, ⟨⟨_, rfl⟩, ⟨⟨_, rfl⟩, ⟨⟨_, rfl⟩, trivial⟩⟩⟩⟩⟩⟩⟩⟩ (by kernel_rfl) (by kernel_rfl) h

set_option maxRecDepth 100000 in
theorem ordq_vc {k : World} {R : World → Value → Prop} {cs0 : Array Value} {cs1 : Array Value} {cs2 : Array Value} (hcs0 : Seg 3 cs0) (hcs1 : Seg 3 cs1) (hcs2 : Seg 3 cs2)
    (h : ∀ k0, Up k k0 → CallsG Try.prog 39 #[Value.agg cs0, Value.agg cs1] k0 fun k1 r0 => ∃ n3 : Int, some (Value.int .i64 n3) = some r0 ∧
 ∀ k2, Up k1 k2 → CallsG Try.prog 39 #[Value.agg cs1, Value.agg cs0] k2 fun k3 r2 => ∃ n4 : Int, some (Value.int .i64 n4) = some r2 ∧
 (((n3 : Int) != (IntKind.wrap .i64 (0 - n4))) = true →
 (∀ k4, Up k3 k4 → R k4 (Value.bool false))) ∧
 (((n3 : Int) != (IntKind.wrap .i64 (0 - n4))) = false →
 (∀ k5, Up k3 k5 → CallsG Try.prog 39 #[Value.agg cs0, Value.agg cs1] k5 fun k6 r5 => ∃ n5 : Int, some (Value.int .i64 n5) = some r5 ∧
 ∀ k7, Up k6 k7 → CallsG Try.prog 26 #[Value.agg cs0, Value.agg cs1] k7 fun k8 r7 => ∃ b6 : Bool, some (Value.bool b6) = some r7 ∧
 ((!(((n5 : Int) == 0) == b6)) = true →
 (∀ k9, Up k8 k9 → R k9 (Value.bool false))) ∧
 ((!(((n5 : Int) == 0) == b6)) = false →
 (∀ k10, Up k8 k10 → CallsG Try.prog 39 #[Value.agg cs0, Value.agg cs1] k10 fun k11 r10 => ∃ n7 : Int, some (Value.int .i64 n7) = some r10 ∧
 ∀ k12, Up k11 k12 → CallsG Try.prog 74 #[Value.agg cs0, Value.agg cs1] k12 fun k13 r12 => ∃ cs8 : Array Value, Seg 3 cs8 ∧ some (Value.agg cs8) = some r12 ∧
 ∀ k14, Up k13 k14 → CallsG Try.prog 16 #[Value.agg cs8] k14 fun k15 r14 => ∃ n9 : Int, some (Value.int .i64 n9) = some r14 ∧
 (((n7 : Int) != n9) = true →
 (∀ k16, Up k15 k16 → R k16 (Value.bool false))) ∧
 (((n7 : Int) != n9) = false →
 (∀ k17, Up k15 k17 → CallsG Try.prog 153 #[Value.agg cs0, Value.agg cs0] k17 fun k18 r17 => ∃ cs10 : Array Value, Seg 3 cs10 ∧ some (Value.agg cs10) = some r17 ∧
 ∀ k19, Up k18 k19 → CallsG Try.prog 16 #[Value.agg cs10] k19 fun k20 r19 => ∃ n11 : Int, some (Value.int .i64 n11) = some r19 ∧
 ((decide ((n11 : Int) < 0)) = true →
 (∀ k21, Up k20 k21 → R k21 (Value.bool false))) ∧
 ((decide ((n11 : Int) < 0)) = false →
 (∀ k22, Up k20 k22 → CallsG Try.prog 107 #[Value.agg cs0, Value.agg cs2] k22 fun k23 r22 => ∃ cs12 : Array Value, Seg 3 cs12 ∧ some (Value.agg cs12) = some r22 ∧
 ∀ k24, Up k23 k24 → CallsG Try.prog 107 #[Value.agg cs1, Value.agg cs2] k24 fun k25 r24 => ∃ cs13 : Array Value, Seg 3 cs13 ∧ some (Value.agg cs13) = some r24 ∧
 ∀ k26, Up k25 k26 → CallsG Try.prog 39 #[Value.agg cs12, Value.agg cs13] k26 fun k27 r26 => ∃ n14 : Int, some (Value.int .i64 n14) = some r26 ∧
 ∀ k28, Up k27 k28 → CallsG Try.prog 39 #[Value.agg cs0, Value.agg cs1] k28 fun k29 r28 => ∃ n15 : Int, some (Value.int .i64 n15) = some r28 ∧
 (((n14 : Int) != n15) = true →
 (∀ k30, Up k29 k30 → R k30 (Value.bool false))) ∧
 (((n14 : Int) != n15) = false →
 (∀ k31, Up k29 k31 → CallsG Try.prog 39 #[Value.agg cs0, Value.agg cs1] k31 fun k32 r31 => ∃ n16 : Int, some (Value.int .i64 n16) = some r31 ∧
 ((decide ((n16 : Int) ≤ 0)) = true →
 (∀ k33, Up k32 k33 → CallsG Try.prog 39 #[Value.agg cs1, Value.agg cs2] k33 fun k34 r33 => ∃ n17 : Int, some (Value.int .i64 n17) = some r33 ∧
 ((decide ((n17 : Int) ≤ 0)) = true →
 (∀ k35, Up k34 k35 → CallsG Try.prog 39 #[Value.agg cs0, Value.agg cs2] k35 fun k36 r35 => ∃ n18 : Int, some (Value.int .i64 n18) = some r35 ∧
 ((decide ((n18 : Int) > 0)) = true →
 (∀ k37, Up k36 k37 → R k37 (Value.bool false))) ∧
 ((decide ((n18 : Int) > 0)) = false →
 (∀ k38, Up k36 k38 → CallsG Try.prog 153 #[Value.agg cs0, Value.agg cs2] k38 fun k39 r38 => ∃ cs19 : Array Value, Seg 3 cs19 ∧ some (Value.agg cs19) = some r38 ∧
 ∀ k40, Up k39 k40 → CallsG Try.prog 153 #[Value.agg cs1, Value.agg cs2] k40 fun k41 r40 => ∃ cs20 : Array Value, Seg 3 cs20 ∧ some (Value.agg cs20) = some r40 ∧
 ∀ k42, Up k41 k42 → CallsG Try.prog 39 #[Value.agg cs19, Value.agg cs20] k42 fun k43 r42 => ∃ n21 : Int, some (Value.int .i64 n21) = some r42 ∧
 ∀ k44, Up k43 k44 → CallsG Try.prog 16 #[Value.agg cs2] k44 fun k45 r44 => ∃ n22 : Int, some (Value.int .i64 n22) = some r44 ∧
 ∀ k46, Up k45 k46 → CallsG Try.prog 39 #[Value.agg cs0, Value.agg cs1] k46 fun k47 r46 => ∃ n23 : Int, some (Value.int .i64 n23) = some r46 ∧
 ∀ k48, Up k47 k48 → R k48 (Value.bool ((n21 : Int) == (IntKind.wrap .i64 (n22 * n23)))))))) ∧
 ((decide ((n17 : Int) ≤ 0)) = false →
 (∀ k49, Up k34 k49 → CallsG Try.prog 153 #[Value.agg cs0, Value.agg cs2] k49 fun k50 r49 => ∃ cs18 : Array Value, Seg 3 cs18 ∧ some (Value.agg cs18) = some r49 ∧
 ∀ k51, Up k50 k51 → CallsG Try.prog 153 #[Value.agg cs1, Value.agg cs2] k51 fun k52 r51 => ∃ cs19 : Array Value, Seg 3 cs19 ∧ some (Value.agg cs19) = some r51 ∧
 ∀ k53, Up k52 k53 → CallsG Try.prog 39 #[Value.agg cs18, Value.agg cs19] k53 fun k54 r53 => ∃ n20 : Int, some (Value.int .i64 n20) = some r53 ∧
 ∀ k55, Up k54 k55 → CallsG Try.prog 16 #[Value.agg cs2] k55 fun k56 r55 => ∃ n21 : Int, some (Value.int .i64 n21) = some r55 ∧
 ∀ k57, Up k56 k57 → CallsG Try.prog 39 #[Value.agg cs0, Value.agg cs1] k57 fun k58 r57 => ∃ n22 : Int, some (Value.int .i64 n22) = some r57 ∧
 ∀ k59, Up k58 k59 → R k59 (Value.bool ((n20 : Int) == (IntKind.wrap .i64 (n21 * n22)))))))) ∧
 ((decide ((n16 : Int) ≤ 0)) = false →
 (∀ k60, Up k32 k60 → CallsG Try.prog 153 #[Value.agg cs0, Value.agg cs2] k60 fun k61 r60 => ∃ cs17 : Array Value, Seg 3 cs17 ∧ some (Value.agg cs17) = some r60 ∧
 ∀ k62, Up k61 k62 → CallsG Try.prog 153 #[Value.agg cs1, Value.agg cs2] k62 fun k63 r62 => ∃ cs18 : Array Value, Seg 3 cs18 ∧ some (Value.agg cs18) = some r62 ∧
 ∀ k64, Up k63 k64 → CallsG Try.prog 39 #[Value.agg cs17, Value.agg cs18] k64 fun k65 r64 => ∃ n19 : Int, some (Value.int .i64 n19) = some r64 ∧
 ∀ k66, Up k65 k66 → CallsG Try.prog 16 #[Value.agg cs2] k66 fun k67 r66 => ∃ n20 : Int, some (Value.int .i64 n20) = some r66 ∧
 ∀ k68, Up k67 k68 → CallsG Try.prog 39 #[Value.agg cs0, Value.agg cs1] k68 fun k69 r68 => ∃ n21 : Int, some (Value.int .i64 n21) = some r68 ∧
 ∀ k70, Up k69 k70 → R k70 (Value.bool ((n19 : Int) == (IntKind.wrap .i64 (n20 * n21))))))))))))))))) :
    CallsG Try.prog 35 #[Value.agg cs0, Value.agg cs1, Value.agg cs2] k R :=
  execFn_use (cfg := { opq := [28] }) (args := [.agg [.seg 0 3], .agg [.seg 1 3], .agg [.seg 2 3]]) (vals := [Value.agg cs0, Value.agg cs1, Value.agg cs2]) (kinds := [.seg 3, .seg 3, .seg 3]) (by kernel_rfl) ⟨⟨cs0, rfl, hcs0⟩, ⟨⟨cs1, rfl, hcs1⟩, ⟨⟨cs2, rfl, hcs2⟩, trivial⟩⟩⟩ (by kernel_rfl) (by kernel_rfl) h

set_option maxRecDepth 100000 in
theorem ords_vc {k : World} {R : World → Value → Prop} {cs0 : Array Value} {cs1 : Array Value} {cs2 : Array Value} (hcs0 : Seg 9 cs0) (hcs1 : Seg 9 cs1) (hcs2 : Seg 9 cs2)
    (h : ∀ k0, Up k k0 → CallsG Try.prog 38 #[Value.agg cs0, Value.agg cs1] k0 fun k1 r0 => ∃ n3 : Int, some (Value.int .i64 n3) = some r0 ∧
 ∀ k2, Up k1 k2 → CallsG Try.prog 38 #[Value.agg cs1, Value.agg cs0] k2 fun k3 r2 => ∃ n4 : Int, some (Value.int .i64 n4) = some r2 ∧
 (((n3 : Int) != (IntKind.wrap .i64 (0 - n4))) = true →
 (∀ k4, Up k3 k4 → R k4 (Value.bool false))) ∧
 (((n3 : Int) != (IntKind.wrap .i64 (0 - n4))) = false →
 (∀ k5, Up k3 k5 → CallsG Try.prog 38 #[Value.agg cs0, Value.agg cs1] k5 fun k6 r5 => ∃ n5 : Int, some (Value.int .i64 n5) = some r5 ∧
 ∀ k7, Up k6 k7 → CallsG Try.prog 24 #[Value.agg cs0, Value.agg cs1] k7 fun k8 r7 => ∃ b6 : Bool, some (Value.bool b6) = some r7 ∧
 ((!(((n5 : Int) == 0) == b6)) = true →
 (∀ k9, Up k8 k9 → R k9 (Value.bool false))) ∧
 ((!(((n5 : Int) == 0) == b6)) = false →
 (∀ k10, Up k8 k10 → CallsG Try.prog 38 #[Value.agg cs0, Value.agg cs1] k10 fun k11 r10 => ∃ n7 : Int, some (Value.int .i64 n7) = some r10 ∧
 ∀ k12, Up k11 k12 → CallsG Try.prog 60 #[Value.agg cs0, Value.agg cs1] k12 fun k13 r12 => ∃ cs8 : Array Value, Seg 9 cs8 ∧ some (Value.agg cs8) = some r12 ∧
 ∀ k14, Up k13 k14 → CallsG Try.prog 73 #[Value.agg cs8] k14 fun k15 r14 => ∃ n9 : Int, some (Value.int .i64 n9) = some r14 ∧
 (((n7 : Int) != n9) = true →
 (∀ k16, Up k15 k16 → R k16 (Value.bool false))) ∧
 (((n7 : Int) != n9) = false →
 (∀ k17, Up k15 k17 → CallsG Try.prog 42 #[Value.agg cs0, Value.agg cs0] k17 fun k18 r17 => ∃ cs10 : Array Value, Seg 9 cs10 ∧ some (Value.agg cs10) = some r17 ∧
 ∀ k19, Up k18 k19 → CallsG Try.prog 73 #[Value.agg cs10] k19 fun k20 r19 => ∃ n11 : Int, some (Value.int .i64 n11) = some r19 ∧
 ((decide ((n11 : Int) < 0)) = true →
 (∀ k21, Up k20 k21 → R k21 (Value.bool false))) ∧
 ((decide ((n11 : Int) < 0)) = false →
 (∀ k22, Up k20 k22 → CallsG Try.prog 75 #[Value.agg cs0, Value.agg cs2] k22 fun k23 r22 => ∃ cs12 : Array Value, Seg 9 cs12 ∧ some (Value.agg cs12) = some r22 ∧
 ∀ k24, Up k23 k24 → CallsG Try.prog 75 #[Value.agg cs1, Value.agg cs2] k24 fun k25 r24 => ∃ cs13 : Array Value, Seg 9 cs13 ∧ some (Value.agg cs13) = some r24 ∧
 ∀ k26, Up k25 k26 → CallsG Try.prog 38 #[Value.agg cs12, Value.agg cs13] k26 fun k27 r26 => ∃ n14 : Int, some (Value.int .i64 n14) = some r26 ∧
 ∀ k28, Up k27 k28 → CallsG Try.prog 38 #[Value.agg cs0, Value.agg cs1] k28 fun k29 r28 => ∃ n15 : Int, some (Value.int .i64 n15) = some r28 ∧
 (((n14 : Int) != n15) = true →
 (∀ k30, Up k29 k30 → R k30 (Value.bool false))) ∧
 (((n14 : Int) != n15) = false →
 (∀ k31, Up k29 k31 → CallsG Try.prog 38 #[Value.agg cs0, Value.agg cs1] k31 fun k32 r31 => ∃ n16 : Int, some (Value.int .i64 n16) = some r31 ∧
 ((decide ((n16 : Int) ≤ 0)) = true →
 (∀ k33, Up k32 k33 → CallsG Try.prog 38 #[Value.agg cs1, Value.agg cs2] k33 fun k34 r33 => ∃ n17 : Int, some (Value.int .i64 n17) = some r33 ∧
 ((decide ((n17 : Int) ≤ 0)) = true →
 (∀ k35, Up k34 k35 → CallsG Try.prog 38 #[Value.agg cs0, Value.agg cs2] k35 fun k36 r35 => ∃ n18 : Int, some (Value.int .i64 n18) = some r35 ∧
 ((decide ((n18 : Int) > 0)) = true →
 (∀ k37, Up k36 k37 → R k37 (Value.bool false))) ∧
 ((decide ((n18 : Int) > 0)) = false →
 (∀ k38, Up k36 k38 → CallsG Try.prog 42 #[Value.agg cs0, Value.agg cs2] k38 fun k39 r38 => ∃ cs19 : Array Value, Seg 9 cs19 ∧ some (Value.agg cs19) = some r38 ∧
 ∀ k40, Up k39 k40 → CallsG Try.prog 42 #[Value.agg cs1, Value.agg cs2] k40 fun k41 r40 => ∃ cs20 : Array Value, Seg 9 cs20 ∧ some (Value.agg cs20) = some r40 ∧
 ∀ k42, Up k41 k42 → CallsG Try.prog 38 #[Value.agg cs19, Value.agg cs20] k42 fun k43 r42 => ∃ n21 : Int, some (Value.int .i64 n21) = some r42 ∧
 ∀ k44, Up k43 k44 → CallsG Try.prog 73 #[Value.agg cs2] k44 fun k45 r44 => ∃ n22 : Int, some (Value.int .i64 n22) = some r44 ∧
 ∀ k46, Up k45 k46 → CallsG Try.prog 38 #[Value.agg cs0, Value.agg cs1] k46 fun k47 r46 => ∃ n23 : Int, some (Value.int .i64 n23) = some r46 ∧
 ∀ k48, Up k47 k48 → R k48 (Value.bool ((n21 : Int) == (IntKind.wrap .i64 (n22 * n23)))))))) ∧
 ((decide ((n17 : Int) ≤ 0)) = false →
 (∀ k49, Up k34 k49 → CallsG Try.prog 42 #[Value.agg cs0, Value.agg cs2] k49 fun k50 r49 => ∃ cs18 : Array Value, Seg 9 cs18 ∧ some (Value.agg cs18) = some r49 ∧
 ∀ k51, Up k50 k51 → CallsG Try.prog 42 #[Value.agg cs1, Value.agg cs2] k51 fun k52 r51 => ∃ cs19 : Array Value, Seg 9 cs19 ∧ some (Value.agg cs19) = some r51 ∧
 ∀ k53, Up k52 k53 → CallsG Try.prog 38 #[Value.agg cs18, Value.agg cs19] k53 fun k54 r53 => ∃ n20 : Int, some (Value.int .i64 n20) = some r53 ∧
 ∀ k55, Up k54 k55 → CallsG Try.prog 73 #[Value.agg cs2] k55 fun k56 r55 => ∃ n21 : Int, some (Value.int .i64 n21) = some r55 ∧
 ∀ k57, Up k56 k57 → CallsG Try.prog 38 #[Value.agg cs0, Value.agg cs1] k57 fun k58 r57 => ∃ n22 : Int, some (Value.int .i64 n22) = some r57 ∧
 ∀ k59, Up k58 k59 → R k59 (Value.bool ((n20 : Int) == (IntKind.wrap .i64 (n21 * n22)))))))) ∧
 ((decide ((n16 : Int) ≤ 0)) = false →
 (∀ k60, Up k32 k60 → CallsG Try.prog 42 #[Value.agg cs0, Value.agg cs2] k60 fun k61 r60 => ∃ cs17 : Array Value, Seg 9 cs17 ∧ some (Value.agg cs17) = some r60 ∧
 ∀ k62, Up k61 k62 → CallsG Try.prog 42 #[Value.agg cs1, Value.agg cs2] k62 fun k63 r62 => ∃ cs18 : Array Value, Seg 9 cs18 ∧ some (Value.agg cs18) = some r62 ∧
 ∀ k64, Up k63 k64 → CallsG Try.prog 38 #[Value.agg cs17, Value.agg cs18] k64 fun k65 r64 => ∃ n19 : Int, some (Value.int .i64 n19) = some r64 ∧
 ∀ k66, Up k65 k66 → CallsG Try.prog 73 #[Value.agg cs2] k66 fun k67 r66 => ∃ n20 : Int, some (Value.int .i64 n20) = some r66 ∧
 ∀ k68, Up k67 k68 → CallsG Try.prog 38 #[Value.agg cs0, Value.agg cs1] k68 fun k69 r68 => ∃ n21 : Int, some (Value.int .i64 n21) = some r68 ∧
 ∀ k70, Up k69 k70 → R k70 (Value.bool ((n19 : Int) == (IntKind.wrap .i64 (n20 * n21))))))))))))))))) :
    CallsG Try.prog 36 #[Value.agg cs0, Value.agg cs1, Value.agg cs2] k R :=
  execFn_use (cfg := { opq := [53] }) (args := [.agg [.seg 0 9], .agg [.seg 1 9], .agg [.seg 2 9]]) (vals := [Value.agg cs0, Value.agg cs1, Value.agg cs2]) (kinds := [.seg 9, .seg 9, .seg 9]) (by kernel_rfl) ⟨⟨cs0, rfl, hcs0⟩, ⟨⟨cs1, rfl, hcs1⟩, ⟨⟨cs2, rfl, hcs2⟩, trivial⟩⟩⟩ (by kernel_rfl) (by kernel_rfl) h

set_option maxRecDepth 100000 in
theorem order_vc {k : World} {R : World → Value → Prop} {n0 : Int} {n1 : Int} {n2 : Int} {n3 : Int} {n4 : Int} {n5 : Int} {n6 : Int} {n7 : Int} {n8 : Int} {n9 : Int} {n10 : Int} {n11 : Int} {n12 : Int} {n13 : Int} {n14 : Int} {n15 : Int} {n16 : Int} {n17 : Int} {n18 : Int} {n19 : Int} {n20 : Int} {n21 : Int} {n22 : Int} {n23 : Int}
    (h : ∀ k0, Up k k0 → CallsG Try.prog 9 #[] k0 fun k1 r0 => ∃ b24 : Bool, some (Value.bool b24) = some r0 ∧
 ((!b24) = true →
 (∀ k2, Up k1 k2 → CallsG Try.prog 9 #[] k2 fun k3 r2 => ∃ b25 : Bool, some (Value.bool b25) = some r2 ∧
 ∀ k4, Up k3 k4 → R k4 (Value.bool b25))) ∧
 ((!b24) = false →
 (∀ k5, Up k1 k5 → CallsG Try.prog 34 #[Value.agg #[Value.int .i64 n0, Value.int .i64 n1, Value.int .i64 n2, Value.int .i64 n3, Value.int .i64 n4, Value.int .i64 n5, Value.int .i64 n6, Value.int .i64 n7]] k5 fun k6 r5 => ∃ b25 : Bool, some (Value.bool b25) = some r5 ∧
 ((!b25) = true →
 (∀ k7, Up k6 k7 → CallsG Try.prog 9 #[] k7 fun k8 r7 => ∃ b26 : Bool, some (Value.bool b26) = some r7 ∧
 ∀ k9, Up k8 k9 → R k9 (Value.bool b26))) ∧
 ((!b25) = false →
 (∀ k10, Up k6 k10 → CallsG Try.prog 34 #[Value.agg #[Value.int .i64 n8, Value.int .i64 n9, Value.int .i64 n10, Value.int .i64 n11, Value.int .i64 n12, Value.int .i64 n13, Value.int .i64 n14, Value.int .i64 n15]] k10 fun k11 r10 => ∃ b26 : Bool, some (Value.bool b26) = some r10 ∧
 ((!b26) = true →
 (∀ k12, Up k11 k12 → CallsG Try.prog 9 #[] k12 fun k13 r12 => ∃ b27 : Bool, some (Value.bool b27) = some r12 ∧
 ∀ k14, Up k13 k14 → R k14 (Value.bool b27))) ∧
 ((!b26) = false →
 (∀ k15, Up k11 k15 → CallsG Try.prog 34 #[Value.agg #[Value.int .i64 n16, Value.int .i64 n17, Value.int .i64 n18, Value.int .i64 n19, Value.int .i64 n20, Value.int .i64 n21, Value.int .i64 n22, Value.int .i64 n23]] k15 fun k16 r15 => ∃ b27 : Bool, some (Value.bool b27) = some r15 ∧
 ((!b27) = true →
 (∀ k17, Up k16 k17 → CallsG Try.prog 9 #[] k17 fun k18 r17 => ∃ b28 : Bool, some (Value.bool b28) = some r17 ∧
 ∀ k19, Up k18 k19 → R k19 (Value.bool b28))) ∧
 ((!b27) = false →
 (∀ k20, Up k16 k20 → CallsG Try.prog 22 #[Value.agg #[Value.int .i64 n0, Value.int .i64 n1]] k20 fun k21 r20 => ∃ cs28 : Array Value, Seg 3 cs28 ∧ some (Value.agg cs28) = some r20 ∧
 ∀ k22, Up k21 k22 → CallsG Try.prog 22 #[Value.agg #[Value.int .i64 n8, Value.int .i64 n9]] k22 fun k23 r22 => ∃ cs29 : Array Value, Seg 3 cs29 ∧ some (Value.agg cs29) = some r22 ∧
 ∀ k24, Up k23 k24 → CallsG Try.prog 22 #[Value.agg #[Value.int .i64 n16, Value.int .i64 n17]] k24 fun k25 r24 => ∃ cs30 : Array Value, Seg 3 cs30 ∧ some (Value.agg cs30) = some r24 ∧
 ∀ k26, Up k25 k26 → CallsG Try.prog 35 #[Value.agg cs28, Value.agg cs29, Value.agg cs30] k26 fun k27 r26 => ∃ b31 : Bool, some (Value.bool b31) = some r26 ∧
 (b31 = true →
 (∀ k28, Up k27 k28 → CallsG Try.prog 21 #[Value.agg #[Value.int .i64 n0, Value.int .i64 n1, Value.int .i64 n2, Value.int .i64 n3, Value.int .i64 n4, Value.int .i64 n5, Value.int .i64 n6, Value.int .i64 n7]] k28 fun k29 r28 => ∃ cs32 : Array Value, Seg 9 cs32 ∧ some (Value.agg cs32) = some r28 ∧
 ∀ k30, Up k29 k30 → CallsG Try.prog 21 #[Value.agg #[Value.int .i64 n8, Value.int .i64 n9, Value.int .i64 n10, Value.int .i64 n11, Value.int .i64 n12, Value.int .i64 n13, Value.int .i64 n14, Value.int .i64 n15]] k30 fun k31 r30 => ∃ cs33 : Array Value, Seg 9 cs33 ∧ some (Value.agg cs33) = some r30 ∧
 ∀ k32, Up k31 k32 → CallsG Try.prog 21 #[Value.agg #[Value.int .i64 n16, Value.int .i64 n17, Value.int .i64 n18, Value.int .i64 n19, Value.int .i64 n20, Value.int .i64 n21, Value.int .i64 n22, Value.int .i64 n23]] k32 fun k33 r32 => ∃ cs34 : Array Value, Seg 9 cs34 ∧ some (Value.agg cs34) = some r32 ∧
 ∀ k34, Up k33 k34 → CallsG Try.prog 36 #[Value.agg cs32, Value.agg cs33, Value.agg cs34] k34 fun k35 r34 => ∃ b35 : Bool, some (Value.bool b35) = some r34 ∧
 (b35 = true →
 (∀ k36, Up k35 k36 → CallsG Try.prog 37 #[Value.agg #[Value.bool false, Value.slice none 0 0, Value.bool false, Value.slice none 0 0, Value.bool false, Value.slice none 0 0, Value.bool false, Value.slice none 0 0, Value.slice none 0 0], Value.agg cs28] k36 fun k37 r36 => ∃ cs36 : Array Value, Seg 9 cs36 ∧ some (Value.agg cs36) = some r36 ∧
 ∀ k38, Up k37 k38 → CallsG Try.prog 37 #[Value.agg #[Value.bool false, Value.slice none 0 0, Value.bool false, Value.slice none 0 0, Value.bool false, Value.slice none 0 0, Value.bool false, Value.slice none 0 0, Value.slice none 0 0], Value.agg cs29] k38 fun k39 r38 => ∃ cs37 : Array Value, Seg 9 cs37 ∧ some (Value.agg cs37) = some r38 ∧
 ∀ k40, Up k39 k40 → CallsG Try.prog 38 #[Value.agg cs36, Value.agg cs37] k40 fun k41 r40 => ∃ n38 : Int, some (Value.int .i64 n38) = some r40 ∧
 ∀ k42, Up k41 k42 → CallsG Try.prog 39 #[Value.agg cs28, Value.agg cs29] k42 fun k43 r42 => ∃ n39 : Int, some (Value.int .i64 n39) = some r42 ∧
 ∀ k44, Up k43 k44 → R k44 (Value.bool ((n38 : Int) == n39)))) ∧
 (b35 = false →
 (∀ k45, Up k35 k45 → R k45 (Value.bool false))))) ∧
 (b31 = false →
 (∀ k46, Up k27 k46 → R k46 (Value.bool false)))))))))))) :
    CallsG Try.prog 7 #[Value.agg #[Value.int .i64 n0, Value.int .i64 n1, Value.int .i64 n2, Value.int .i64 n3, Value.int .i64 n4, Value.int .i64 n5, Value.int .i64 n6, Value.int .i64 n7], Value.agg #[Value.int .i64 n8, Value.int .i64 n9, Value.int .i64 n10, Value.int .i64 n11, Value.int .i64 n12, Value.int .i64 n13, Value.int .i64 n14, Value.int .i64 n15], Value.agg #[Value.int .i64 n16, Value.int .i64 n17, Value.int .i64 n18, Value.int .i64 n19, Value.int .i64 n20, Value.int .i64 n21, Value.int .i64 n22, Value.int .i64 n23]] k R :=
  execFn_use (cfg := { opq := [28, 53] }) (args := [.agg [.var 0, .var 1, .var 2, .var 3, .var 4, .var 5, .var 6, .var 7], .agg [.var 8, .var 9, .var 10, .var 11, .var 12, .var 13, .var 14, .var 15], .agg [.var 16, .var 17, .var 18, .var 19, .var 20, .var 21, .var 22, .var 23]]) (vals := [Value.int .i64 n0, Value.int .i64 n1, Value.int .i64 n2, Value.int .i64 n3, Value.int .i64 n4, Value.int .i64 n5, Value.int .i64 n6, Value.int .i64 n7, Value.int .i64 n8, Value.int .i64 n9, Value.int .i64 n10, Value.int .i64 n11, Value.int .i64 n12, Value.int .i64 n13, Value.int .i64 n14, Value.int .i64 n15, Value.int .i64 n16, Value.int .i64 n17, Value.int .i64 n18, Value.int .i64 n19, Value.int .i64 n20, Value.int .i64 n21, Value.int .i64 n22, Value.int .i64 n23]) (kinds := [.int .i64, .int .i64, .int .i64, .int .i64, .int .i64, .int .i64, .int .i64, .int .i64, .int .i64, .int .i64, .int .i64, .int .i64, .int .i64, .int .i64, .int .i64, .int .i64, .int .i64, .int .i64, .int .i64, .int .i64, .int .i64, .int .i64, .int .i64, .int .i64]) (by kernel_rfl) ⟨⟨_, rfl⟩, ⟨⟨_, rfl⟩, ⟨⟨_, rfl⟩, ⟨⟨_, rfl⟩, ⟨⟨_, rfl⟩, ⟨⟨_, rfl⟩, ⟨⟨_, rfl⟩, ⟨⟨_, rfl⟩, ⟨⟨_, rfl⟩, ⟨⟨_, rfl⟩, ⟨⟨_, rfl⟩, ⟨⟨_, rfl⟩, ⟨⟨_, rfl⟩, ⟨⟨_, rfl⟩, ⟨⟨_, rfl⟩, ⟨⟨_, rfl⟩, ⟨⟨_, rfl⟩, ⟨⟨_, rfl⟩, ⟨⟨_, rfl⟩, ⟨⟨_, rfl⟩, ⟨⟨_, rfl⟩, ⟨⟨_, rfl⟩, ⟨⟨_, rfl⟩, ⟨⟨_, rfl⟩, trivial⟩⟩⟩⟩⟩⟩⟩⟩⟩⟩⟩⟩⟩⟩⟩⟩⟩⟩⟩⟩⟩⟩⟩⟩ (by kernel_rfl) (by kernel_rfl) h

set_option maxRecDepth 100000 in
theorem texts_vc {k : World} {R : World → Value → Prop} {n0 : Int} {n1 : Int} {n2 : Int} {n3 : Int} {n4 : Int} {n5 : Int} {n6 : Int} {n7 : Int} {n8 : Int} {n9 : Int} {n10 : Int} {n11 : Int} {n12 : Int} {n13 : Int} {n14 : Int} {n15 : Int}
    (h : ∀ k0, Up k k0 → CallsG Try.prog 9 #[] k0 fun k1 r0 => ∃ b16 : Bool, some (Value.bool b16) = some r0 ∧
 ((!b16) = true →
 (∀ k2, Up k1 k2 → R k2 (Value.bool false))) ∧
 ((!b16) = false →
 (∀ k3, Up k1 k3 → CallsG Try.prog 21 #[Value.agg #[Value.int .i64 n0, Value.int .i64 n1, Value.int .i64 n2, Value.int .i64 n3, Value.int .i64 n4, Value.int .i64 n5, Value.int .i64 n6, Value.int .i64 n7]] k3 fun k4 r3 => ∃ cs17 : Array Value, Seg 9 cs17 ∧ some (Value.agg cs17) = some r3 ∧
 ∀ k5, Up k4 k5 → CallsG Try.prog 21 #[Value.agg #[Value.int .i64 n8, Value.int .i64 n9, Value.int .i64 n10, Value.int .i64 n11, Value.int .i64 n12, Value.int .i64 n13, Value.int .i64 n14, Value.int .i64 n15]] k5 fun k6 r5 => ∃ cs18 : Array Value, Seg 9 cs18 ∧ some (Value.agg cs18) = some r5 ∧
 ∀ k7, Up k6 k7 → CallsG Try.prog 22 #[Value.agg #[Value.int .i64 n0, Value.int .i64 n1]] k7 fun k8 r7 => ∃ cs19 : Array Value, Seg 3 cs19 ∧ some (Value.agg cs19) = some r7 ∧
 ∀ k9, Up k8 k9 → CallsG Try.prog 22 #[Value.agg #[Value.int .i64 n8, Value.int .i64 n9]] k9 fun k10 r9 => ∃ cs20 : Array Value, Seg 3 cs20 ∧ some (Value.agg cs20) = some r9 ∧
 ∀ k11, Up k10 k11 → CallsG Try.prog 23 #[Value.agg cs17] k11 fun k12 r11 => ∃ s21 : ByteArray, some (Value.string s21) = some r11 ∧
 ∀ k13, Up k12 k13 → CallsG Try.prog 23 #[Value.agg cs18] k13 fun k14 r13 => ∃ s22 : ByteArray, some (Value.string s22) = some r13 ∧
 ∀ k15, Up k14 k15 → CallsG Try.prog 24 #[Value.agg cs17, Value.agg cs18] k15 fun k16 r15 => ∃ b23 : Bool, some (Value.bool b23) = some r15 ∧
 (((ByteArray.toList s21 == ByteArray.toList s22) == b23) = true →
 (∀ k17, Up k16 k17 → CallsG Try.prog 25 #[Value.agg cs19] k17 fun k18 r17 => ∃ s24 : ByteArray, some (Value.string s24) = some r17 ∧
 ∀ k19, Up k18 k19 → CallsG Try.prog 25 #[Value.agg cs20] k19 fun k20 r19 => ∃ s25 : ByteArray, some (Value.string s25) = some r19 ∧
 ∀ k21, Up k20 k21 → CallsG Try.prog 26 #[Value.agg cs19, Value.agg cs20] k21 fun k22 r21 => ∃ b26 : Bool, some (Value.bool b26) = some r21 ∧
 ∀ k23, Up k22 k23 → R k23 (Value.bool ((ByteArray.toList s24 == ByteArray.toList s25) == b26)))) ∧
 (((ByteArray.toList s21 == ByteArray.toList s22) == b23) = false →
 (∀ k24, Up k16 k24 → R k24 (Value.bool false)))))) :
    CallsG Try.prog 4 #[Value.agg #[Value.int .i64 n0, Value.int .i64 n1, Value.int .i64 n2, Value.int .i64 n3, Value.int .i64 n4, Value.int .i64 n5, Value.int .i64 n6, Value.int .i64 n7], Value.agg #[Value.int .i64 n8, Value.int .i64 n9, Value.int .i64 n10, Value.int .i64 n11, Value.int .i64 n12, Value.int .i64 n13, Value.int .i64 n14, Value.int .i64 n15]] k R :=
  execFn_use (cfg := { opq := [28, 53] }) (args := [.agg [.var 0, .var 1, .var 2, .var 3, .var 4, .var 5, .var 6, .var 7], .agg [.var 8, .var 9, .var 10, .var 11, .var 12, .var 13, .var 14, .var 15]]) (vals := [Value.int .i64 n0, Value.int .i64 n1, Value.int .i64 n2, Value.int .i64 n3, Value.int .i64 n4, Value.int .i64 n5, Value.int .i64 n6, Value.int .i64 n7, Value.int .i64 n8, Value.int .i64 n9, Value.int .i64 n10, Value.int .i64 n11, Value.int .i64 n12, Value.int .i64 n13, Value.int .i64 n14, Value.int .i64 n15]) (kinds := [.int .i64, .int .i64, .int .i64, .int .i64, .int .i64, .int .i64, .int .i64, .int .i64, .int .i64, .int .i64, .int .i64, .int .i64, .int .i64, .int .i64, .int .i64, .int .i64]) (by kernel_rfl) ⟨⟨_, rfl⟩, ⟨⟨_, rfl⟩, ⟨⟨_, rfl⟩, ⟨⟨_, rfl⟩, ⟨⟨_, rfl⟩, ⟨⟨_, rfl⟩, ⟨⟨_, rfl⟩, ⟨⟨_, rfl⟩, ⟨⟨_, rfl⟩, ⟨⟨_, rfl⟩, ⟨⟨_, rfl⟩, ⟨⟨_, rfl⟩, ⟨⟨_, rfl⟩, ⟨⟨_, rfl⟩, ⟨⟨_, rfl⟩, ⟨⟨_, rfl⟩, trivial⟩⟩⟩⟩⟩⟩⟩⟩⟩⟩⟩⟩⟩⟩⟩⟩ (by kernel_rfl) (by kernel_rfl) h

end Go.Proofs.Ytpjakokgmgggiaa
