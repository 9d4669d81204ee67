/- Several texts in one. (Printed by prep.py.) -/
import Derived.Test.YtmilhgkacmofmaaGreatProg
import Derived.Test.YtmilhgkacmofmaaGreatCeSy14
namespace Go.Proofs.YtmilhgkacmofmaaGreat
open Go.RowKit
abbrev Cl (k : World) (f : Nat) (args : Array Value) (P : World→Value→Prop) : Prop:=∀ k',Sy.Up k k'→Sy.CallsG Tryz.prog f args k' P
abbrev Gt (n : Nat) (r : Value) (Q : Array Value→Prop) : Prop:=∃ cs : Array Value,Sy.Seg n cs∧some (Value.agg cs) = some r∧Q cs
end Go.Proofs.YtmilhgkacmofmaaGreat

namespace Go.Proofs.YtmilhgkacmofmaaGreat
open Go.RowKit
open Value (agg slice int bool tuple)
open Sy (Up Sees CallsG Seg execFn_use)
set_option maxRecDepth 100000
variable {k : World} {R : World→Value→Prop}
theorem surd_vc {b0 : Bool} {A1 : Option Addr} {l1 c1 : Nat} {b2 : Bool} {A3 : Option Addr} {l3 c3 : Nat} {b4 : Bool} {A5 : Option Addr} {l5 c5 : Nat} {b6 : Bool} {A7 : Option Addr} {l7 c7 : Nat} {A8 : Option Addr} {l8 c8 : Nat}
 (h : Cl k 111 #[slice A8 l8 c8,slice A1 l1 c1] fun k1 r0=>∃ A9 l9 c9,some (slice A9 l9 c9) = some r0 ∧
 Cl k1 111 #[slice A9 l9 c9,slice A3 l3 c3] fun k3 r2=>∃ A10 l10 c10,some (slice A10 l10 c10) = some r2 ∧
 Cl k3 111 #[slice A10 l10 c10,slice A5 l5 c5] fun k5 r4=>∃ A11 l11 c11,some (slice A11 l11 c11) = some r4 ∧
 Cl k5 111 #[slice A11 l11 c11,slice A7 l7 c7] fun k7 r6=>∃ A12 l12 c12,some (slice A12 l12 c12) = some r6 ∧
 Cl k7 112 #[slice A12 l12 c12] fun k9 r8=>∃ b13,some (bool b13) = some r8 ∧
 ((!b13) = true →
 (Cl k9 97 #[slice A1 l1 c1,slice A12 l12 c12] fun k11 r10=>∃ A14 l14 c14,∃ A15 l15 c15,some (tuple #[slice A14 l14 c14,slice A15 l15 c15]) = some r10 ∧
 Cl k11 97 #[slice A3 l3 c3,slice A12 l12 c12] fun k13 r12=>∃ A16 l16 c16,∃ A17 l17 c17,some (tuple #[slice A16 l16 c16,slice A17 l17 c17]) = some r12 ∧
 Cl k13 97 #[slice A5 l5 c5,slice A12 l12 c12] fun k15 r14=>∃ A18 l18 c18,∃ A19 l19 c19,some (tuple #[slice A18 l18 c18,slice A19 l19 c19]) = some r14 ∧
 Cl k15 97 #[slice A7 l7 c7,slice A12 l12 c12] fun k17 r16=>∃ A20 l20 c20,∃ A21 l21 c21,some (tuple #[slice A20 l20 c20,slice A21 l21 c21]) = some r16 ∧
 Cl k17 97 #[slice A8 l8 c8,slice A12 l12 c12] fun k19 r18=>∃ A22 l22 c22,∃ A23 l23 c23,some (tuple #[slice A22 l22 c22,slice A23 l23 c23]) = some r18 ∧
 Cl k19 112 #[slice A22 l22 c22] fun k21 r20=>∃ b24,some (bool b24) = some r20 ∧
 (b24 = true →
 (∀ k22,Up k21 k22→R k22 (agg #[bool b0,slice A14 l14 c14,bool b2,slice A16 l16 c16,bool b4,slice A18 l18 c18,bool b6,slice A20 l20 c20,slice none 0 0]))) ∧
 (b24 = false →
 (∀ k23,Up k21 k23→R k23 (agg #[bool b0,slice A14 l14 c14,bool b2,slice A16 l16 c16,bool b4,slice A18 l18 c18,bool b6,slice A20 l20 c20,slice A22 l22 c22]))))) ∧
 ((!b13) = false →
 (Cl k9 112 #[slice A8 l8 c8] fun k25 r24=>∃ b14,some (bool b14) = some r24 ∧
 (b14 = true →
 (∀ k26,Up k25 k26→R k26 (agg #[bool b0,slice A1 l1 c1,bool b2,slice A3 l3 c3,bool b4,slice A5 l5 c5,bool b6,slice A7 l7 c7,slice none 0 0]))) ∧
 (b14 = false →
 (∀ k27,Up k25 k27→R k27 (agg #[bool b0,slice A1 l1 c1,bool b2,slice A3 l3 c3,bool b4,slice A5 l5 c5,bool b6,slice A7 l7 c7,slice A8 l8 c8])))))) :
   CallsG Tryz.prog 99 #[agg #[bool b0,slice A1 l1 c1,bool b2,slice A3 l3 c3,bool b4,slice A5 l5 c5,bool b6,slice A7 l7 c7],slice A8 l8 c8] k R :=
  execFn_use (cfg:={ opq:=[] }) (args:=[.agg [.var 0,.var 1,.var 2,.var 3,.var 4,.var 5,.var 6,.var 7],.one (.var 8)]) (vals:=[bool b0,slice A1 l1 c1,bool b2,slice A3 l3 c3,bool b4,slice A5 l5 c5,bool b6,slice A7 l7 c7,slice A8 l8 c8]) (kinds:=[.bool,.slice,.bool,.slice,.bool,.slice,.bool,.slice,.slice]) (by kernel_rfl) ⟨⟨_,rfl⟩,⟨⟨_,_,_,rfl⟩,⟨⟨_,rfl⟩,⟨⟨_,_,_,rfl⟩,⟨⟨_,rfl⟩,⟨⟨_,_,_,rfl⟩,⟨⟨_,rfl⟩,⟨⟨_,_,_,rfl⟩,⟨⟨_,_,_,rfl⟩,trivial⟩⟩⟩⟩⟩⟩⟩⟩⟩ (by kernel_rfl) (by kernel_rfl) h
theorem SAdd_vc {cs0 cs1 cs2 cs3 : Array Value} {A4 : Option Addr} {l4 c4 : Nat} {cs5 cs6 cs7 cs8 : Array Value} {A9 : Option Addr} {l9 c9 : Nat} (hcs0 : Seg 2 cs0) (hcs1 : Seg 2 cs1) (hcs2 : Seg 2 cs2) (hcs3 : Seg 2 cs3) (hcs5 : Seg 2 cs5) (hcs6 : Seg 2 cs6) (hcs7 : Seg 2 cs7) (hcs8 : Seg 2 cs8)
 (h : Cl k 96 #[slice A4 l4 c4] fun k1 r0=>∃ A10 l10 c10,some (slice A10 l10 c10) = some r0 ∧
 Cl k1 96 #[slice A9 l9 c9] fun k3 r2=>∃ A11 l11 c11,some (slice A11 l11 c11) = some r2 ∧
 Cl k3 98 #[agg cs0,slice A11 l11 c11] fun k5 r4=>Gt 2 r4 fun cs12 =>
 Cl k5 98 #[agg cs5,slice A10 l10 c10] fun k7 r6=>Gt 2 r6 fun cs13 =>
 Cl k7 64 #[agg cs12,agg cs13] fun k9 r8=>Gt 2 r8 fun cs14 =>
 Cl k9 98 #[agg cs1,slice A11 l11 c11] fun k11 r10=>Gt 2 r10 fun cs15 =>
 Cl k11 98 #[agg cs6,slice A10 l10 c10] fun k13 r12=>Gt 2 r12 fun cs16 =>
 Cl k13 64 #[agg cs15,agg cs16] fun k15 r14=>Gt 2 r14 fun cs17 =>
 Cl k15 98 #[agg cs2,slice A11 l11 c11] fun k17 r16=>Gt 2 r16 fun cs18 =>
 Cl k17 98 #[agg cs7,slice A10 l10 c10] fun k19 r18=>Gt 2 r18 fun cs19 =>
 Cl k19 64 #[agg cs18,agg cs19] fun k21 r20=>Gt 2 r20 fun cs20 =>
 Cl k21 98 #[agg cs3,slice A11 l11 c11] fun k23 r22=>Gt 2 r22 fun cs21 =>
 Cl k23 98 #[agg cs8,slice A10 l10 c10] fun k25 r24=>Gt 2 r24 fun cs22 =>
 Cl k25 64 #[agg cs21,agg cs22] fun k27 r26=>Gt 2 r26 fun cs23 =>
 Cl k27 95 #[slice A10 l10 c10,slice A11 l11 c11] fun k29 r28=>∃ A24 l24 c24,some (slice A24 l24 c24) = some r28 ∧
 Cl k29 99 #[agg (cs14.toList ++ (cs17.toList ++ (cs20.toList ++ (cs23.toList ++ ([]))))).toArray,slice A24 l24 c24] fun k31 r30=>∃ cs25,Seg 2 cs25∧∃ cs26,Seg 2 cs26∧∃ cs27,Seg 2 cs27∧∃ cs28,Seg 2 cs28∧∃ A29 l29 c29,some (agg (cs25.toList ++ (cs26.toList ++ (cs27.toList ++ (cs28.toList ++ ((slice A29 l29 c29) :: ([])))))).toArray) = some r30 ∧
 ∀ k32,Up k31 k32→R k32 (agg (cs25.toList ++ (cs26.toList ++ (cs27.toList ++ (cs28.toList ++ ((slice A29 l29 c29) :: ([])))))).toArray)) :
  CallsG Tryz.prog 87 #[agg (cs0.toList ++ (cs1.toList ++ (cs2.toList ++ (cs3.toList ++ ((slice A4 l4 c4) :: ([])))))).toArray,agg (cs5.toList ++ (cs6.toList ++ (cs7.toList ++ (cs8.toList ++ ((slice A9 l9 c9) :: ([])))))).toArray] k R :=
  execFn_use (cfg:={ opq:=[32] }) (args:=[.agg [.seg 0 2,.seg 1 2,.seg 2 2,.seg 3 2,.var 4],.agg [.seg 5 2,.seg 6 2,.seg 7 2,.seg 8 2,.var 9]]) (vals:=[agg cs0,agg cs1,agg cs2,agg cs3,slice A4 l4 c4,agg cs5,agg cs6,agg cs7,agg cs8,slice A9 l9 c9]) (kinds:=[.seg 2,.seg 2,.seg 2,.seg 2,.slice,.seg 2,.seg 2,.seg 2,.seg 2,.slice]) (by kernel_rfl) ⟨⟨cs0,rfl,hcs0⟩,⟨⟨cs1,rfl,hcs1⟩,⟨⟨cs2,rfl,hcs2⟩,⟨⟨cs3,rfl,hcs3⟩,⟨⟨_,_,_,rfl⟩,⟨⟨cs5,rfl,hcs5⟩,⟨⟨cs6,rfl,hcs6⟩,⟨⟨cs7,rfl,hcs7⟩,⟨⟨cs8,rfl,hcs8⟩,⟨⟨_,_,_,rfl⟩,trivial⟩⟩⟩⟩⟩⟩⟩⟩⟩⟩ (by kernel_rfl) (by kernel_rfl) h
theorem product_vc {cs0 cs1 cs2 cs3 cs4 cs5 cs6 cs7 : Array Value} (hcs0 : Seg 2 cs0) (hcs1 : Seg 2 cs1) (hcs2 : Seg 2 cs2) (hcs3 : Seg 2 cs3) (hcs4 : Seg 2 cs4) (hcs5 : Seg 2 cs5) (hcs6 : Seg 2 cs6) (hcs7 : Seg 2 cs7)
 (h : ∀ p8 k0,Up k k0→Sy.Blk k0 p8 33 (cs0.toList ++ (cs1.toList ++ (cs2.toList ++ (cs3.toList ++ ([]))))).toArray →
 ∀ p9 k1,Up k0 k1→Sy.Blk k1 p9 33 (cs4.toList ++ (cs5.toList ++ (cs6.toList ++ (cs7.toList ++ ([]))))).toArray →
 Cl k1 141 #[int .i64 0,int .i64 0,(Value.pointer (some ⟨p8,0,none⟩)),(Value.pointer (some ⟨p9,0,none⟩))] fun k3 r2=>Gt 2 r2 fun cs10 =>
 Cl k3 141 #[int .i64 1,int .i64 1,(Value.pointer (some ⟨p8,0,none⟩)),(Value.pointer (some ⟨p9,0,none⟩))] fun k5 r4=>Gt 2 r4 fun cs11 =>
 Cl k5 65 #[agg cs11,int .u64 2] fun k7 r6=>Gt 2 r6 fun cs12 =>
 Cl k7 64 #[agg cs10,agg cs12] fun k9 r8=>Gt 2 r8 fun cs13 =>
 Cl k9 141 #[int .i64 2,int .i64 2,(Value.pointer (some ⟨p8,0,none⟩)),(Value.pointer (some ⟨p9,0,none⟩))] fun k11 r10=>Gt 2 r10 fun cs14 =>
 Cl k11 65 #[agg cs14,int .u64 3] fun k13 r12=>Gt 2 r12 fun cs15 =>
 Cl k13 64 #[agg cs13,agg cs15] fun k15 r14=>Gt 2 r14 fun cs16 =>
 Cl k15 141 #[int .i64 3,int .i64 3,(Value.pointer (some ⟨p8,0,none⟩)),(Value.pointer (some ⟨p9,0,none⟩))] fun k17 r16=>Gt 2 r16 fun cs17 =>
 Cl k17 65 #[agg cs17,int .u64 6] fun k19 r18=>Gt 2 r18 fun cs18 =>
 Cl k19 64 #[agg cs16,agg cs18] fun k21 r20=>Gt 2 r20 fun cs19 =>
 Cl k21 141 #[int .i64 0,int .i64 1,(Value.pointer (some ⟨p8,0,none⟩)),(Value.pointer (some ⟨p9,0,none⟩))] fun k23 r22=>Gt 2 r22 fun cs20 =>
 Cl k23 141 #[int .i64 1,int .i64 0,(Value.pointer (some ⟨p8,0,none⟩)),(Value.pointer (some ⟨p9,0,none⟩))] fun k25 r24=>Gt 2 r24 fun cs21 =>
 Cl k25 64 #[agg cs20,agg cs21] fun k27 r26=>Gt 2 r26 fun cs22 =>
 Cl k27 141 #[int .i64 2,int .i64 3,(Value.pointer (some ⟨p8,0,none⟩)),(Value.pointer (some ⟨p9,0,none⟩))] fun k29 r28=>Gt 2 r28 fun cs23 =>
 Cl k29 141 #[int .i64 3,int .i64 2,(Value.pointer (some ⟨p8,0,none⟩)),(Value.pointer (some ⟨p9,0,none⟩))] fun k31 r30=>Gt 2 r30 fun cs24 =>
 Cl k31 64 #[agg cs23,agg cs24] fun k33 r32=>Gt 2 r32 fun cs25 =>
 Cl k33 65 #[agg cs25,int .u64 3] fun k35 r34=>Gt 2 r34 fun cs26 =>
 Cl k35 64 #[agg cs22,agg cs26] fun k37 r36=>Gt 2 r36 fun cs27 =>
 Cl k37 141 #[int .i64 0,int .i64 2,(Value.pointer (some ⟨p8,0,none⟩)),(Value.pointer (some ⟨p9,0,none⟩))] fun k39 r38=>Gt 2 r38 fun cs28 =>
 Cl k39 141 #[int .i64 2,int .i64 0,(Value.pointer (some ⟨p8,0,none⟩)),(Value.pointer (some ⟨p9,0,none⟩))] fun k41 r40=>Gt 2 r40 fun cs29 =>
 Cl k41 64 #[agg cs28,agg cs29] fun k43 r42=>Gt 2 r42 fun cs30 =>
 Cl k43 141 #[int .i64 1,int .i64 3,(Value.pointer (some ⟨p8,0,none⟩)),(Value.pointer (some ⟨p9,0,none⟩))] fun k45 r44=>Gt 2 r44 fun cs31 =>
 Cl k45 141 #[int .i64 3,int .i64 1,(Value.pointer (some ⟨p8,0,none⟩)),(Value.pointer (some ⟨p9,0,none⟩))] fun k47 r46=>Gt 2 r46 fun cs32 =>
 Cl k47 64 #[agg cs31,agg cs32] fun k49 r48=>Gt 2 r48 fun cs33 =>
 Cl k49 65 #[agg cs33,int .u64 2] fun k51 r50=>Gt 2 r50 fun cs34 =>
 Cl k51 64 #[agg cs30,agg cs34] fun k53 r52=>Gt 2 r52 fun cs35 =>
 Cl k53 141 #[int .i64 0,int .i64 3,(Value.pointer (some ⟨p8,0,none⟩)),(Value.pointer (some ⟨p9,0,none⟩))] fun k55 r54=>Gt 2 r54 fun cs36 =>
 Cl k55 141 #[int .i64 3,int .i64 0,(Value.pointer (some ⟨p8,0,none⟩)),(Value.pointer (some ⟨p9,0,none⟩))] fun k57 r56=>Gt 2 r56 fun cs37 =>
 Cl k57 64 #[agg cs36,agg cs37] fun k59 r58=>Gt 2 r58 fun cs38 =>
 Cl k59 141 #[int .i64 1,int .i64 2,(Value.pointer (some ⟨p8,0,none⟩)),(Value.pointer (some ⟨p9,0,none⟩))] fun k61 r60=>Gt 2 r60 fun cs39 =>
 Cl k61 64 #[agg cs38,agg cs39] fun k63 r62=>Gt 2 r62 fun cs40 =>
 Cl k63 141 #[int .i64 2,int .i64 1,(Value.pointer (some ⟨p8,0,none⟩)),(Value.pointer (some ⟨p9,0,none⟩))] fun k65 r64=>Gt 2 r64 fun cs41 =>
 Cl k65 64 #[agg cs40,agg cs41] fun k67 r66=>Gt 2 r66 fun cs42 =>
 ∀ k68,Up k67 k68→R k68 (agg (cs19.toList ++ (cs27.toList ++ (cs35.toList ++ (cs42.toList ++ ([]))))).toArray)) :
  CallsG Tryz.prog 117 #[agg (cs0.toList ++ (cs1.toList ++ (cs2.toList ++ (cs3.toList ++ ([]))))).toArray,agg (cs4.toList ++ (cs5.toList ++ (cs6.toList ++ (cs7.toList ++ ([]))))).toArray] k R :=
  execFn_use (cfg:={ opq:=[32] }) (args:=[.agg [.seg 0 2,.seg 1 2,.seg 2 2,.seg 3 2],.agg [.seg 4 2,.seg 5 2,.seg 6 2,.seg 7 2]]) (vals:=[agg cs0,agg cs1,agg cs2,agg cs3,agg cs4,agg cs5,agg cs6,agg cs7]) (kinds:=[.seg 2,.seg 2,.seg 2,.seg 2,.seg 2,.seg 2,.seg 2,.seg 2]) (by kernel_rfl) ⟨⟨cs0,rfl,hcs0⟩,⟨⟨cs1,rfl,hcs1⟩,⟨⟨cs2,rfl,hcs2⟩,⟨⟨cs3,rfl,hcs3⟩,⟨⟨cs4,rfl,hcs4⟩,⟨⟨cs5,rfl,hcs5⟩,⟨⟨cs6,rfl,hcs6⟩,⟨⟨cs7,rfl,hcs7⟩,trivial⟩⟩⟩⟩⟩⟩⟩⟩ (by kernel_rfl) (by kernel_rfl) h
theorem SNeg_vc {cs0 cs1 cs2 cs3 : Array Value} {A4 : Option Addr} {l4 c4 : Nat} (hcs0 : Seg 2 cs0) (hcs1 : Seg 2 cs1) (hcs2 : Seg 2 cs2) (hcs3 : Seg 2 cs3)
 (h : Cl k 66 #[agg cs0] fun k1 r0=>Gt 2 r0 fun cs5 =>
 Cl k1 66 #[agg cs1] fun k3 r2=>Gt 2 r2 fun cs6 =>
 Cl k3 66 #[agg cs2] fun k5 r4=>Gt 2 r4 fun cs7 =>
 Cl k5 66 #[agg cs3] fun k7 r6=>Gt 2 r6 fun cs8 =>
 ∀ k8,Up k7 k8→R k8 (agg (cs5.toList ++ (cs6.toList ++ (cs7.toList ++ (cs8.toList ++ ((slice A4 l4 c4) :: ([])))))).toArray)) :
  CallsG Tryz.prog 109 #[agg (cs0.toList ++ (cs1.toList ++ (cs2.toList ++ (cs3.toList ++ ((slice A4 l4 c4) :: ([])))))).toArray] k R :=
  execFn_use (cfg:={ opq:=[32] }) (args:=[.agg [.seg 0 2,.seg 1 2,.seg 2 2,.seg 3 2,.var 4]]) (vals:=[agg cs0,agg cs1,agg cs2,agg cs3,slice A4 l4 c4]) (kinds:=[.seg 2,.seg 2,.seg 2,.seg 2,.slice]) (by kernel_rfl) ⟨⟨cs0,rfl,hcs0⟩,⟨⟨cs1,rfl,hcs1⟩,⟨⟨cs2,rfl,hcs2⟩,⟨⟨cs3,rfl,hcs3⟩,⟨⟨_,_,_,rfl⟩,trivial⟩⟩⟩⟩⟩ (by kernel_rfl) (by kernel_rfl) h
theorem SZero_vc {b0 : Bool} {A1 : Option Addr} {l1 c1 : Nat} {b2 : Bool} {A3 : Option Addr} {l3 c3 : Nat} {b4 : Bool} {A5 : Option Addr} {l5 c5 : Nat} {b6 : Bool} {A7 : Option Addr} {l7 c7 : Nat} {A8 : Option Addr} {l8 c8 : Nat}
 (h : true = true∧(true = true∧(true = true∧(true = true∧(∀ k0,Up k k0→R k0 (bool (((IntKind.wrap .i64 ((IntKind.wrap .i64 ((IntKind.wrap .i64 ((l1 : Nat)+(l3 : Nat)))+(l5 : Nat)))+(l7 : Nat))) : Int) == 0))))))) :
 CallsG Tryz.prog 32 #[agg #[bool b0,slice A1 l1 c1,bool b2,slice A3 l3 c3,bool b4,slice A5 l5 c5,bool b6,slice A7 l7 c7,slice A8 l8 c8]] k R :=
 execFn_use (cfg:={ opq:=[] }) (args:=[.agg [.var 0,.var 1,.var 2,.var 3,.var 4,.var 5,.var 6,.var 7,.var 8]]) (vals:=[bool b0,slice A1 l1 c1,bool b2,slice A3 l3 c3,bool b4,slice A5 l5 c5,bool b6,slice A7 l7 c7,slice A8 l8 c8]) (kinds:=[.bool,.slice,.bool,.slice,.bool,.slice,.bool,.slice,.slice]) (by kernel_rfl) ⟨⟨_,rfl⟩,⟨⟨_,_,_,rfl⟩,⟨⟨_,rfl⟩,⟨⟨_,_,_,rfl⟩,⟨⟨_,rfl⟩,⟨⟨_,_,_,rfl⟩,⟨⟨_,rfl⟩,⟨⟨_,_,_,rfl⟩,⟨⟨_,_,_,rfl⟩,trivial⟩⟩⟩⟩⟩⟩⟩⟩⟩ (by kernel_rfl) (by kernel_rfl) h
theorem SSame_vc {cs0 cs1 : Array Value} (hcs0 : Seg 9 cs0) (hcs1 : Seg 9 cs1)
 (h : Cl k 67 #[agg cs0,agg cs1] fun k1 r0=>Gt 9 r0 fun cs2 =>
 Cl k1 32 #[agg cs2] fun k3 r2=>∃ b3,some (bool b3) = some r2 ∧
 ∀ k4,Up k3 k4→R k4 (bool b3)) :
  CallsG Tryz.prog 33 #[agg cs0,agg cs1] k R :=
  execFn_use (cfg:={ opq:=[35] }) (args:=[.agg [.seg 0 9],.agg [.seg 1 9]]) (vals:=[agg cs0,agg cs1]) (kinds:=[.seg 9,.seg 9]) (by kernel_rfl) ⟨⟨cs0,rfl,hcs0⟩,⟨⟨cs1,rfl,hcs1⟩,trivial⟩⟩ (by kernel_rfl) (by kernel_rfl) h
theorem SSub_vc {cs0 cs1 : Array Value} (hcs0 : Seg 9 cs0) (hcs1 : Seg 9 cs1)
 (h : Cl k 109 #[agg cs1] fun k1 r0=>Gt 9 r0 fun cs2 =>
 Cl k1 87 #[agg cs0,agg cs2] fun k3 r2=>Gt 9 r2 fun cs3 =>
 ∀ k4,Up k3 k4→R k4 (agg cs3)) :
  CallsG Tryz.prog 67 #[agg cs0,agg cs1] k R :=
  execFn_use (cfg:={ opq:=[35] }) (args:=[.agg [.seg 0 9],.agg [.seg 1 9]]) (vals:=[agg cs0,agg cs1]) (kinds:=[.seg 9,.seg 9]) (by kernel_rfl) ⟨⟨cs0,rfl,hcs0⟩,⟨⟨cs1,rfl,hcs1⟩,trivial⟩⟩ (by kernel_rfl) (by kernel_rfl) h
theorem Make_vc {cs0 : Array Value} {A1 : Option Addr} {l1 c1 : Nat} {cs2 : Array Value} {A3 : Option Addr} {l3 c3 : Nat} {cs4 : Array Value} {A5 : Option Addr} {l5 c5 : Nat} {cs6 : Array Value} {A7 : Option Addr} {l7 c7 : Nat} (hcs0 : Seg 2 cs0) (hcs2 : Seg 2 cs2) (hcs4 : Seg 2 cs4) (hcs6 : Seg 2 cs6)
 (h : Cl k 94 #[int .u64 1] fun k1 r0=>∃ A8 l8 c8,some (slice A8 l8 c8) = some r0 ∧
 Cl k1 96 #[slice A1 l1 c1] fun k3 r2=>∃ A9 l9 c9,some (slice A9 l9 c9) = some r2 ∧
 Cl k3 95 #[slice A8 l8 c8,slice A9 l9 c9] fun k5 r4=>∃ A10 l10 c10,some (slice A10 l10 c10) = some r4 ∧
 Cl k5 96 #[slice A3 l3 c3] fun k7 r6=>∃ A11 l11 c11,some (slice A11 l11 c11) = some r6 ∧
 Cl k7 95 #[slice A10 l10 c10,slice A11 l11 c11] fun k9 r8=>∃ A12 l12 c12,some (slice A12 l12 c12) = some r8 ∧
 Cl k9 96 #[slice A5 l5 c5] fun k11 r10=>∃ A13 l13 c13,some (slice A13 l13 c13) = some r10 ∧
 Cl k11 95 #[slice A12 l12 c12,slice A13 l13 c13] fun k13 r12=>∃ A14 l14 c14,some (slice A14 l14 c14) = some r12 ∧
 Cl k13 96 #[slice A7 l7 c7] fun k15 r14=>∃ A15 l15 c15,some (slice A15 l15 c15) = some r14 ∧
 Cl k15 95 #[slice A14 l14 c14,slice A15 l15 c15] fun k17 r16=>∃ A16 l16 c16,some (slice A16 l16 c16) = some r16 ∧
 Cl k17 96 #[slice A1 l1 c1] fun k19 r18=>∃ A17 l17 c17,some (slice A17 l17 c17) = some r18 ∧
 Cl k19 97 #[slice A16 l16 c16,slice A17 l17 c17] fun k21 r20=>∃ A18 l18 c18,∃ A19 l19 c19,some (tuple #[slice A18 l18 c18,slice A19 l19 c19]) = some r20 ∧
 Cl k21 98 #[agg cs0,slice A18 l18 c18] fun k23 r22=>Gt 2 r22 fun cs20 =>
 Cl k23 96 #[slice A3 l3 c3] fun k25 r24=>∃ A21 l21 c21,some (slice A21 l21 c21) = some r24 ∧
 Cl k25 97 #[slice A16 l16 c16,slice A21 l21 c21] fun k27 r26=>∃ A22 l22 c22,∃ A23 l23 c23,some (tuple #[slice A22 l22 c22,slice A23 l23 c23]) = some r26 ∧
 Cl k27 98 #[agg cs2,slice A22 l22 c22] fun k29 r28=>Gt 2 r28 fun cs24 =>
 Cl k29 96 #[slice A5 l5 c5] fun k31 r30=>∃ A25 l25 c25,some (slice A25 l25 c25) = some r30 ∧
 Cl k31 97 #[slice A16 l16 c16,slice A25 l25 c25] fun k33 r32=>∃ A26 l26 c26,∃ A27 l27 c27,some (tuple #[slice A26 l26 c26,slice A27 l27 c27]) = some r32 ∧
 Cl k33 98 #[agg cs4,slice A26 l26 c26] fun k35 r34=>Gt 2 r34 fun cs28 =>
 Cl k35 96 #[slice A7 l7 c7] fun k37 r36=>∃ A29 l29 c29,some (slice A29 l29 c29) = some r36 ∧
 Cl k37 97 #[slice A16 l16 c16,slice A29 l29 c29] fun k39 r38=>∃ A30 l30 c30,∃ A31 l31 c31,some (tuple #[slice A30 l30 c30,slice A31 l31 c31]) = some r38 ∧
 Cl k39 98 #[agg cs6,slice A30 l30 c30] fun k41 r40=>Gt 2 r40 fun cs32 =>
 Cl k41 99 #[agg (cs20.toList ++ (cs24.toList ++ (cs28.toList ++ (cs32.toList ++ ([]))))).toArray,slice A16 l16 c16] fun k43 r42=>∃ cs33,Seg 2 cs33∧∃ cs34,Seg 2 cs34∧∃ cs35,Seg 2 cs35∧∃ cs36,Seg 2 cs36∧∃ A37 l37 c37,some (agg (cs33.toList ++ (cs34.toList ++ (cs35.toList ++ (cs36.toList ++ ((slice A37 l37 c37) :: ([])))))).toArray) = some r42 ∧
 ∀ k44,Up k43 k44→R k44 (agg (cs33.toList ++ (cs34.toList ++ (cs35.toList ++ (cs36.toList ++ ((slice A37 l37 c37) :: ([])))))).toArray)) :
  CallsG Tryz.prog 51 #[agg (cs0.toList ++ ((slice A1 l1 c1) :: (cs2.toList ++ ((slice A3 l3 c3) :: (cs4.toList ++ ((slice A5 l5 c5) :: (cs6.toList ++ ((slice A7 l7 c7) :: ([]))))))))).toArray] k R :=
  execFn_use (cfg:={ opq:=[32] }) (args:=[.agg [.seg 0 2,.var 1,.seg 2 2,.var 3,.seg 4 2,.var 5,.seg 6 2,.var 7]]) (vals:=[agg cs0,slice A1 l1 c1,agg cs2,slice A3 l3 c3,agg cs4,slice A5 l5 c5,agg cs6,slice A7 l7 c7]) (kinds:=[.seg 2,.slice,.seg 2,.slice,.seg 2,.slice,.seg 2,.slice]) (by kernel_rfl) ⟨⟨cs0,rfl,hcs0⟩,⟨⟨_,_,_,rfl⟩,⟨⟨cs2,rfl,hcs2⟩,⟨⟨_,_,_,rfl⟩,⟨⟨cs4,rfl,hcs4⟩,⟨⟨_,_,_,rfl⟩,⟨⟨cs6,rfl,hcs6⟩,⟨⟨_,_,_,rfl⟩,trivial⟩⟩⟩⟩⟩⟩⟩⟩ (by kernel_rfl) (by kernel_rfl) h
theorem Parts_vc {cs0 cs1 cs2 cs3 : Array Value} {A4 : Option Addr} {l4 c4 : Nat} (hcs0 : Seg 2 cs0) (hcs1 : Seg 2 cs1) (hcs2 : Seg 2 cs2) (hcs3 : Seg 2 cs3)
 (h : Cl k 96 #[slice A4 l4 c4] fun k1 r0=>∃ A5 l5 c5,some (slice A5 l5 c5) = some r0 ∧
 Cl k1 73 #[agg cs0,slice A5 l5 c5] fun k3 r2=>Gt 3 r2 fun cs6 =>
 Cl k3 96 #[slice A4 l4 c4] fun k5 r4=>∃ A7 l7 c7,some (slice A7 l7 c7) = some r4 ∧
 Cl k5 73 #[agg cs1,slice A7 l7 c7] fun k7 r6=>Gt 3 r6 fun cs8 =>
 Cl k7 96 #[slice A4 l4 c4] fun k9 r8=>∃ A9 l9 c9,some (slice A9 l9 c9) = some r8 ∧
 Cl k9 73 #[agg cs2,slice A9 l9 c9] fun k11 r10=>Gt 3 r10 fun cs10 =>
 Cl k11 96 #[slice A4 l4 c4] fun k13 r12=>∃ A11 l11 c11,some (slice A11 l11 c11) = some r12 ∧
 Cl k13 73 #[agg cs3,slice A11 l11 c11] fun k15 r14=>Gt 3 r14 fun cs12 =>
 ∀ k16,Up k15 k16→R k16 (agg (cs6.toList ++ (cs8.toList ++ (cs10.toList ++ (cs12.toList ++ ([]))))).toArray)) :
  CallsG Tryz.prog 90 #[agg (cs0.toList ++ (cs1.toList ++ (cs2.toList ++ (cs3.toList ++ ((slice A4 l4 c4) :: ([])))))).toArray] k R :=
  execFn_use (cfg:={ opq:=[32,63] }) (args:=[.agg [.seg 0 2,.seg 1 2,.seg 2 2,.seg 3 2,.var 4]]) (vals:=[agg cs0,agg cs1,agg cs2,agg cs3,slice A4 l4 c4]) (kinds:=[.seg 2,.seg 2,.seg 2,.seg 2,.slice]) (by kernel_rfl) ⟨⟨cs0,rfl,hcs0⟩,⟨⟨cs1,rfl,hcs1⟩,⟨⟨cs2,rfl,hcs2⟩,⟨⟨cs3,rfl,hcs3⟩,⟨⟨_,_,_,rfl⟩,trivial⟩⟩⟩⟩⟩ (by kernel_rfl) (by kernel_rfl) h
theorem SMul_vc {cs0 cs1 cs2 cs3 : Array Value} {A4 : Option Addr} {l4 c4 : Nat} {cs5 cs6 cs7 cs8 : Array Value} {A9 : Option Addr} {l9 c9 : Nat} (hcs0 : Seg 2 cs0) (hcs1 : Seg 2 cs1) (hcs2 : Seg 2 cs2) (hcs3 : Seg 2 cs3) (hcs5 : Seg 2 cs5) (hcs6 : Seg 2 cs6) (hcs7 : Seg 2 cs7) (hcs8 : Seg 2 cs8)
 (h : Cl k 117 #[agg (cs0.toList ++ (cs1.toList ++ (cs2.toList ++ (cs3.toList ++ ([]))))).toArray,agg (cs5.toList ++ (cs6.toList ++ (cs7.toList ++ (cs8.toList ++ ([]))))).toArray] fun k1 r0=>∃ cs10,Seg 2 cs10∧∃ cs11,Seg 2 cs11∧∃ cs12,Seg 2 cs12∧∃ cs13,Seg 2 cs13∧some (agg (cs10.toList ++ (cs11.toList ++ (cs12.toList ++ (cs13.toList ++ ([]))))).toArray) = some r0 ∧
 Cl k1 96 #[slice A4 l4 c4] fun k3 r2=>∃ A14 l14 c14,some (slice A14 l14 c14) = some r2 ∧
 Cl k3 96 #[slice A9 l9 c9] fun k5 r4=>∃ A15 l15 c15,some (slice A15 l15 c15) = some r4 ∧
 Cl k5 95 #[slice A14 l14 c14,slice A15 l15 c15] fun k7 r6=>∃ A16 l16 c16,some (slice A16 l16 c16) = some r6 ∧
 Cl k7 99 #[agg (cs10.toList ++ (cs11.toList ++ (cs12.toList ++ (cs13.toList ++ ([]))))).toArray,slice A16 l16 c16] fun k9 r8=>∃ cs17,Seg 2 cs17∧∃ cs18,Seg 2 cs18∧∃ cs19,Seg 2 cs19∧∃ cs20,Seg 2 cs20∧∃ A21 l21 c21,some (agg (cs17.toList ++ (cs18.toList ++ (cs19.toList ++ (cs20.toList ++ ((slice A21 l21 c21) :: ([])))))).toArray) = some r8 ∧
 ∀ k10,Up k9 k10→R k10 (agg (cs17.toList ++ (cs18.toList ++ (cs19.toList ++ (cs20.toList ++ ((slice A21 l21 c21) :: ([])))))).toArray)) :
  CallsG Tryz.prog 86 #[agg (cs0.toList ++ (cs1.toList ++ (cs2.toList ++ (cs3.toList ++ ((slice A4 l4 c4) :: ([])))))).toArray,agg (cs5.toList ++ (cs6.toList ++ (cs7.toList ++ (cs8.toList ++ ((slice A9 l9 c9) :: ([])))))).toArray] k R :=
  execFn_use (cfg:={ opq:=[32] }) (args:=[.agg [.seg 0 2,.seg 1 2,.seg 2 2,.seg 3 2,.var 4],.agg [.seg 5 2,.seg 6 2,.seg 7 2,.seg 8 2,.var 9]]) (vals:=[agg cs0,agg cs1,agg cs2,agg cs3,slice A4 l4 c4,agg cs5,agg cs6,agg cs7,agg cs8,slice A9 l9 c9]) (kinds:=[.seg 2,.seg 2,.seg 2,.seg 2,.slice,.seg 2,.seg 2,.seg 2,.seg 2,.slice]) (by kernel_rfl) ⟨⟨cs0,rfl,hcs0⟩,⟨⟨cs1,rfl,hcs1⟩,⟨⟨cs2,rfl,hcs2⟩,⟨⟨cs3,rfl,hcs3⟩,⟨⟨_,_,_,rfl⟩,⟨⟨cs5,rfl,hcs5⟩,⟨⟨cs6,rfl,hcs6⟩,⟨⟨cs7,rfl,hcs7⟩,⟨⟨cs8,rfl,hcs8⟩,⟨⟨_,_,_,rfl⟩,trivial⟩⟩⟩⟩⟩⟩⟩⟩⟩⟩ (by kernel_rfl) (by kernel_rfl) h
theorem SOf_vc {cs0 cs1 cs2 cs3 : Array Value} {A4 : Option Addr} {l4 c4 : Nat} {cs5 : Array Value} {A6 : Option Addr} {l6 c6 : Nat} (hcs0 : Seg 2 cs0) (hcs1 : Seg 2 cs1) (hcs2 : Seg 2 cs2) (hcs3 : Seg 2 cs3) (hcs5 : Seg 2 cs5)
 (h : ∀ k0,Up k k0→R k0 (agg (cs5.toList ++ ((bool false) :: ((slice none 0 0) :: ((bool false) :: ((slice none 0 0) :: ((bool false) :: ((slice none 0 0) :: ((slice A6 l6 c6) :: ([]))))))))).toArray)) :
 CallsG Tryz.prog 26 #[agg (cs0.toList ++ (cs1.toList ++ (cs2.toList ++ (cs3.toList ++ ((slice A4 l4 c4) :: ([])))))).toArray,agg (cs5.toList ++ ((slice A6 l6 c6) :: ([]))).toArray] k R :=
 execFn_use (cfg:={ opq:=[32] }) (args:=[.agg [.seg 0 2,.seg 1 2,.seg 2 2,.seg 3 2,.var 4],.agg [.seg 5 2,.var 6]]) (vals:=[agg cs0,agg cs1,agg cs2,agg cs3,slice A4 l4 c4,agg cs5,slice A6 l6 c6]) (kinds:=[.seg 2,.seg 2,.seg 2,.seg 2,.slice,.seg 2,.slice]) (by kernel_rfl) ⟨⟨cs0,rfl,hcs0⟩,⟨⟨cs1,rfl,hcs1⟩,⟨⟨cs2,rfl,hcs2⟩,⟨⟨cs3,rfl,hcs3⟩,⟨⟨_,_,_,rfl⟩,⟨⟨cs5,rfl,hcs5⟩,⟨⟨_,_,_,rfl⟩,trivial⟩⟩⟩⟩⟩⟩⟩ (by kernel_rfl) (by kernel_rfl) h
theorem SCmp_vc {cs0 cs1 : Array Value} (hcs0 : Seg 9 cs0) (hcs1 : Seg 9 cs1)
 (h : Cl k 67 #[agg cs0,agg cs1] fun k1 r0=>Gt 9 r0 fun cs2 =>
 Cl k1 27 #[agg cs2] fun k3 r2=>∃ n3,some (int .i64 n3) = some r2 ∧
 ∀ k4,Up k3 k4→R k4 (int .i64 n3)) :
  CallsG Tryz.prog 28 #[agg cs0,agg cs1] k R :=
  execFn_use (cfg:={ opq:=[35] }) (args:=[.agg [.seg 0 9],.agg [.seg 1 9]]) (vals:=[agg cs0,agg cs1]) (kinds:=[.seg 9,.seg 9]) (by kernel_rfl) ⟨⟨cs0,rfl,hcs0⟩,⟨⟨cs1,rfl,hcs1⟩,trivial⟩⟩ (by kernel_rfl) (by kernel_rfl) h
theorem SSign_vc {cs0 cs1 cs2 cs3 : Array Value} {A4 : Option Addr} {l4 c4 : Nat} (hcs0 : Seg 2 cs0) (hcs1 : Seg 2 cs1) (hcs2 : Seg 2 cs2) (hcs3 : Seg 2 cs3)
 (h : ∀ p5 k0,Up k k0→Sy.Blk k0 p5 32 (cs0.toList ++ ([])).toArray →
 ∀ p6 k1,Up k0 k1→Sy.Blk k1 p6 32 (cs1.toList ++ ([])).toArray →
 ∀ p7 k2,Up k1 k2→Sy.Blk k2 p7 32 (cs2.toList ++ ([])).toArray →
 ∀ p8 k3,Up k2 k3→Sy.Blk k3 p8 32 (cs3.toList ++ ([])).toArray →
 Cl k3 61 #[agg cs0,agg cs1] fun k5 r4=>∃ n9,some (int .i64 n9) = some r4 ∧
 Cl k5 61 #[agg cs2,agg cs3] fun k7 r6=>∃ n10,some (int .i64 n10) = some r6 ∧
 Cl k7 60 #[int .i64 n9,int .i64 n10,Value.func (.func 62) #[] #[(Value.pointer (some ⟨p5,0,none⟩)),(Value.pointer (some ⟨p6,0,none⟩)),(Value.pointer (some ⟨p7,0,none⟩)),(Value.pointer (some ⟨p8,0,none⟩))]] fun k9 r8=>∃ n11,some (int .i64 n11) = some r8 ∧
 ∀ k10,Up k9 k10→R k10 (int .i64 n11)) :
  CallsG Tryz.prog 27 #[agg (cs0.toList ++ (cs1.toList ++ (cs2.toList ++ (cs3.toList ++ ((slice A4 l4 c4) :: ([])))))).toArray] k R :=
  execFn_use (cfg:={ opq:=[32] }) (args:=[.agg [.seg 0 2,.seg 1 2,.seg 2 2,.seg 3 2,.var 4]]) (vals:=[agg cs0,agg cs1,agg cs2,agg cs3,slice A4 l4 c4]) (kinds:=[.seg 2,.seg 2,.seg 2,.seg 2,.slice]) (by kernel_rfl) ⟨⟨cs0,rfl,hcs0⟩,⟨⟨cs1,rfl,hcs1⟩,⟨⟨cs2,rfl,hcs2⟩,⟨⟨cs3,rfl,hcs3⟩,⟨⟨_,_,_,rfl⟩,trivial⟩⟩⟩⟩⟩ (by kernel_rfl) (by kernel_rfl) h
theorem sign2_vc {cs0 cs1 : Array Value} (hcs0 : Seg 2 cs0) (hcs1 : Seg 2 cs1)
 (h : ∀ p2 k0,Up k k0→Sy.Blk k0 p2 32 (cs0.toList ++ ([])).toArray →
 ∀ p3 k1,Up k0 k1→Sy.Blk k1 p3 32 (cs1.toList ++ ([])).toArray →
 Cl k1 104 #[agg cs0] fun k3 r2=>∃ n4,some (int .i64 n4) = some r2 ∧
 Cl k3 104 #[agg cs1] fun k5 r4=>∃ n5,some (int .i64 n5) = some r4 ∧
 Cl k5 60 #[int .i64 n4,int .i64 n5,Value.func (.func 105) #[] #[(Value.pointer (some ⟨p2,0,none⟩)),(Value.pointer (some ⟨p3,0,none⟩))]] fun k7 r6=>∃ n6,some (int .i64 n6) = some r6 ∧
 ∀ k8,Up k7 k8→R k8 (int .i64 n6)) :
  CallsG Tryz.prog 61 #[agg cs0,agg cs1] k R :=
  execFn_use (cfg:={ opq:=[32] }) (args:=[.agg [.seg 0 2],.agg [.seg 1 2]]) (vals:=[agg cs0,agg cs1]) (kinds:=[.seg 2,.seg 2]) (by kernel_rfl) ⟨⟨cs0,rfl,hcs0⟩,⟨⟨cs1,rfl,hcs1⟩,trivial⟩⟩ (by kernel_rfl) (by kernel_rfl) h
end Go.Proofs.YtmilhgkacmofmaaGreat

