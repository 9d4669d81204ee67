/- Several texts in one. (Printed by prep.py.) -/
import Derived.Test.YtpeakfmjibfkpaaGreatBaVS
import Derived.Test.YtpeakfmjibfkpaaGreatProg
import Derived.Test.YtpeakfmjibfkpaaGreatBaSy14
namespace Go.Proofs.YtpeakfmjibfkpaaGreat
open Go.RowKit
open Value (agg slice int bool tuple)
open Sy (Up Sees CallsG Seg aA)
set_option maxRecDepth 100000
variable {k:World}{R:World→Value→Prop}{A0 A1 A2 A3 A4 A5 A6 A7 A8 A9 A10 A11 A12 A13 A14 A15 A16 A17:Option Addr}{M3 c0 c1 c2 c3 c4 c5 c6 c7 c8 c9 c10 c11 c12 c13 c14 c15 c16 c17 l0 l1 l2 l3 l4 l5 l6 l7 l8 l9 l10 l11 l12 l13 l14 l15 l16 l17:Nat}{cs0 cs1 cs2 cs3 cs4 cs7 cs8 cs9 cs10 cs11 cs12 cs13:Array Value}{n0 n1 n2 n3 n4 n5 n6 n7 n18 n19 n20 n21 n22 n23 n24 n25:Int}
theorem aEw (hcs3:Seg 3 cs3) (hcs4:Seg 3 cs4)
 (h:Cl k 54 #[S3 A0 l0 c0 A1 l1 c1 A2 l2 c2] fun k1 r0=>Gi r0 fun n5=>
 Br ((n5:Int) != 0) (Rt R k1 (tuple #[Z6,int .i64 n5])) (Cl k1 55 #[agg cs4,agg cs3] fun k4 r3=>Gb r3 fun b6=>
 Br b6 (Rt R k4 (tuple #[Z6,int .i64 7])) (Cl k4 56 #[S3 A0 l0 c0 A1 l1 c1 A2 l2 c2,agg cs3] fun k7 r6=>∃ A7 l7 c7,∃ A8 l8 c8,∃ A9 l9 c9,some (S3 A7 l7 c7 A8 l8 c8 A9 l9 c9)=some r6∧
 Cl k7 56 #[S3 A0 l0 c0 A1 l1 c1 A2 l2 c2,agg cs4] fun k9 r8=>∃ A10 l10 c10,∃ A11 l11 c11,∃ A12 l12 c12,some (S3 A10 l10 c10 A11 l11 c11 A12 l12 c12)=some r8∧
 Rt R k9 (tuple #[S6 A7 l7 c7 A8 l8 c8 A9 l9 c9 A10 l10 c10 A11 l11 c11 A12 l12 c12,int .i64 0])))) :
  CallsG Tryz.prog 17 #[S3 A0 l0 c0 A1 l1 c1 A2 l2 c2,agg cs3,agg cs4] k R:=
  aA (cfg:={ opq:=[75] }) (args:=[.agg [.var 0,.var 1,.var 2],.agg [.seg 3 3],.agg [.seg 4 3]]) (vals:=[slice A0 l0 c0,slice A1 l1 c1,slice A2 l2 c2,agg cs3,agg cs4]) (kinds:=[.slice,.slice,.slice,.seg 3,.seg 3]) (by kernel_rfl) ⟨qS,qS,qS,⟨cs3,rfl,hcs3⟩,⟨cs4,rfl,hcs4⟩,trivial⟩ (by kernel_rfl) (by kernel_rfl) h
theorem aNz 
 (h:Tt∧(Tt∧(Br (((l0:Nat):Int) != (l1:Nat)) (Rt R k (bool false)) (Tt∧(Tt∧(Br (((l2:Nat):Int) != (l1:Nat)) (Rt R k (bool false)) (Tt∧(∃ I2:Nat→World→List Value→Prop,(∃ m2,∀ k2,Up k k2→I2 m2 k2 [int .i64 0])∧
 ∀ m2 k2 vs2,Up k k2→I2 m2 k2 vs2→∃ n3,some [int .i64 n3]=some vs2∧
 Br (decide ((n3:Int)<(l1:Nat))) (El k2 A1 n3 l1 3 fun cs4=>
 El k2 A0 n3 l0 3 fun cs5=>
 Cl k2 55 #[agg cs4,agg cs5] fun k4 r3=>Gb r3 fun b6=>
 Br b6 (Rt R k4 (bool false)) (El k4 A2 n3 l2 3 fun cs7=>
 El k4 A1 n3 l1 3 fun cs8=>
 Cl k4 55 #[agg cs7,agg cs8] fun k7 r6=>Gb r6 fun b9=>
 Br b9 (Rt R k7 (bool false)) (∀ k9,Up k7 k9→∃ m,m<m2∧I2 m k9 [int .i64 (IntKind.wrap .i64 (n3+1))]))) (Rt R k2 (bool true)))))))))) :
  CallsG Tryz.prog 64 #[slice A0 l0 c0,slice A1 l1 c1,slice A2 l2 c2] k R:=
  aA (cfg:={ opq:=[75],loops:=[(0,[.tmp 22 false [.int .i64]])] }) (args:=[.one (.var 0),.one (.var 1),.one (.var 2)]) (vals:=[slice A0 l0 c0,slice A1 l1 c1,slice A2 l2 c2]) (kinds:=[.slice,.slice,.slice]) (by kernel_rfl) ⟨qS,qS,qS,trivial⟩ (by kernel_rfl) (by kernel_rfl) h
theorem aAr 
 (h:Cl k 64 #[slice A0 l0 c0,slice A6 l6 c6,slice A3 l3 c3] fun k1 r0=>Gb r0 fun b9=>
 Br b9 (Cl k1 64 #[slice A1 l1 c1,slice A7 l7 c7,slice A4 l4 c4] fun k3 r2=>Gb r2 fun b10=>
 Br b10 (Cl k3 64 #[slice A2 l2 c2,slice A8 l8 c8,slice A5 l5 c5] fun k5 r4=>Gb r4 fun b11=>
 Rt R k5 (bool b11)) (Rt R k3 (bool false))) (Rt R k1 (bool false))) :
  CallsG Tryz.prog 22 #[S6 A0 l0 c0 A1 l1 c1 A2 l2 c2 A3 l3 c3 A4 l4 c4 A5 l5 c5,S3 A6 l6 c6 A7 l7 c7 A8 l8 c8] k R:=
  aA (cfg:={ opq:=[75] }) (args:=[.agg [.var 0,.var 1,.var 2,.var 3,.var 4,.var 5],.agg [.var 6,.var 7,.var 8]]) (vals:=[slice A0 l0 c0,slice A1 l1 c1,slice A2 l2 c2,slice A3 l3 c3,slice A4 l4 c4,slice A5 l5 c5,slice A6 l6 c6,slice A7 l7 c7,slice A8 l8 c8]) (kinds:=[.slice,.slice,.slice,.slice,.slice,.slice,.slice,.slice,.slice]) (by kernel_rfl) ⟨qS,qS,qS,qS,qS,qS,qS,qS,qS,trivial⟩ (by kernel_rfl) (by kernel_rfl) h
theorem aAv 
 (h:Cl k 22 #[S6 A6 l6 c6 A7 l7 c7 A8 l8 c8 A9 l9 c9 A10 l10 c10 A11 l11 c11,S3 A0 l0 c0 A1 l1 c1 A2 l2 c2] fun k1 r0=>Gb r0 fun b12=>
 Br b12 (Cl k1 22 #[S6 A6 l6 c6 A7 l7 c7 A8 l8 c8 A9 l9 c9 A10 l10 c10 A11 l11 c11,S3 A3 l3 c3 A4 l4 c4 A5 l5 c5] fun k3 r2=>Gb r2 fun b13=>
 Rt R k3 (bool b13)) (Rt R k1 (bool false))) :
  CallsG Tryz.prog 24 #[S6 A0 l0 c0 A1 l1 c1 A2 l2 c2 A3 l3 c3 A4 l4 c4 A5 l5 c5,S6 A6 l6 c6 A7 l7 c7 A8 l8 c8 A9 l9 c9 A10 l10 c10 A11 l11 c11] k R:=
  aA (cfg:={ opq:=[75] }) (args:=[.agg [.var 0,.var 1,.var 2,.var 3,.var 4,.var 5],.agg [.var 6,.var 7,.var 8,.var 9,.var 10,.var 11]]) (vals:=[slice A0 l0 c0,slice A1 l1 c1,slice A2 l2 c2,slice A3 l3 c3,slice A4 l4 c4,slice A5 l5 c5,slice A6 l6 c6,slice A7 l7 c7,slice A8 l8 c8,slice A9 l9 c9,slice A10 l10 c10,slice A11 l11 c11]) (kinds:=[.slice,.slice,.slice,.slice,.slice,.slice,.slice,.slice,.slice,.slice,.slice,.slice]) (by kernel_rfl) ⟨qS,qS,qS,qS,qS,qS,qS,qS,qS,qS,qS,qS,trivial⟩ (by kernel_rfl) (by kernel_rfl) h
theorem aJg 
 (h:Cl k 91 #[S3 A0 l0 c0 A1 l1 c1 A2 l2 c2,S3 A3 l3 c3 A4 l4 c4 A5 l5 c5] fun k1 r0=>Gi r0 fun n9=>
 Br ((n9:Int) != 0) (Rt R k1 (int .i64 n9)) (Cl k1 114 #[S3 A0 l0 c0 A1 l1 c1 A2 l2 c2,S3 A6 l6 c6 A7 l7 c7 A8 l8 c8] fun k4 r3=>Gi r3 fun n10=>
 Br ((n10:Int) != 0) (Rt R k4 (int .i64 n10)) (Cl k4 22 #[S6 A3 l3 c3 A4 l4 c4 A5 l5 c5 A6 l6 c6 A7 l7 c7 A8 l8 c8,S3 A3 l3 c3 A4 l4 c4 A5 l5 c5] fun k7 r6=>Gb r6 fun b11=>
 Br (!b11) (Rt R k7 (int .i64 7)) (Rt R k7 (int .i64 0))))) :
  CallsG Tryz.prog 66 #[S3 A0 l0 c0 A1 l1 c1 A2 l2 c2,S6 A3 l3 c3 A4 l4 c4 A5 l5 c5 A6 l6 c6 A7 l7 c7 A8 l8 c8] k R:=
  aA (cfg:={ opq:=[75] }) (args:=[.agg [.var 0,.var 1,.var 2],.agg [.var 3,.var 4,.var 5,.var 6,.var 7,.var 8]]) (vals:=[slice A0 l0 c0,slice A1 l1 c1,slice A2 l2 c2,slice A3 l3 c3,slice A4 l4 c4,slice A5 l5 c5,slice A6 l6 c6,slice A7 l7 c7,slice A8 l8 c8]) (kinds:=[.slice,.slice,.slice,.slice,.slice,.slice,.slice,.slice,.slice]) (by kernel_rfl) ⟨qS,qS,qS,qS,qS,qS,qS,qS,qS,trivial⟩ (by kernel_rfl) (by kernel_rfl) h
theorem aFg (hcs0:Seg 3 cs0) (hcs1:Seg 3 cs1) (hcs2:Seg 3 cs2) (hcs3:Seg 3 cs3)
 (h:Cl k 55 #[agg cs1,agg cs0] fun k1 r0=>Gb r0 fun b4=>
 Br b4 (Rt R k1 (int .i64 7)) (Cl k1 55 #[agg cs3,agg cs2] fun k4 r3=>Gb r3 fun b5=>
 Br b5 (Rt R k4 (int .i64 7)) (Rt R k4 (int .i64 0)))) :
  CallsG Tryz.prog 67 #[agg (cs0.toList++(cs1.toList++(cs2.toList++(cs3.toList++([]))))).toArray] k R:=
  aA (cfg:={ opq:=[75] }) (args:=[.agg [.seg 0 3,.seg 1 3,.seg 2 3,.seg 3 3]]) (vals:=[agg cs0,agg cs1,agg cs2,agg cs3]) (kinds:=[.seg 3,.seg 3,.seg 3,.seg 3]) (by kernel_rfl) ⟨⟨cs0,rfl,hcs0⟩,⟨cs1,rfl,hcs1⟩,⟨cs2,rfl,hcs2⟩,⟨cs3,rfl,hcs3⟩,trivial⟩ (by kernel_rfl) (by kernel_rfl) h
theorem aNx (hcs10:Seg 3 cs10) (hcs11:Seg 3 cs11) (hcs12:Seg 3 cs12) (hcs13:Seg 3 cs13)
 (h:Cl k 92 #[agg #[slice A0 l0 c0,slice A1 l1 c1,slice A2 l2 c2,Value.map (some M3)],S3 A4 l4 c4 A5 l5 c5 A6 l6 c6,agg cs10,agg cs12,Value.func (.func 115) #[] #[]] fun k1 r0=>∃ A14 l14 c14,∃ A15 l15 c15,∃ A16 l16 c16,some (S3 A14 l14 c14 A15 l15 c15 A16 l16 c16)=some r0∧
 Cl k1 92 #[agg #[slice A0 l0 c0,slice A1 l1 c1,slice A2 l2 c2,Value.map (some M3)],S3 A7 l7 c7 A8 l8 c8 A9 l9 c9,agg cs11,agg cs13,Value.func (.func 116) #[] #[]] fun k3 r2=>∃ A17 l17 c17,∃ A18 l18 c18,∃ A19 l19 c19,some (S3 A17 l17 c17 A18 l18 c18 A19 l19 c19)=some r2∧
 Rt R k3 (S6 A14 l14 c14 A15 l15 c15 A16 l16 c16 A17 l17 c17 A18 l18 c18 A19 l19 c19)) :
  CallsG Tryz.prog 69 #[agg #[slice A0 l0 c0,slice A1 l1 c1,slice A2 l2 c2,Value.map (some M3)],S6 A4 l4 c4 A5 l5 c5 A6 l6 c6 A7 l7 c7 A8 l8 c8 A9 l9 c9,agg (cs10.toList++(cs11.toList++(cs12.toList++(cs13.toList++([]))))).toArray] k R:=
  aA (cfg:={ opq:=[75] }) (args:=[.agg [.var 0,.var 1,.var 2,.var 3],.agg [.var 4,.var 5,.var 6,.var 7,.var 8,.var 9],.agg [.seg 10 3,.seg 11 3,.seg 12 3,.seg 13 3]]) (vals:=[slice A0 l0 c0,slice A1 l1 c1,slice A2 l2 c2,Value.map (some M3),slice A4 l4 c4,slice A5 l5 c5,slice A6 l6 c6,slice A7 l7 c7,slice A8 l8 c8,slice A9 l9 c9,agg cs10,agg cs11,agg cs12,agg cs13]) (kinds:=[.slice,.slice,.slice,.map,.slice,.slice,.slice,.slice,.slice,.slice,.seg 3,.seg 3,.seg 3,.seg 3]) (by kernel_rfl) ⟨qS,qS,qS,⟨_,rfl⟩,qS,qS,qS,qS,qS,qS,⟨cs10,rfl,hcs10⟩,⟨cs11,rfl,hcs11⟩,⟨cs12,rfl,hcs12⟩,⟨cs13,rfl,hcs13⟩,trivial⟩ (by kernel_rfl) (by kernel_rfl) h
theorem aEz (hcs9:Seg 3 cs9) (hcs10:Seg 3 cs10) (hcs11:Seg 3 cs11) (hcs12:Seg 3 cs12)
 (h:Cl k 66 #[S3 A0 l0 c0 A1 l1 c1 A2 l2 c2,S6 A3 l3 c3 A4 l4 c4 A5 l5 c5 A6 l6 c6 A7 l7 c7 A8 l8 c8] fun k1 r0=>Gi r0 fun n13=>
 Br ((n13:Int) != 0) (Rt R k1 (tuple #[Z6,int .i64 n13])) (Cl k1 67 #[agg (cs9.toList++(cs10.toList++(cs11.toList++(cs12.toList++([]))))).toArray] fun k4 r3=>Gi r3 fun n14=>
 Br ((n14:Int) != 0) (Rt R k4 (tuple #[Z6,int .i64 n14])) (Cl k4 68 #[S3 A0 l0 c0 A1 l1 c1 A2 l2 c2] fun k7 r6=>∃ A15 l15 c15,∃ A16 l16 c16,∃ A17 l17 c17,∃ M18:Nat,some (agg #[slice A15 l15 c15,slice A16 l16 c16,slice A17 l17 c17,Value.map (some M18)])=some r6∧
 Cl k7 69 #[agg #[slice A15 l15 c15,slice A16 l16 c16,slice A17 l17 c17,Value.map (some M18)],S6 A3 l3 c3 A4 l4 c4 A5 l5 c5 A6 l6 c6 A7 l7 c7 A8 l8 c8,agg (cs9.toList++(cs10.toList++(cs11.toList++(cs12.toList++([]))))).toArray] fun k9 r8=>∃ A19 l19 c19,∃ A20 l20 c20,∃ A21 l21 c21,∃ A22 l22 c22,∃ A23 l23 c23,∃ A24 l24 c24,some (S6 A19 l19 c19 A20 l20 c20 A21 l21 c21 A22 l22 c22 A23 l23 c23 A24 l24 c24)=some r8∧
 Rt R k9 (tuple #[S6 A19 l19 c19 A20 l20 c20 A21 l21 c21 A22 l22 c22 A23 l23 c23 A24 l24 c24,int .i64 0])))) :
  CallsG Tryz.prog 26 #[S3 A0 l0 c0 A1 l1 c1 A2 l2 c2,S6 A3 l3 c3 A4 l4 c4 A5 l5 c5 A6 l6 c6 A7 l7 c7 A8 l8 c8,agg (cs9.toList++(cs10.toList++(cs11.toList++(cs12.toList++([]))))).toArray] k R:=
  aA (cfg:={ opq:=[75] }) (args:=[.agg [.var 0,.var 1,.var 2],.agg [.var 3,.var 4,.var 5,.var 6,.var 7,.var 8],.agg [.seg 9 3,.seg 10 3,.seg 11 3,.seg 12 3]]) (vals:=[slice A0 l0 c0,slice A1 l1 c1,slice A2 l2 c2,slice A3 l3 c3,slice A4 l4 c4,slice A5 l5 c5,slice A6 l6 c6,slice A7 l7 c7,slice A8 l8 c8,agg cs9,agg cs10,agg cs11,agg cs12]) (kinds:=[.slice,.slice,.slice,.slice,.slice,.slice,.slice,.slice,.slice,.seg 3,.seg 3,.seg 3,.seg 3]) (by kernel_rfl) ⟨qS,qS,qS,qS,qS,qS,qS,qS,qS,⟨cs9,rfl,hcs9⟩,⟨cs10,rfl,hcs10⟩,⟨cs11,rfl,hcs11⟩,⟨cs12,rfl,hcs12⟩,trivial⟩ (by kernel_rfl) (by kernel_rfl) h
theorem aFc (hcs0:Seg 3 cs0)
 (h:Cl k 159 #[agg cs0,int .i64 40] fun k1 r0=>Gt 3 r0 fun cs1=>
 Rt R k1 (agg cs1)) :
  CallsG Tryz.prog 115 #[agg cs0] k R:=
  aA (cfg:={ opq:=[75] }) (args:=[.agg [.seg 0 3]]) (vals:=[agg cs0]) (kinds:=[.seg 3]) (by kernel_rfl) ⟨⟨cs0,rfl,hcs0⟩,trivial⟩ (by kernel_rfl) (by kernel_rfl) h
theorem aJj (hcs0:Seg 3 cs0)
 (h:Cl k 160 #[agg cs0,int .i64 40] fun k1 r0=>Gt 3 r0 fun cs1=>
 Rt R k1 (agg cs1)) :
  CallsG Tryz.prog 116 #[agg cs0] k R:=
  aA (cfg:={ opq:=[75] }) (args:=[.agg [.seg 0 3]]) (vals:=[agg cs0]) (kinds:=[.seg 3]) (by kernel_rfl) ⟨⟨cs0,rfl,hcs0⟩,trivial⟩ (by kernel_rfl) (by kernel_rfl) h
theorem aFm (hcs7:Seg 3 cs7) (hcs8:Seg 3 cs8)
 (h:Tt∧(∃ I0:Nat→World→List Value→Prop,(∃ m0,∀ k0,Up k k0→I0 m0 k0 [int .i64 0,tuple #[slice none 0 0,agg #[]],tuple #[slice none 0 0,agg #[]],tuple #[slice none 0 0,agg #[]]])∧
 ∀ m0 k0 vs0,Up k k0→I0 m0 k0 vs0→∃ n9,∃ A10 l10 c10,∃ cs11,Sy.RowC cs11∧∃ A12 l12 c12,∃ cs13,Sy.RowC cs13∧∃ A14 l14 c14,∃ cs15,Sy.RowC cs15∧some [int .i64 n9,tuple #[slice A10 l10 c10,agg cs11],tuple #[slice A12 l12 c12,agg cs13],tuple #[slice A14 l14 c14,agg cs15]]=some vs0∧
 Br (decide ((n9:Int)<(l1:Nat))) (Ad A1∧Ix n9 l1∧
 ∃ n16,∃ cs17,Seg 3 cs17∧∃ cs18,Seg 3 cs18∧∃ cs19,Seg 3 cs19∧Sy.ReadAt k0.cell? A1 (Int.toNat n9*10+0) 10 (agg ((int .i64 n16) :: (cs17.toList++(cs18.toList++(cs19.toList++([]))))).toArray)∧
 El k0 A4 n9 l4 3 fun cs20=>
 Cl k0 89 #[agg cs7,agg cs20] fun k2 r1=>Gt 3 r1 fun cs21=>
 Cl k2 90 #[agg cs18,agg cs21] fun k4 r3=>Gt 3 r3 fun cs22=>
 Cl k4 89 #[agg cs8,agg cs20] fun k6 r5=>Gt 3 r5 fun cs23=>
 Cl k6 90 #[agg cs19,agg cs23] fun k8 r7=>Gt 3 r7 fun cs24=>
 Cl k8 88 #[agg cs22,agg cs24] fun k10 r9=>Gt 3 r9 fun cs25=>
 ∃ A26 l26 c26,Sy.LookAt Tryz.prog k10 189 M3 (int .i64 n9) (slice A26 l26 c26)∧
 Tt∧(∃ I11:Nat→World→List Value→Prop,(∃ m11,∀ k11,Up k10 k11→I11 m11 k11 [int .i64 0,agg cs25])∧
 ∀ m11 k11 vs11,Up k10 k11→I11 m11 k11 vs11→∃ n27,∃ cs28,Seg 3 cs28∧some [int .i64 n27,agg cs28]=some vs11∧
 Br (decide ((n27:Int)<(l26:Nat))) (Ad A26∧Ix n27 l26∧
 ∃ n29,∃ n30,∃ cs31,Seg 3 cs31∧Sy.ReadAt k11.cell? A26 (Int.toNat n27*5+0) 5 (agg ((int .i64 n29) :: ((int .i64 n30) :: (cs31.toList++([])))).toArray)∧
 Cl k11 135 #[agg ((int .i64 n29) :: ((int .i64 n30) :: (cs31.toList++([])))).toArray,int .i64 n9] fun k13 r12=>Gi r12 fun n32=>
 El k13 A4 n32 l4 3 fun cs33=>
 Cl k13 89 #[agg cs33,agg cs20] fun k15 r14=>Gt 3 r14 fun cs34=>
 Cl k15 90 #[agg cs31,agg cs34] fun k17 r16=>Gt 3 r16 fun cs35=>
 Cl k17 88 #[agg cs28,agg cs35] fun k19 r18=>Gt 3 r18 fun cs36=>
 ∀ k20,Up k19 k20→∃ m,m<m11∧I11 m k20 [int .i64 (IntKind.wrap .i64 (n27+1)),agg cs36]) (Ad A0∧Ix n16 l0∧
 ∃ A29 l29 c29,∃ A30 l30 c30,∃ cs31,Seg 3 cs31∧∃ cs32,Seg 3 cs32∧Sy.ReadAt k11.cell? A0 (Int.toNat n16*8+0) 8 (agg ((slice A29 l29 c29) :: ((slice A30 l30 c30) :: (cs31.toList++(cs32.toList++([]))))).toArray)∧
 Cl k11 136 #[agg cs28,agg cs17] fun k22 r21=>Gt 3 r21 fun cs33=>
 Cl k22 88 #[agg cs20,agg cs33] fun k24 r23=>Gt 3 r23 fun cs34=>
 Cl k24 115 #[agg cs34] fun k26 r25=>Gt 3 r25 fun cs35=>
 (cs35.toList++([]):List Value).length=Int.toNat 1*3∧(0:Int)≤1∧Sy.sizeOk 56 (l10+Int.toNat 1)∧∀ (A36:Option Addr) (l36 c36:Nat) (cs37:Array Value),l36=l10+Int.toNat 1→cs37=cs11++(cs35.toList++([]):List Value).toArray→l36≤c36→
 El k26 A5 n9 l5 3 fun cs38=>
 Cl k26 137 #[slice A29 l29 c29,agg cs20] fun k28 r27=>Gt 3 r27 fun cs39=>
 Cl k28 88 #[agg cs38,agg cs39] fun k30 r29=>Gt 3 r29 fun cs40=>
 (cs40.toList++([]):List Value).length=Int.toNat 1*3∧(0:Int)≤1∧Sy.sizeOk 56 (l12+Int.toNat 1)∧∀ (A41:Option Addr) (l41 c41:Nat) (cs42:Array Value),l41=l12+Int.toNat 1→cs42=cs13++(cs40.toList++([]):List Value).toArray→l41≤c41→
 El k30 A6 n9 l6 3 fun cs43=>
 Cl k30 137 #[slice A30 l30 c30,agg cs20] fun k32 r31=>Gt 3 r31 fun cs44=>
 Cl k32 88 #[agg cs43,agg cs44] fun k34 r33=>Gt 3 r33 fun cs45=>
 (cs45.toList++([]):List Value).length=Int.toNat 1*3∧(0:Int)≤1∧Sy.sizeOk 56 (l14+Int.toNat 1)∧∀ (A46:Option Addr) (l46 c46:Nat) (cs47:Array Value),l46=l14+Int.toNat 1→cs47=cs15++(cs45.toList++([]):List Value).toArray→l46≤c46→
 ∀ k35,Up k34 k35→∃ m,m<m0∧I0 m k35 [int .i64 (IntKind.wrap .i64 (n9+1)),tuple #[slice A36 l36 c36,agg cs37],tuple #[slice A41 l41 c41,agg cs42],tuple #[slice A46 l46 c46,agg cs47]]))) (∀ k36,Up k0 k36→Sy.RowAt k36 A10 cs11→
 ∀ k37,Up k36 k37→Sy.RowAt k37 A12 cs13→
 ∀ k38,Up k37 k38→Sy.RowAt k38 A14 cs15→
 Rt R k38 (S3 A10 l10 c10 A12 l12 c12 A14 l14 c14)))) :
  CallsG Tryz.prog 92 #[agg #[slice A0 l0 c0,slice A1 l1 c1,slice A2 l2 c2,Value.map (some M3)],S3 A4 l4 c4 A5 l5 c5 A6 l6 c6,agg cs7,agg cs8,Value.func (.func 115) #[] #[]] k R:=
  Sy.execFn_use_heap (cfg:={ opq:=[75],loops:=[(0,[.tmp 23 false [.int .i64],.rb 5 0 75 3,.rb 5 1 75 3,.rb 5 2 75 3]),(2,[.tmp 51 false [.int .i64],.blk 8 [.seg 3]])] }) (args:=[.agg [.var 0,.var 1,.var 2,.var 3],.agg [.var 4,.var 5,.var 6],.agg [.seg 7 3],.agg [.seg 8 3],.one (.fn 115 [])]) (vals:=[slice A0 l0 c0,slice A1 l1 c1,slice A2 l2 c2,Value.map (some M3),slice A4 l4 c4,slice A5 l5 c5,slice A6 l6 c6,agg cs7,agg cs8]) (kinds:=[.slice,.slice,.slice,.map,.slice,.slice,.slice,.seg 3,.seg 3]) (blks:=[]) (heap:=[]) (by kernel_rfl) ⟨qS,qS,qS,⟨_,rfl⟩,qS,qS,qS,⟨cs7,rfl,hcs7⟩,⟨cs8,rfl,hcs8⟩,trivial⟩ (by kernel_rfl) trivial (by kernel_rfl) h
theorem aFl (hcs7:Seg 3 cs7) (hcs8:Seg 3 cs8)
 (h:Tt∧(∃ I0:Nat→World→List Value→Prop,(∃ m0,∀ k0,Up k k0→I0 m0 k0 [int .i64 0,tuple #[slice none 0 0,agg #[]],tuple #[slice none 0 0,agg #[]],tuple #[slice none 0 0,agg #[]]])∧
 ∀ m0 k0 vs0,Up k k0→I0 m0 k0 vs0→∃ n9,∃ A10 l10 c10,∃ cs11,Sy.RowC cs11∧∃ A12 l12 c12,∃ cs13,Sy.RowC cs13∧∃ A14 l14 c14,∃ cs15,Sy.RowC cs15∧some [int .i64 n9,tuple #[slice A10 l10 c10,agg cs11],tuple #[slice A12 l12 c12,agg cs13],tuple #[slice A14 l14 c14,agg cs15]]=some vs0∧
 Br (decide ((n9:Int)<(l1:Nat))) (Ad A1∧Ix n9 l1∧
 ∃ n16,∃ cs17,Seg 3 cs17∧∃ cs18,Seg 3 cs18∧∃ cs19,Seg 3 cs19∧Sy.ReadAt k0.cell? A1 (Int.toNat n9*10+0) 10 (agg ((int .i64 n16) :: (cs17.toList++(cs18.toList++(cs19.toList++([]))))).toArray)∧
 El k0 A4 n9 l4 3 fun cs20=>
 Cl k0 89 #[agg cs7,agg cs20] fun k2 r1=>Gt 3 r1 fun cs21=>
 Cl k2 90 #[agg cs18,agg cs21] fun k4 r3=>Gt 3 r3 fun cs22=>
 Cl k4 89 #[agg cs8,agg cs20] fun k6 r5=>Gt 3 r5 fun cs23=>
 Cl k6 90 #[agg cs19,agg cs23] fun k8 r7=>Gt 3 r7 fun cs24=>
 Cl k8 88 #[agg cs22,agg cs24] fun k10 r9=>Gt 3 r9 fun cs25=>
 ∃ A26 l26 c26,Sy.LookAt Tryz.prog k10 189 M3 (int .i64 n9) (slice A26 l26 c26)∧
 Tt∧(∃ I11:Nat→World→List Value→Prop,(∃ m11,∀ k11,Up k10 k11→I11 m11 k11 [int .i64 0,agg cs25])∧
 ∀ m11 k11 vs11,Up k10 k11→I11 m11 k11 vs11→∃ n27,∃ cs28,Seg 3 cs28∧some [int .i64 n27,agg cs28]=some vs11∧
 Br (decide ((n27:Int)<(l26:Nat))) (Ad A26∧Ix n27 l26∧
 ∃ n29,∃ n30,∃ cs31,Seg 3 cs31∧Sy.ReadAt k11.cell? A26 (Int.toNat n27*5+0) 5 (agg ((int .i64 n29) :: ((int .i64 n30) :: (cs31.toList++([])))).toArray)∧
 Cl k11 135 #[agg ((int .i64 n29) :: ((int .i64 n30) :: (cs31.toList++([])))).toArray,int .i64 n9] fun k13 r12=>Gi r12 fun n32=>
 El k13 A4 n32 l4 3 fun cs33=>
 Cl k13 89 #[agg cs33,agg cs20] fun k15 r14=>Gt 3 r14 fun cs34=>
 Cl k15 90 #[agg cs31,agg cs34] fun k17 r16=>Gt 3 r16 fun cs35=>
 Cl k17 88 #[agg cs28,agg cs35] fun k19 r18=>Gt 3 r18 fun cs36=>
 ∀ k20,Up k19 k20→∃ m,m<m11∧I11 m k20 [int .i64 (IntKind.wrap .i64 (n27+1)),agg cs36]) (Ad A0∧Ix n16 l0∧
 ∃ A29 l29 c29,∃ A30 l30 c30,∃ cs31,Seg 3 cs31∧∃ cs32,Seg 3 cs32∧Sy.ReadAt k11.cell? A0 (Int.toNat n16*8+0) 8 (agg ((slice A29 l29 c29) :: ((slice A30 l30 c30) :: (cs31.toList++(cs32.toList++([]))))).toArray)∧
 Cl k11 136 #[agg cs28,agg cs17] fun k22 r21=>Gt 3 r21 fun cs33=>
 Cl k22 88 #[agg cs20,agg cs33] fun k24 r23=>Gt 3 r23 fun cs34=>
 Cl k24 116 #[agg cs34] fun k26 r25=>Gt 3 r25 fun cs35=>
 (cs35.toList++([]):List Value).length=Int.toNat 1*3∧(0:Int)≤1∧Sy.sizeOk 56 (l10+Int.toNat 1)∧∀ (A36:Option Addr) (l36 c36:Nat) (cs37:Array Value),l36=l10+Int.toNat 1→cs37=cs11++(cs35.toList++([]):List Value).toArray→l36≤c36→
 El k26 A5 n9 l5 3 fun cs38=>
 Cl k26 137 #[slice A29 l29 c29,agg cs20] fun k28 r27=>Gt 3 r27 fun cs39=>
 Cl k28 88 #[agg cs38,agg cs39] fun k30 r29=>Gt 3 r29 fun cs40=>
 (cs40.toList++([]):List Value).length=Int.toNat 1*3∧(0:Int)≤1∧Sy.sizeOk 56 (l12+Int.toNat 1)∧∀ (A41:Option Addr) (l41 c41:Nat) (cs42:Array Value),l41=l12+Int.toNat 1→cs42=cs13++(cs40.toList++([]):List Value).toArray→l41≤c41→
 El k30 A6 n9 l6 3 fun cs43=>
 Cl k30 137 #[slice A30 l30 c30,agg cs20] fun k32 r31=>Gt 3 r31 fun cs44=>
 Cl k32 88 #[agg cs43,agg cs44] fun k34 r33=>Gt 3 r33 fun cs45=>
 (cs45.toList++([]):List Value).length=Int.toNat 1*3∧(0:Int)≤1∧Sy.sizeOk 56 (l14+Int.toNat 1)∧∀ (A46:Option Addr) (l46 c46:Nat) (cs47:Array Value),l46=l14+Int.toNat 1→cs47=cs15++(cs45.toList++([]):List Value).toArray→l46≤c46→
 ∀ k35,Up k34 k35→∃ m,m<m0∧I0 m k35 [int .i64 (IntKind.wrap .i64 (n9+1)),tuple #[slice A36 l36 c36,agg cs37],tuple #[slice A41 l41 c41,agg cs42],tuple #[slice A46 l46 c46,agg cs47]]))) (∀ k36,Up k0 k36→Sy.RowAt k36 A10 cs11→
 ∀ k37,Up k36 k37→Sy.RowAt k37 A12 cs13→
 ∀ k38,Up k37 k38→Sy.RowAt k38 A14 cs15→
 Rt R k38 (S3 A10 l10 c10 A12 l12 c12 A14 l14 c14)))) :
  CallsG Tryz.prog 92 #[agg #[slice A0 l0 c0,slice A1 l1 c1,slice A2 l2 c2,Value.map (some M3)],S3 A4 l4 c4 A5 l5 c5 A6 l6 c6,agg cs7,agg cs8,Value.func (.func 116) #[] #[]] k R:=
  Sy.execFn_use_heap (cfg:={ opq:=[75],loops:=[(0,[.tmp 23 false [.int .i64],.rb 5 0 75 3,.rb 5 1 75 3,.rb 5 2 75 3]),(2,[.tmp 51 false [.int .i64],.blk 8 [.seg 3]])] }) (args:=[.agg [.var 0,.var 1,.var 2,.var 3],.agg [.var 4,.var 5,.var 6],.agg [.seg 7 3],.agg [.seg 8 3],.one (.fn 116 [])]) (vals:=[slice A0 l0 c0,slice A1 l1 c1,slice A2 l2 c2,Value.map (some M3),slice A4 l4 c4,slice A5 l5 c5,slice A6 l6 c6,agg cs7,agg cs8]) (kinds:=[.slice,.slice,.slice,.map,.slice,.slice,.slice,.seg 3,.seg 3]) (blks:=[]) (heap:=[]) (by kernel_rfl) ⟨qS,qS,qS,⟨_,rfl⟩,qS,qS,qS,⟨cs7,rfl,hcs7⟩,⟨cs8,rfl,hcs8⟩,trivial⟩ (by kernel_rfl) trivial (by kernel_rfl) h
theorem aHm (hcs3:Seg 3 cs3) (hcs4:Seg 3 cs4)
 (h:Cl k 58 #[S3 A0 l0 c0 A1 l1 c1 A2 l2 c2] fun k1 r0=>Gi r0 fun n5=>
 Br ((n5:Int) != 0) (Rt R k1 (tuple #[Z6,int .i64 n5])) (Cl k1 59 #[agg cs3,agg cs4] fun k4 r3=>Gi r3 fun n6=>
 Br (decide ((n6:Int) > 0)) (Rt R k4 (tuple #[Z6,int .i64 7])) (Cl k4 60 #[S3 A0 l0 c0 A1 l1 c1 A2 l2 c2,agg cs3] fun k7 r6=>∃ A7 l7 c7,∃ A8 l8 c8,∃ A9 l9 c9,some (S3 A7 l7 c7 A8 l8 c8 A9 l9 c9)=some r6∧
 Cl k7 60 #[S3 A0 l0 c0 A1 l1 c1 A2 l2 c2,agg cs4] fun k9 r8=>∃ A10 l10 c10,∃ A11 l11 c11,∃ A12 l12 c12,some (S3 A10 l10 c10 A11 l11 c11 A12 l12 c12)=some r8∧
 Rt R k9 (tuple #[S6 A7 l7 c7 A8 l8 c8 A9 l9 c9 A10 l10 c10 A11 l11 c11 A12 l12 c12,int .i64 0])))) :
  CallsG Tryz.prog 19 #[S3 A0 l0 c0 A1 l1 c1 A2 l2 c2,agg cs3,agg cs4] k R:=
  aA (cfg:={ opq:=[81] }) (args:=[.agg [.var 0,.var 1,.var 2],.agg [.seg 3 3],.agg [.seg 4 3]]) (vals:=[slice A0 l0 c0,slice A1 l1 c1,slice A2 l2 c2,agg cs3,agg cs4]) (kinds:=[.slice,.slice,.slice,.seg 3,.seg 3]) (by kernel_rfl) ⟨qS,qS,qS,⟨cs3,rfl,hcs3⟩,⟨cs4,rfl,hcs4⟩,trivial⟩ (by kernel_rfl) (by kernel_rfl) h
theorem aHi 
 (h:∃ I0:Nat→World→List Value→Prop,(∃ m0,∀ k0,Up k k0→I0 m0 k0 [int .i64 0])∧
 ∀ m0 k0 vs0,Up k k0→I0 m0 k0 vs0→∃ n2,some [int .i64 n2]=some vs0∧
 Tt∧(Br (decide ((n2:Int)<(l0:Nat))) (El k0 A0 n2 l0 3 fun cs3=>
 El k0 A1 n2 l1 3 fun cs4=>
 Cl k0 59 #[agg cs3,agg cs4] fun k2 r1=>Gi r1 fun n5=>
 Br (decide ((n5:Int) > 0)) (Rt R k2 (bool true)) (∀ k4,Up k2 k4→∃ m,m<m0∧I0 m k4 [int .i64 (IntKind.wrap .i64 (n2+1))])) (Rt R k0 (bool false)))) :
  CallsG Tryz.prog 113 #[slice A0 l0 c0,slice A1 l1 c1] k R:=
  aA (cfg:={ opq:=[81],loops:=[(0,[.tmp 5 false [.int .i64]])] }) (args:=[.one (.var 0),.one (.var 1)]) (vals:=[slice A0 l0 c0,slice A1 l1 c1]) (kinds:=[.slice,.slice]) (by kernel_rfl) ⟨qS,qS,trivial⟩ (by kernel_rfl) (by kernel_rfl) h
theorem aIe 
 (h:Tt∧(Tt∧(Br (((l0:Nat):Int) != (l3:Nat)) (Rt R k (bool false)) (Tt∧(Tt∧(Br (((l1:Nat):Int) != (l4:Nat)) (Rt R k (bool false)) (Tt∧(Tt∧(Br (((l2:Nat):Int) != (l5:Nat)) (Rt R k (bool false)) (Cl k 113 #[slice A0 l0 c0,slice A3 l3 c3] fun k4 r3=>Gb r3 fun b6=>
 Br (!b6) (Cl k4 113 #[slice A1 l1 c1,slice A4 l4 c4] fun k6 r5=>Gb r5 fun b7=>
 Br (!b7) (Cl k6 113 #[slice A2 l2 c2,slice A5 l5 c5] fun k8 r7=>Gb r7 fun b8=>
 Rt R k8 (bool (!b8))) (Rt R k6 (bool false))) (Rt R k4 (bool false)))))))))))) :
  CallsG Tryz.prog 65 #[S3 A0 l0 c0 A1 l1 c1 A2 l2 c2,S3 A3 l3 c3 A4 l4 c4 A5 l5 c5] k R:=
  aA (cfg:={ opq:=[81] }) (args:=[.agg [.var 0,.var 1,.var 2],.agg [.var 3,.var 4,.var 5]]) (vals:=[slice A0 l0 c0,slice A1 l1 c1,slice A2 l2 c2,slice A3 l3 c3,slice A4 l4 c4,slice A5 l5 c5]) (kinds:=[.slice,.slice,.slice,.slice,.slice,.slice]) (by kernel_rfl) ⟨qS,qS,qS,qS,qS,qS,trivial⟩ (by kernel_rfl) (by kernel_rfl) h
theorem aCe 
 (h:Cl k 65 #[S3 A0 l0 c0 A1 l1 c1 A2 l2 c2,S3 A6 l6 c6 A7 l7 c7 A8 l8 c8] fun k1 r0=>Gb r0 fun b9=>
 Br b9 (Cl k1 65 #[S3 A6 l6 c6 A7 l7 c7 A8 l8 c8,S3 A3 l3 c3 A4 l4 c4 A5 l5 c5] fun k3 r2=>Gb r2 fun b10=>
 Rt R k3 (bool b10)) (Rt R k1 (bool false))) :
  CallsG Tryz.prog 23 #[S6 A0 l0 c0 A1 l1 c1 A2 l2 c2 A3 l3 c3 A4 l4 c4 A5 l5 c5,S3 A6 l6 c6 A7 l7 c7 A8 l8 c8] k R:=
  aA (cfg:={ opq:=[81] }) (args:=[.agg [.var 0,.var 1,.var 2,.var 3,.var 4,.var 5],.agg [.var 6,.var 7,.var 8]]) (vals:=[slice A0 l0 c0,slice A1 l1 c1,slice A2 l2 c2,slice A3 l3 c3,slice A4 l4 c4,slice A5 l5 c5,slice A6 l6 c6,slice A7 l7 c7,slice A8 l8 c8]) (kinds:=[.slice,.slice,.slice,.slice,.slice,.slice,.slice,.slice,.slice]) (by kernel_rfl) ⟨qS,qS,qS,qS,qS,qS,qS,qS,qS,trivial⟩ (by kernel_rfl) (by kernel_rfl) h
theorem aBz 
 (h:Cl k 58 #[S3 A0 l0 c0 A1 l1 c1 A2 l2 c2] fun k1 r0=>Gi r0 fun n9=>
 Br ((n9:Int) != 0) (Rt R k1 (int .i64 n9)) (Cl k1 117 #[S3 A0 l0 c0 A1 l1 c1 A2 l2 c2,S3 A3 l3 c3 A4 l4 c4 A5 l5 c5] fun k4 r3=>Gb r3 fun b10=>
 Br (!b10) (Rt R k4 (int .i64 4)) (Cl k4 117 #[S3 A0 l0 c0 A1 l1 c1 A2 l2 c2,S3 A6 l6 c6 A7 l7 c7 A8 l8 c8] fun k7 r6=>Gb r6 fun b11=>
 Br (!b11) (Rt R k7 (int .i64 4)) (Cl k7 65 #[S3 A3 l3 c3 A4 l4 c4 A5 l5 c5,S3 A6 l6 c6 A7 l7 c7 A8 l8 c8] fun k10 r9=>Gb r9 fun b12=>
 Br (!b12) (Rt R k10 (int .i64 7)) (Rt R k10 (int .i64 0)))))) :
  CallsG Tryz.prog 70 #[S3 A0 l0 c0 A1 l1 c1 A2 l2 c2,S6 A3 l3 c3 A4 l4 c4 A5 l5 c5 A6 l6 c6 A7 l7 c7 A8 l8 c8] k R:=
  aA (cfg:={ opq:=[81] }) (args:=[.agg [.var 0,.var 1,.var 2],.agg [.var 3,.var 4,.var 5,.var 6,.var 7,.var 8]]) (vals:=[slice A0 l0 c0,slice A1 l1 c1,slice A2 l2 c2,slice A3 l3 c3,slice A4 l4 c4,slice A5 l5 c5,slice A6 l6 c6,slice A7 l7 c7,slice A8 l8 c8]) (kinds:=[.slice,.slice,.slice,.slice,.slice,.slice,.slice,.slice,.slice]) (by kernel_rfl) ⟨qS,qS,qS,qS,qS,qS,qS,qS,qS,trivial⟩ (by kernel_rfl) (by kernel_rfl) h
theorem aCh (hcs0:Seg 3 cs0) (hcs1:Seg 3 cs1) (hcs2:Seg 3 cs2) (hcs3:Seg 3 cs3)
 (h:Cl k 59 #[agg cs0,agg cs1] fun k1 r0=>Gi r0 fun n4=>
 Br (decide ((n4:Int) > 0)) (Rt R k1 (int .i64 7)) (Cl k1 59 #[agg cs2,agg cs3] fun k4 r3=>Gi r3 fun n5=>
 Br (decide ((n5:Int) > 0)) (Rt R k4 (int .i64 7)) (Rt R k4 (int .i64 0)))) :
  CallsG Tryz.prog 71 #[agg (cs0.toList++(cs1.toList++(cs2.toList++(cs3.toList++([]))))).toArray] k R:=
  aA (cfg:={ opq:=[81] }) (args:=[.agg [.seg 0 3,.seg 1 3,.seg 2 3,.seg 3 3]]) (vals:=[agg cs0,agg cs1,agg cs2,agg cs3]) (kinds:=[.seg 3,.seg 3,.seg 3,.seg 3]) (by kernel_rfl) ⟨⟨cs0,rfl,hcs0⟩,⟨cs1,rfl,hcs1⟩,⟨cs2,rfl,hcs2⟩,⟨cs3,rfl,hcs3⟩,trivial⟩ (by kernel_rfl) (by kernel_rfl) h
theorem aHn (hcs9:Seg 3 cs9) (hcs10:Seg 3 cs10) (hcs11:Seg 3 cs11) (hcs12:Seg 3 cs12)
 (h:Cl k 70 #[S3 A0 l0 c0 A1 l1 c1 A2 l2 c2,S6 A3 l3 c3 A4 l4 c4 A5 l5 c5 A6 l6 c6 A7 l7 c7 A8 l8 c8] fun k1 r0=>Gi r0 fun n13=>
 Br ((n13:Int) != 0) (Rt R k1 (tuple #[Z6,int .i64 n13])) (Cl k1 71 #[agg (cs9.toList++(cs10.toList++(cs11.toList++(cs12.toList++([]))))).toArray] fun k4 r3=>Gi r3 fun n14=>
 Br ((n14:Int) != 0) (Rt R k4 (tuple #[Z6,int .i64 n14])) (Cl k4 72 #[S3 A0 l0 c0 A1 l1 c1 A2 l2 c2,S6 A3 l3 c3 A4 l4 c4 A5 l5 c5 A6 l6 c6 A7 l7 c7 A8 l8 c8,agg (cs9.toList++(cs10.toList++(cs11.toList++(cs12.toList++([]))))).toArray] fun k7 r6=>∃ A15 l15 c15,∃ A16 l16 c16,∃ A17 l17 c17,∃ A18 l18 c18,∃ A19 l19 c19,∃ A20 l20 c20,some (S6 A15 l15 c15 A16 l16 c16 A17 l17 c17 A18 l18 c18 A19 l19 c19 A20 l20 c20)=some r6∧
 Rt R k7 (tuple #[S6 A15 l15 c15 A16 l16 c16 A17 l17 c17 A18 l18 c18 A19 l19 c19 A20 l20 c20,int .i64 0])))) :
  CallsG Tryz.prog 27 #[S3 A0 l0 c0 A1 l1 c1 A2 l2 c2,S6 A3 l3 c3 A4 l4 c4 A5 l5 c5 A6 l6 c6 A7 l7 c7 A8 l8 c8,agg (cs9.toList++(cs10.toList++(cs11.toList++(cs12.toList++([]))))).toArray] k R:=
  aA (cfg:={ opq:=[81] }) (args:=[.agg [.var 0,.var 1,.var 2],.agg [.var 3,.var 4,.var 5,.var 6,.var 7,.var 8],.agg [.seg 9 3,.seg 10 3,.seg 11 3,.seg 12 3]]) (vals:=[slice A0 l0 c0,slice A1 l1 c1,slice A2 l2 c2,slice A3 l3 c3,slice A4 l4 c4,slice A5 l5 c5,slice A6 l6 c6,slice A7 l7 c7,slice A8 l8 c8,agg cs9,agg cs10,agg cs11,agg cs12]) (kinds:=[.slice,.slice,.slice,.slice,.slice,.slice,.slice,.slice,.slice,.seg 3,.seg 3,.seg 3,.seg 3]) (by kernel_rfl) ⟨qS,qS,qS,qS,qS,qS,qS,qS,qS,⟨cs9,rfl,hcs9⟩,⟨cs10,rfl,hcs10⟩,⟨cs11,rfl,hcs11⟩,⟨cs12,rfl,hcs12⟩,trivial⟩ (by kernel_rfl) (by kernel_rfl) h
theorem aKr 
 (h:Cl k 12 #[S3 A0 l0 c0 A1 l1 c1 A2 l2 c2] fun k1 r0=>Gb r0 fun b6=>
 Br b6 (Cl k1 12 #[S3 A3 l3 c3 A4 l4 c4 A5 l5 c5] fun k3 r2=>Gb r2 fun b7=>
 Rt R k3 (bool b7)) (Rt R k1 (bool false))) :
  CallsG Tryz.prog 11 #[S6 A0 l0 c0 A1 l1 c1 A2 l2 c2 A3 l3 c3 A4 l4 c4 A5 l5 c5] k R:=
  aA (cfg:={ opq:=[] }) (args:=[.agg [.var 0,.var 1,.var 2,.var 3,.var 4,.var 5]]) (vals:=[slice A0 l0 c0,slice A1 l1 c1,slice A2 l2 c2,slice A3 l3 c3,slice A4 l4 c4,slice A5 l5 c5]) (kinds:=[.slice,.slice,.slice,.slice,.slice,.slice]) (by kernel_rfl) ⟨qS,qS,qS,qS,qS,qS,trivial⟩ (by kernel_rfl) (by kernel_rfl) h
theorem aGg 
 (h:Cl k 16 #[S3 A0 l0 c0 A1 l1 c1 A2 l2 c2] fun k1 r0=>∃ A6 l6 c6,∃ A7 l7 c7,∃ A8 l8 c8,∃ A9 l9 c9,∃ A10 l10 c10,∃ A11 l11 c11,some (tuple #[S3 A6 l6 c6 A7 l7 c7 A8 l8 c8,S3 A9 l9 c9 A10 l10 c10 A11 l11 c11])=some r0∧
 Cl k1 16 #[S3 A3 l3 c3 A4 l4 c4 A5 l5 c5] fun k3 r2=>∃ A12 l12 c12,∃ A13 l13 c13,∃ A14 l14 c14,∃ A15 l15 c15,∃ A16 l16 c16,∃ A17 l17 c17,some (tuple #[S3 A12 l12 c12 A13 l13 c13 A14 l14 c14,S3 A15 l15 c15 A16 l16 c16 A17 l17 c17])=some r2∧
 Rt R k3 (tuple #[S6 A6 l6 c6 A7 l7 c7 A8 l8 c8 A12 l12 c12 A13 l13 c13 A14 l14 c14,S6 A9 l9 c9 A10 l10 c10 A11 l11 c11 A15 l15 c15 A16 l16 c16 A17 l17 c17])) :
  CallsG Tryz.prog 15 #[S6 A0 l0 c0 A1 l1 c1 A2 l2 c2 A3 l3 c3 A4 l4 c4 A5 l5 c5] k R:=
  aA (cfg:={ opq:=[75,81] }) (args:=[.agg [.var 0,.var 1,.var 2,.var 3,.var 4,.var 5]]) (vals:=[slice A0 l0 c0,slice A1 l1 c1,slice A2 l2 c2,slice A3 l3 c3,slice A4 l4 c4,slice A5 l5 c5]) (kinds:=[.slice,.slice,.slice,.slice,.slice,.slice]) (by kernel_rfl) ⟨qS,qS,qS,qS,qS,qS,trivial⟩ (by kernel_rfl) (by kernel_rfl) h
theorem aPb 
 (h:Cl k 63 #[S3 A0 l0 c0 A1 l1 c1 A2 l2 c2,S3 A6 l6 c6 A7 l7 c7 A8 l8 c8] fun k1 r0=>Gb r0 fun b12=>
 Br b12 (Cl k1 63 #[S3 A3 l3 c3 A4 l4 c4 A5 l5 c5,S3 A9 l9 c9 A10 l10 c10 A11 l11 c11] fun k3 r2=>Gb r2 fun b13=>
 Rt R k3 (bool b13)) (Rt R k1 (bool false))) :
  CallsG Tryz.prog 21 #[S6 A0 l0 c0 A1 l1 c1 A2 l2 c2 A3 l3 c3 A4 l4 c4 A5 l5 c5,S6 A6 l6 c6 A7 l7 c7 A8 l8 c8 A9 l9 c9 A10 l10 c10 A11 l11 c11] k R:=
  aA (cfg:={ opq:=[75,81] }) (args:=[.agg [.var 0,.var 1,.var 2,.var 3,.var 4,.var 5],.agg [.var 6,.var 7,.var 8,.var 9,.var 10,.var 11]]) (vals:=[slice A0 l0 c0,slice A1 l1 c1,slice A2 l2 c2,slice A3 l3 c3,slice A4 l4 c4,slice A5 l5 c5,slice A6 l6 c6,slice A7 l7 c7,slice A8 l8 c8,slice A9 l9 c9,slice A10 l10 c10,slice A11 l11 c11]) (kinds:=[.slice,.slice,.slice,.slice,.slice,.slice,.slice,.slice,.slice,.slice,.slice,.slice]) (by kernel_rfl) ⟨qS,qS,qS,qS,qS,qS,qS,qS,qS,qS,qS,qS,trivial⟩ (by kernel_rfl) (by kernel_rfl) h
theorem aBf 
 (h:Cl k 10 #[S3 A0 l0 c0 A1 l1 c1 A2 l2 c2,int .i64 26] fun k1 r0=>Gb r0 fun b26=>
 Br (!b26) (Cl k1 13 #[] fun k3 r2=>Gb r2 fun b27=>
 Rt R k3 (bool b27)) (Cl k1 11 #[S6 A3 l3 c3 A4 l4 c4 A5 l5 c5 A6 l6 c6 A7 l7 c7 A8 l8 c8] fun k6 r5=>Gb r5 fun b27=>
 Br (!b27) (Cl k6 13 #[] fun k8 r7=>Gb r7 fun b28=>
 Rt R k8 (bool b28)) (Cl k6 11 #[S6 A9 l9 c9 A10 l10 c10 A11 l11 c11 A12 l12 c12 A13 l13 c13 A14 l14 c14] fun k11 r10=>Gb r10 fun b28=>
 Br (!b28) (Cl k11 13 #[] fun k13 r12=>Gb r12 fun b29=>
 Rt R k13 (bool b29)) (Cl k11 12 #[S3 A15 l15 c15 A16 l16 c16 A17 l17 c17] fun k16 r15=>Gb r15 fun b29=>
 Br (!b29) (Cl k16 13 #[] fun k18 r17=>Gb r17 fun b30=>
 Rt R k18 (bool b30)) (Cl k16 14 #[S3 A0 l0 c0 A1 l1 c1 A2 l2 c2] fun k21 r20=>∃ A30 l30 c30,∃ A31 l31 c31,∃ A32 l32 c32,∃ A33 l33 c33,∃ A34 l34 c34,∃ A35 l35 c35,some (tuple #[S3 A30 l30 c30 A31 l31 c31 A32 l32 c32,S3 A33 l33 c33 A34 l34 c34 A35 l35 c35])=some r20∧
 Cl k21 15 #[S6 A3 l3 c3 A4 l4 c4 A5 l5 c5 A6 l6 c6 A7 l7 c7 A8 l8 c8] fun k23 r22=>∃ A36 l36 c36,∃ A37 l37 c37,∃ A38 l38 c38,∃ A39 l39 c39,∃ A40 l40 c40,∃ A41 l41 c41,∃ A42 l42 c42,∃ A43 l43 c43,∃ A44 l44 c44,∃ A45 l45 c45,∃ A46 l46 c46,∃ A47 l47 c47,some (tuple #[S6 A36 l36 c36 A37 l37 c37 A38 l38 c38 A39 l39 c39 A40 l40 c40 A41 l41 c41,S6 A42 l42 c42 A43 l43 c43 A44 l44 c44 A45 l45 c45 A46 l46 c46 A47 l47 c47])=some r22∧
 Cl k23 15 #[S6 A9 l9 c9 A10 l10 c10 A11 l11 c11 A12 l12 c12 A13 l13 c13 A14 l14 c14] fun k25 r24=>∃ A48 l48 c48,∃ A49 l49 c49,∃ A50 l50 c50,∃ A51 l51 c51,∃ A52 l52 c52,∃ A53 l53 c53,∃ A54 l54 c54,∃ A55 l55 c55,∃ A56 l56 c56,∃ A57 l57 c57,∃ A58 l58 c58,∃ A59 l59 c59,some (tuple #[S6 A48 l48 c48 A49 l49 c49 A50 l50 c50 A51 l51 c51 A52 l52 c52 A53 l53 c53,S6 A54 l54 c54 A55 l55 c55 A56 l56 c56 A57 l57 c57 A58 l58 c58 A59 l59 c59])=some r24∧
 Cl k25 16 #[S3 A15 l15 c15 A16 l16 c16 A17 l17 c17] fun k27 r26=>∃ A60 l60 c60,∃ A61 l61 c61,∃ A62 l62 c62,∃ A63 l63 c63,∃ A64 l64 c64,∃ A65 l65 c65,some (tuple #[S3 A60 l60 c60 A61 l61 c61 A62 l62 c62,S3 A63 l63 c63 A64 l64 c64 A65 l65 c65])=some r26∧
 Cl k27 18 #[agg #[int .i64 n18,int .i64 n19]] fun k29 r28=>Gt 3 r28 fun cs66=>
 Cl k29 18 #[agg #[int .i64 n20,int .i64 n21]] fun k31 r30=>Gt 3 r30 fun cs67=>
 Cl k31 17 #[S3 A30 l30 c30 A31 l31 c31 A32 l32 c32,agg cs66,agg cs67] fun k33 r32=>∃ A68 l68 c68,∃ A69 l69 c69,∃ A70 l70 c70,∃ A71 l71 c71,∃ A72 l72 c72,∃ A73 l73 c73,∃ n74,some (tuple #[S6 A68 l68 c68 A69 l69 c69 A70 l70 c70 A71 l71 c71 A72 l72 c72 A73 l73 c73,int .i64 n74])=some r32∧
 Cl k33 20 #[agg #[int .i64 n18,int .i64 n19]] fun k35 r34=>Gt 3 r34 fun cs75=>
 Cl k35 20 #[agg #[int .i64 n20,int .i64 n21]] fun k37 r36=>Gt 3 r36 fun cs76=>
 Cl k37 19 #[S3 A33 l33 c33 A34 l34 c34 A35 l35 c35,agg cs75,agg cs76] fun k39 r38=>∃ A77 l77 c77,∃ A78 l78 c78,∃ A79 l79 c79,∃ A80 l80 c80,∃ A81 l81 c81,∃ A82 l82 c82,∃ n83,some (tuple #[S6 A77 l77 c77 A78 l78 c78 A79 l79 c79 A80 l80 c80 A81 l81 c81 A82 l82 c82,int .i64 n83])=some r38∧
 Br ((n74:Int) != n83) (Rt R k39 (bool false)) (Cl k39 21 #[S6 A68 l68 c68 A69 l69 c69 A70 l70 c70 A71 l71 c71 A72 l72 c72 A73 l73 c73,S6 A77 l77 c77 A78 l78 c78 A79 l79 c79 A80 l80 c80 A81 l81 c81 A82 l82 c82] fun k42 r41=>Gb r41 fun b84=>
 Br (!b84) (Rt R k42 (bool false)) (Cl k42 22 #[S6 A36 l36 c36 A37 l37 c37 A38 l38 c38 A39 l39 c39 A40 l40 c40 A41 l41 c41,S3 A60 l60 c60 A61 l61 c61 A62 l62 c62] fun k45 r44=>Gb r44 fun b85=>
 Cl k45 23 #[S6 A42 l42 c42 A43 l43 c43 A44 l44 c44 A45 l45 c45 A46 l46 c46 A47 l47 c47,S3 A63 l63 c63 A64 l64 c64 A65 l65 c65] fun k47 r46=>Gb r46 fun b86=>
 Br (!(b85 == b86)) (Rt R k47 (bool false)) (Cl k47 24 #[S6 A36 l36 c36 A37 l37 c37 A38 l38 c38 A39 l39 c39 A40 l40 c40 A41 l41 c41,S6 A48 l48 c48 A49 l49 c49 A50 l50 c50 A51 l51 c51 A52 l52 c52 A53 l53 c53] fun k50 r49=>Gb r49 fun b87=>
 Cl k50 23 #[S6 A54 l54 c54 A55 l55 c55 A56 l56 c56 A57 l57 c57 A58 l58 c58 A59 l59 c59,S3 A42 l42 c42 A43 l43 c43 A44 l44 c44] fun k52 r51=>Gb r51 fun b88=>
 Br b88 (Cl k52 23 #[S6 A54 l54 c54 A55 l55 c55 A56 l56 c56 A57 l57 c57 A58 l58 c58 A59 l59 c59,S3 A45 l45 c45 A46 l46 c46 A47 l47 c47] fun k54 r53=>Gb r53 fun b89=>
 Br (!(b87 == b89)) (Rt R k54 (bool false)) (Cl k54 25 #[agg #[int .i64 n18,int .i64 n19,int .i64 n20,int .i64 n21,int .i64 n22,int .i64 n23,int .i64 n24,int .i64 n25]] fun k57 r56=>∃ cs90,Seg 3 cs90∧∃ cs91,Seg 3 cs91∧∃ cs92,Seg 3 cs92∧∃ cs93,Seg 3 cs93∧∃ cs94,Seg 3 cs94∧∃ cs95,Seg 3 cs95∧∃ cs96,Seg 3 cs96∧∃ cs97,Seg 3 cs97∧some (tuple #[agg (cs90.toList++(cs91.toList++(cs92.toList++(cs93.toList++([]))))).toArray,agg (cs94.toList++(cs95.toList++(cs96.toList++(cs97.toList++([]))))).toArray])=some r56∧
 Cl k57 26 #[S3 A30 l30 c30 A31 l31 c31 A32 l32 c32,S6 A36 l36 c36 A37 l37 c37 A38 l38 c38 A39 l39 c39 A40 l40 c40 A41 l41 c41,agg (cs90.toList++(cs91.toList++(cs92.toList++(cs93.toList++([]))))).toArray] fun k59 r58=>∃ A98 l98 c98,∃ A99 l99 c99,∃ A100 l100 c100,∃ A101 l101 c101,∃ A102 l102 c102,∃ A103 l103 c103,∃ n104,some (tuple #[S6 A98 l98 c98 A99 l99 c99 A100 l100 c100 A101 l101 c101 A102 l102 c102 A103 l103 c103,int .i64 n104])=some r58∧
 Cl k59 27 #[S3 A33 l33 c33 A34 l34 c34 A35 l35 c35,S6 A42 l42 c42 A43 l43 c43 A44 l44 c44 A45 l45 c45 A46 l46 c46 A47 l47 c47,agg (cs94.toList++(cs95.toList++(cs96.toList++(cs97.toList++([]))))).toArray] fun k61 r60=>∃ A105 l105 c105,∃ A106 l106 c106,∃ A107 l107 c107,∃ A108 l108 c108,∃ A109 l109 c109,∃ A110 l110 c110,∃ n111,some (tuple #[S6 A105 l105 c105 A106 l106 c106 A107 l107 c107 A108 l108 c108 A109 l109 c109 A110 l110 c110,int .i64 n111])=some r60∧
 Br ((n104:Int) == n111) (Cl k61 21 #[S6 A98 l98 c98 A99 l99 c99 A100 l100 c100 A101 l101 c101 A102 l102 c102 A103 l103 c103,S6 A105 l105 c105 A106 l106 c106 A107 l107 c107 A108 l108 c108 A109 l109 c109 A110 l110 c110] fun k63 r62=>Gb r62 fun b112=>
 Br b112 (Cl k63 13 #[] fun k65 r64=>Gb r64 fun b113=>
 Rt R k65 (bool b113)) (Rt R k63 (bool false))) (Rt R k61 (bool false)))) (Br (!(b87 == false)) (Rt R k52 (bool false)) (Cl k52 25 #[agg #[int .i64 n18,int .i64 n19,int .i64 n20,int .i64 n21,int .i64 n22,int .i64 n23,int .i64 n24,int .i64 n25]] fun k71 r70=>∃ cs89,Seg 3 cs89∧∃ cs90,Seg 3 cs90∧∃ cs91,Seg 3 cs91∧∃ cs92,Seg 3 cs92∧∃ cs93,Seg 3 cs93∧∃ cs94,Seg 3 cs94∧∃ cs95,Seg 3 cs95∧∃ cs96,Seg 3 cs96∧some (tuple #[agg (cs89.toList++(cs90.toList++(cs91.toList++(cs92.toList++([]))))).toArray,agg (cs93.toList++(cs94.toList++(cs95.toList++(cs96.toList++([]))))).toArray])=some r70∧
 Cl k71 26 #[S3 A30 l30 c30 A31 l31 c31 A32 l32 c32,S6 A36 l36 c36 A37 l37 c37 A38 l38 c38 A39 l39 c39 A40 l40 c40 A41 l41 c41,agg (cs89.toList++(cs90.toList++(cs91.toList++(cs92.toList++([]))))).toArray] fun k73 r72=>∃ A97 l97 c97,∃ A98 l98 c98,∃ A99 l99 c99,∃ A100 l100 c100,∃ A101 l101 c101,∃ A102 l102 c102,∃ n103,some (tuple #[S6 A97 l97 c97 A98 l98 c98 A99 l99 c99 A100 l100 c100 A101 l101 c101 A102 l102 c102,int .i64 n103])=some r72∧
 Cl k73 27 #[S3 A33 l33 c33 A34 l34 c34 A35 l35 c35,S6 A42 l42 c42 A43 l43 c43 A44 l44 c44 A45 l45 c45 A46 l46 c46 A47 l47 c47,agg (cs93.toList++(cs94.toList++(cs95.toList++(cs96.toList++([]))))).toArray] fun k75 r74=>∃ A104 l104 c104,∃ A105 l105 c105,∃ A106 l106 c106,∃ A107 l107 c107,∃ A108 l108 c108,∃ A109 l109 c109,∃ n110,some (tuple #[S6 A104 l104 c104 A105 l105 c105 A106 l106 c106 A107 l107 c107 A108 l108 c108 A109 l109 c109,int .i64 n110])=some r74∧
 Br ((n103:Int) == n110) (Cl k75 21 #[S6 A97 l97 c97 A98 l98 c98 A99 l99 c99 A100 l100 c100 A101 l101 c101 A102 l102 c102,S6 A104 l104 c104 A105 l105 c105 A106 l106 c106 A107 l107 c107 A108 l108 c108 A109 l109 c109] fun k77 r76=>Gb r76 fun b111=>
 Br b111 (Cl k77 13 #[] fun k79 r78=>Gb r78 fun b112=>
 Rt R k79 (bool b112)) (Rt R k77 (bool false))) (Rt R k75 (bool false)))))))))))) :
  CallsG Tryz.prog 3 #[S3 A0 l0 c0 A1 l1 c1 A2 l2 c2,S6 A3 l3 c3 A4 l4 c4 A5 l5 c5 A6 l6 c6 A7 l7 c7 A8 l8 c8,S6 A9 l9 c9 A10 l10 c10 A11 l11 c11 A12 l12 c12 A13 l13 c13 A14 l14 c14,S3 A15 l15 c15 A16 l16 c16 A17 l17 c17,agg #[int .i64 n18,int .i64 n19,int .i64 n20,int .i64 n21,int .i64 n22,int .i64 n23,int .i64 n24,int .i64 n25]] k R:=
  aA (cfg:={ opq:=[75,81] }) (args:=[.agg [.var 0,.var 1,.var 2],.agg [.var 3,.var 4,.var 5,.var 6,.var 7,.var 8],.agg [.var 9,.var 10,.var 11,.var 12,.var 13,.var 14],.agg [.var 15,.var 16,.var 17],.agg [.var 18,.var 19,.var 20,.var 21,.var 22,.var 23,.var 24,.var 25]]) (vals:=[slice A0 l0 c0,slice A1 l1 c1,slice A2 l2 c2,slice A3 l3 c3,slice A4 l4 c4,slice A5 l5 c5,slice A6 l6 c6,slice A7 l7 c7,slice A8 l8 c8,slice A9 l9 c9,slice A10 l10 c10,slice A11 l11 c11,slice A12 l12 c12,slice A13 l13 c13,slice A14 l14 c14,slice A15 l15 c15,slice A16 l16 c16,slice A17 l17 c17,int .i64 n18,int .i64 n19,int .i64 n20,int .i64 n21,int .i64 n22,int .i64 n23,int .i64 n24,int .i64 n25]) (kinds:=[.slice,.slice,.slice,.slice,.slice,.slice,.slice,.slice,.slice,.slice,.slice,.slice,.slice,.slice,.slice,.slice,.slice,.slice,.int .i64,.int .i64,.int .i64,.int .i64,.int .i64,.int .i64,.int .i64,.int .i64]) (by kernel_rfl) ⟨qS,qS,qS,qS,qS,qS,qS,qS,qS,qS,qS,qS,qS,qS,qS,qS,qS,qS,⟨_,rfl⟩,⟨_,rfl⟩,⟨_,rfl⟩,⟨_,rfl⟩,⟨_,rfl⟩,⟨_,rfl⟩,⟨_,rfl⟩,⟨_,rfl⟩,trivial⟩ (by kernel_rfl) (by kernel_rfl) h
theorem aBh 
 (h:Cl k 18 #[agg #[int .i64 n0,int .i64 n1]] fun k1 r0=>Gt 3 r0 fun cs8=>
 Cl k1 20 #[agg #[int .i64 n0,int .i64 n1]] fun k3 r2=>Gt 3 r2 fun cs9=>
 Cl k3 18 #[agg #[int .i64 n4,int .i64 n5]] fun k5 r4=>Gt 3 r4 fun cs10=>
 Cl k5 20 #[agg #[int .i64 n4,int .i64 n5]] fun k7 r6=>Gt 3 r6 fun cs11=>
 Cl k7 18 #[agg #[int .i64 n2,int .i64 n3]] fun k9 r8=>Gt 3 r8 fun cs12=>
 Cl k9 20 #[agg #[int .i64 n2,int .i64 n3]] fun k11 r10=>Gt 3 r10 fun cs13=>
 Cl k11 18 #[agg #[int .i64 n6,int .i64 n7]] fun k13 r12=>Gt 3 r12 fun cs14=>
 Cl k13 20 #[agg #[int .i64 n6,int .i64 n7]] fun k15 r14=>Gt 3 r14 fun cs15=>
 Rt R k15 (tuple #[agg (cs8.toList++(cs12.toList++(cs10.toList++(cs14.toList++([]))))).toArray,agg (cs9.toList++(cs13.toList++(cs11.toList++(cs15.toList++([]))))).toArray])) :
  CallsG Tryz.prog 25 #[agg #[int .i64 n0,int .i64 n1,int .i64 n2,int .i64 n3,int .i64 n4,int .i64 n5,int .i64 n6,int .i64 n7]] k R:=
  aA (cfg:={ opq:=[75,81] }) (args:=[.agg [.var 0,.var 1,.var 2,.var 3,.var 4,.var 5,.var 6,.var 7]]) (vals:=[int .i64 n0,int .i64 n1,int .i64 n2,int .i64 n3,int .i64 n4,int .i64 n5,int .i64 n6,int .i64 n7]) (kinds:=[.int .i64,.int .i64,.int .i64,.int .i64,.int .i64,.int .i64,.int .i64,.int .i64]) (by kernel_rfl) ⟨⟨_,rfl⟩,⟨_,rfl⟩,⟨_,rfl⟩,⟨_,rfl⟩,⟨_,rfl⟩,⟨_,rfl⟩,⟨_,rfl⟩,⟨_,rfl⟩,trivial⟩ (by kernel_rfl) (by kernel_rfl) h
end Go.Proofs.YtpeakfmjibfkpaaGreat

namespace Go.Proofs.YtpeakfmjibfkpaaGreat
open Go.RowKit
open Value (agg slice int bool tuple)
open Sy (Up Sees CallsG Seg aA)
set_option maxRecDepth 100000
variable {k:World}{R:World→Value→Prop}{A0 A1 A2 A3 A4 A5 A6 A7 A8:Option Addr}{c0 c1 c2 c3 c4 c5 c6 c7 c8 l0 l1 l2 l3 l4 l5 l6 l7 l8:Nat}{cs6 cs7 cs9 cs10 cs11 cs12:Array Value}
theorem aHz (hcs6:Seg 3 cs6) (hcs7:Seg 3 cs7)
 (h:∃ I0:Nat→World→List Value→Prop,(∃ m0,∀ k0,Up k k0→I0 m0 k0 [int .i64 0,tuple #[slice none 0 0,agg #[]],tuple #[slice none 0 0,agg #[]],tuple #[slice none 0 0,agg #[]]])∧
 ∀ m0 k0 vs0,Up k k0→I0 m0 k0 vs0→∃ n8,∃ A9 l9 c9,∃ cs10,Sy.RowC cs10∧∃ A11 l11 c11,∃ cs12,Sy.RowC cs12∧∃ A13 l13 c13,∃ cs14,Sy.RowC cs14∧some [int .i64 n8,tuple #[slice A9 l9 c9,agg cs10],tuple #[slice A11 l11 c11,agg cs12],tuple #[slice A13 l13 c13,agg cs14]]=some vs0∧
 Tt∧(Br (decide ((n8:Int)<(l1:Nat))) (Ad A1∧Ix n8 l1∧
 Ad A1∧Ix n8 l1∧
 ∃ n15,Sy.ReadAt k0.cell? A1 (Int.toNat n8*10+0) 1 (int .i64 n15)∧
 Ad A0∧Ix n15 l0∧
 ∃ A16 l16 c16,∃ A17 l17 c17,∃ cs18,Seg 3 cs18∧∃ cs19,Seg 3 cs19∧Sy.ReadAt k0.cell? A0 (Int.toNat n15*8+0) 8 (agg ((slice A16 l16 c16) :: ((slice A17 l17 c17) :: (cs18.toList++(cs19.toList++([]))))).toArray)∧
 El k0 A3 n8 l3 3 fun cs20=>
 Ad A1∧Ix n8 l1∧
 Ad A1∧Ix n8 l1∧
 ∃ cs21,Seg 3 cs21∧Sy.ReadAt k0.cell? A1 (Int.toNat n8*10+1) 3 (agg cs21)∧
 Cl k0 162 #[S3 A0 l0 c0 A1 l1 c1 A2 l2 c2,S3 A3 l3 c3 A4 l4 c4 A5 l5 c5,int .i64 n8,agg cs6,agg cs7] fun k2 r1=>Gt 3 r1 fun cs22=>
 Cl k2 161 #[agg cs22,agg cs21] fun k4 r3=>Gt 3 r3 fun cs23=>
 Cl k4 153 #[agg cs20,agg cs23] fun k6 r5=>Gt 3 r5 fun cs24=>
 (cs24.toList++([]):List Value).length=Int.toNat 1*3∧(0:Int)≤1∧Sy.sizeOk 56 (l9+Int.toNat 1)∧∀ (A25:Option Addr) (l25 c25:Nat) (cs26:Array Value),l25=l9+Int.toNat 1→cs26=cs10++(cs24.toList++([]):List Value).toArray→l25≤c25→
 El k6 A4 n8 l4 3 fun cs27=>
 El k6 A3 n8 l3 3 fun cs28=>
 Cl k6 163 #[slice A16 l16 c16,agg cs28] fun k8 r7=>Gt 3 r7 fun cs29=>
 Cl k8 153 #[agg cs27,agg cs29] fun k10 r9=>Gt 3 r9 fun cs30=>
 (cs30.toList++([]):List Value).length=Int.toNat 1*3∧(0:Int)≤1∧Sy.sizeOk 56 (l11+Int.toNat 1)∧∀ (A31:Option Addr) (l31 c31:Nat) (cs32:Array Value),l31=l11+Int.toNat 1→cs32=cs12++(cs30.toList++([]):List Value).toArray→l31≤c31→
 El k10 A5 n8 l5 3 fun cs33=>
 El k10 A3 n8 l3 3 fun cs34=>
 Cl k10 163 #[slice A17 l17 c17,agg cs34] fun k12 r11=>Gt 3 r11 fun cs35=>
 Cl k12 153 #[agg cs33,agg cs35] fun k14 r13=>Gt 3 r13 fun cs36=>
 (cs36.toList++([]):List Value).length=Int.toNat 1*3∧(0:Int)≤1∧Sy.sizeOk 56 (l13+Int.toNat 1)∧∀ (A37:Option Addr) (l37 c37:Nat) (cs38:Array Value),l37=l13+Int.toNat 1→cs38=cs14++(cs36.toList++([]):List Value).toArray→l37≤c37→
 ∀ k15,Up k14 k15→∃ m,m<m0∧I0 m k15 [int .i64 (IntKind.wrap .i64 (n8+1)),tuple #[slice A25 l25 c25,agg cs26],tuple #[slice A31 l31 c31,agg cs32],tuple #[slice A37 l37 c37,agg cs38]]) (Rt R k0 (tuple #[slice A9 l9 c9,agg cs10,slice A11 l11 c11,agg cs12,slice A13 l13 c13,agg cs14])))) :
  Sy.CallsR3 Tryz.prog 118 #[S3 A0 l0 c0 A1 l1 c1 A2 l2 c2,S3 A3 l3 c3 A4 l4 c4 A5 l5 c5,agg cs6,agg cs7] k 81 3 R:=
  Sy.execFnR3_use (cfg:={ opq:=[81],loops:=[(0,[.tmp 10 false [.int .i64],.rb 5 0 81 3,.rb 5 1 81 3,.rb 5 2 81 3])],gift:=some (81,3),gift3:=true }) (args:=[.agg [.var 0,.var 1,.var 2],.agg [.var 3,.var 4,.var 5],.agg [.seg 6 3],.agg [.seg 7 3]]) (vals:=[slice A0 l0 c0,slice A1 l1 c1,slice A2 l2 c2,slice A3 l3 c3,slice A4 l4 c4,slice A5 l5 c5,agg cs6,agg cs7]) (kinds:=[.slice,.slice,.slice,.slice,.slice,.slice,.seg 3,.seg 3]) (by kernel_rfl) ⟨qS,qS,qS,qS,qS,qS,⟨cs6,rfl,hcs6⟩,⟨cs7,rfl,hcs7⟩,trivial⟩ (by kernel_rfl) (by kernel_rfl) h
theorem aQh (hcs9:Seg 3 cs9) (hcs10:Seg 3 cs10) (hcs11:Seg 3 cs11) (hcs12:Seg 3 cs12)
 (h:∀ k0,Up k k0→Sy.CallsR3 Tryz.prog 118 #[S3 A0 l0 c0 A1 l1 c1 A2 l2 c2,S3 A3 l3 c3 A4 l4 c4 A5 l5 c5,agg cs9,agg cs11] k0 81 3 fun k1 r0=>∃ A13 l13 c13,∃ cs14,∃ A15 l15 c15,∃ cs16,∃ A17 l17 c17,∃ cs18,r0=tuple #[slice A13 l13 c13,agg cs14,slice A15 l15 c15,agg cs16,slice A17 l17 c17,agg cs18]∧
 ∀ k2,Up k1 k2→Sy.CallsR3 Tryz.prog 118 #[S3 A0 l0 c0 A1 l1 c1 A2 l2 c2,S3 A6 l6 c6 A7 l7 c7 A8 l8 c8,agg cs10,agg cs12] k2 81 3 fun k3 r2=>∃ A19 l19 c19,∃ cs20,∃ A21 l21 c21,∃ cs22,∃ A23 l23 c23,∃ cs24,r2=tuple #[slice A19 l19 c19,agg cs20,slice A21 l21 c21,agg cs22,slice A23 l23 c23,agg cs24]∧
 ∃ I4:Nat→World→List Value→Prop,(∃ m4,∀ k4,Up k3 k4→I4 m4 k4 [int .i64 0,tuple #[slice A13 l13 c13,agg cs14],tuple #[slice A19 l19 c19,agg cs20]])∧
 ∀ m4 k4 vs4,Up k3 k4→I4 m4 k4 vs4→∃ n25,∃ A26 l26 c26,∃ cs27,Sy.RowC cs27∧∃ A28 l28 c28,∃ cs29,Sy.RowC cs29∧some [int .i64 n25,tuple #[slice A26 l26 c26,agg cs27],tuple #[slice A28 l28 c28,agg cs29]]=some vs4∧
 Tt∧(Br (decide ((n25:Int)<(l1:Nat))) ((decide ((0:Int)≤n25∧(n25:Int)<(l26:Nat)))=true∧
 (∃ cs30,Seg 3 cs30∧Sy.ReadIn cs27 (Int.toNat n25*3+0) 3 (agg cs30)∧
 (decide ((0:Int)≤n25∧(n25:Int)<(l28:Nat)))=true∧
 (∃ cs31,Seg 3 cs31∧Sy.ReadIn cs29 (Int.toNat n25*3+0) 3 (agg cs31)∧
 Cl k4 119 #[agg cs30,int .i64 40] fun k6 r5=>Gt 3 r5 fun cs32=>
 Cl k6 120 #[agg cs31,int .i64 40] fun k8 r7=>Gt 3 r7 fun cs33=>
 (decide ((0:Int)≤n25∧(n25:Int)<(l26:Nat)))=true∧
 (Ix n25 l26∧∀ cs34:Array Value,cs34=Sy.over cs27 (Int.toNat n25*3+0) (cs32.toList++([]))→
 (decide ((0:Int)≤n25∧(n25:Int)<(l28:Nat)))=true∧
 (Ix n25 l28∧∀ cs35:Array Value,cs35=Sy.over cs29 (Int.toNat n25*3+0) (cs33.toList++([]))→
 ∀ k9,Up k8 k9→∃ m,m<m4∧I4 m k9 [int .i64 (IntKind.wrap .i64 (n25+1)),tuple #[slice A26 l26 c26,agg cs34],tuple #[slice A28 l28 c28,agg cs35]]))))) (∀ k10,Up k4 k10→Sy.RowAt k10 A26 cs27→
 ∀ k11,Up k10 k11→Sy.RowAt k11 A15 cs16→
 ∀ k12,Up k11 k12→Sy.RowAt k12 A17 cs18→
 ∀ k13,Up k12 k13→Sy.RowAt k13 A28 cs29→
 ∀ k14,Up k13 k14→Sy.RowAt k14 A21 cs22→
 ∀ k15,Up k14 k15→Sy.RowAt k15 A23 cs24→
 Rt R k15 (S6 A26 l26 c26 A15 l15 c15 A17 l17 c17 A28 l28 c28 A21 l21 c21 A23 l23 c23)))) :
  CallsG Tryz.prog 72 #[S3 A0 l0 c0 A1 l1 c1 A2 l2 c2,S6 A3 l3 c3 A4 l4 c4 A5 l5 c5 A6 l6 c6 A7 l7 c7 A8 l8 c8,agg (cs9.toList++(cs10.toList++(cs11.toList++(cs12.toList++([]))))).toArray] k R:=
  aA (cfg:={ opq:=[81],loops:=[(0,[.tmp 9 false [.int .i64],.rb 4 0 81 3,.rb 5 0 81 3])],adopt:=[118] }) (args:=[.agg [.var 0,.var 1,.var 2],.agg [.var 3,.var 4,.var 5,.var 6,.var 7,.var 8],.agg [.seg 9 3,.seg 10 3,.seg 11 3,.seg 12 3]]) (vals:=[slice A0 l0 c0,slice A1 l1 c1,slice A2 l2 c2,slice A3 l3 c3,slice A4 l4 c4,slice A5 l5 c5,slice A6 l6 c6,slice A7 l7 c7,slice A8 l8 c8,agg cs9,agg cs10,agg cs11,agg cs12]) (kinds:=[.slice,.slice,.slice,.slice,.slice,.slice,.slice,.slice,.slice,.seg 3,.seg 3,.seg 3,.seg 3]) (by kernel_rfl) ⟨qS,qS,qS,qS,qS,qS,qS,qS,qS,⟨cs9,rfl,hcs9⟩,⟨cs10,rfl,hcs10⟩,⟨cs11,rfl,hcs11⟩,⟨cs12,rfl,hcs12⟩,trivial⟩ (by kernel_rfl) (by kernel_rfl) h
end Go.Proofs.YtpeakfmjibfkpaaGreat

