/- Several texts in one. (Printed by prep.py.) -/
import Derived.Test.YtpeakfmjibfkpaaGreatCyVS
namespace Go.Proofs.YtpeakfmjibfkpaaGreat
open IntKind (wrap)
open Go.RowKit
open Value (agg slice int bool tuple)
open Sy (Up Sees CallsG Seg execFn_use)
set_option maxRecDepth 100000
variable {k:World}{R:World→Value→Prop}{A0 A1 A2 A3 A4 A5 A6 A7 A8 A9:Option Addr}{M3 c0 c1 c2 c3 c4 c5 c6 c7 c8 c9 l0 l1 l2 l3 l4 l5 l6 l7 l8 l9:Nat}{cs0 cs1 cs2 cs3 cs4 cs9 cs10 cs11 cs12 cs13:Array Value}{n0 n1 n2 n3 n4 n5 n6 n7:Int}
theorem aJt (hcs3:Seg 3 cs3) (hcs4:Seg 3 cs4)
 (h:Cl k 54 #[S3 A0 l0 c0 A1 l1 c1 A2 l2 c2] fun k1 r0=>Gi r0 fun n5=>
 Br ((n5:Int) != 0) (Rt R k1 (tuple #[Z6,int .i64 n5])) (Cl k1 55 #[agg cs4,agg cs3] fun k4 r3=>Gb r3 fun b6=>
 Br b6 (Rt R k4 (tuple #[Z6,int .i64 7])) (Cl k4 56 #[S3 A0 l0 c0 A1 l1 c1 A2 l2 c2,agg cs3] fun k7 r6=>∃A7 l7 c7,∃A8 l8 c8,∃A9 l9 c9,some (S3 A7 l7 c7 A8 l8 c8 A9 l9 c9)=some r6∧
 Cl k7 56 #[S3 A0 l0 c0 A1 l1 c1 A2 l2 c2,agg cs4] fun k9 r8=>∃A10 l10 c10,∃A11 l11 c11,∃A12 l12 c12,some (S3 A10 l10 c10 A11 l11 c11 A12 l12 c12)=some r8∧
 Rt R k9 (tuple #[S6 A7 l7 c7 A8 l8 c8 A9 l9 c9 A10 l10 c10 A11 l11 c11 A12 l12 c12,int .i64 0])))) :
  CallsG Tryz.prog 17 #[S3 A0 l0 c0 A1 l1 c1 A2 l2 c2,agg cs3,agg cs4] k R:=
  qX { opq:=[75] } [.agg (qV 0 3),.agg [.seg 3 3],.agg [.seg 4 3]] [slice A0 l0 c0,slice A1 l1 c1,slice A2 l2 c2,agg cs3,agg cs4] [.slice,.slice,.slice,.seg 3,.seg 3] ⟨qS,qS,qS,⟨cs3,rfl,hcs3⟩,⟨cs4,rfl,hcs4⟩,trivial⟩ h
theorem aUq 
 (h:Tt∧(Tt∧(Br (((l0:Nat):Int) != (l1:Nat)) (Rt R k (bool false)) (Tt∧(Tt∧(Br (((l2:Nat):Int) != (l1:Nat)) (Rt R k (bool false)) (Tt∧(∃I2:Nat→World→List Value→Prop,(∃m2,∀k2,Up k k2→I2 m2 k2 [int .i64 0])∧
 ∀m2 k2 vs2,Up k k2→I2 m2 k2 vs2→∃n3,some [int .i64 n3]=some vs2∧
 Br (decide ((n3:Int)<(l1:Nat))) (El k2 A1 n3 l1 3 fun cs4=>
 El k2 A0 n3 l0 3 fun cs5=>
 Cl k2 55 #[agg cs4,agg cs5] fun k4 r3=>Gb r3 fun b6=>
 Br b6 (Rt R k4 (bool false)) (El k4 A2 n3 l2 3 fun cs7=>
 El k4 A1 n3 l1 3 fun cs8=>
 Cl k4 55 #[agg cs7,agg cs8] fun k7 r6=>Gb r6 fun b9=>
 Br b9 (Rt R k7 (bool false)) (∀k9,Up k7 k9→∃m,m<m2∧I2 m k9 [int .i64 (wrap .i64 (n3+1))]))) (Rt R k2 (bool true)))))))))) :
  CallsG Tryz.prog 64 #[slice A0 l0 c0,slice A1 l1 c1,slice A2 l2 c2] k R:=
  qY { opq:=[75],loops:=[(0,[.tmp 22 false [.int .i64]])] } h
theorem aFh 
 (h:Cl k 64 #[slice A0 l0 c0,slice A6 l6 c6,slice A3 l3 c3] fun k1 r0=>Gb r0 fun b9=>
 Br b9 (Cl k1 64 #[slice A1 l1 c1,slice A7 l7 c7,slice A4 l4 c4] fun k3 r2=>Gb r2 fun b10=>
 Br b10 (Cl k3 64 #[slice A2 l2 c2,slice A8 l8 c8,slice A5 l5 c5] fun k5 r4=>Gb r4 fun b11=>
 Rt R k5 (bool b11)) (Rt R k3 (bool false))) (Rt R k1 (bool false))) :
  CallsG Tryz.prog 22 #[S6 A0 l0 c0 A1 l1 c1 A2 l2 c2 A3 l3 c3 A4 l4 c4 A5 l5 c5,S3 A6 l6 c6 A7 l7 c7 A8 l8 c8] k R:=
  qY { opq:=[75] } h
theorem aPa 
 (h:Cl k 91 #[S3 A0 l0 c0 A1 l1 c1 A2 l2 c2,S3 A3 l3 c3 A4 l4 c4 A5 l5 c5] fun k1 r0=>Gi r0 fun n9=>
 Br ((n9:Int) != 0) (Rt R k1 (int .i64 n9)) (Cl k1 114 #[S3 A0 l0 c0 A1 l1 c1 A2 l2 c2,S3 A6 l6 c6 A7 l7 c7 A8 l8 c8] fun k4 r3=>Gi r3 fun n10=>
 Br ((n10:Int) != 0) (Rt R k4 (int .i64 n10)) (Cl k4 22 #[S6 A3 l3 c3 A4 l4 c4 A5 l5 c5 A6 l6 c6 A7 l7 c7 A8 l8 c8,S3 A3 l3 c3 A4 l4 c4 A5 l5 c5] fun k7 r6=>Gb r6 fun b11=>
 Br (!b11) (Rt R k7 (int .i64 7)) (Rt R k7 (int .i64 0))))) :
  CallsG Tryz.prog 66 #[S3 A0 l0 c0 A1 l1 c1 A2 l2 c2,S6 A3 l3 c3 A4 l4 c4 A5 l5 c5 A6 l6 c6 A7 l7 c7 A8 l8 c8] k R:=
  qY { opq:=[75] } h
theorem aKj (hcs0:Seg 3 cs0) (hcs1:Seg 3 cs1) (hcs2:Seg 3 cs2) (hcs3:Seg 3 cs3)
 (h:Cl k 55 #[agg cs1,agg cs0] fun k1 r0=>Gb r0 fun b4=>
 Br b4 (Rt R k1 (int .i64 7)) (Cl k1 55 #[agg cs3,agg cs2] fun k4 r3=>Gb r3 fun b5=>
 Br b5 (Rt R k4 (int .i64 7)) (Rt R k4 (int .i64 0)))) :
  CallsG Tryz.prog 67 #[Rg cs0 cs1 cs2 cs3] k R:=
  qX { opq:=[75] } [.agg [.seg 0 3,.seg 1 3,.seg 2 3,.seg 3 3]] [agg cs0,agg cs1,agg cs2,agg cs3] [.seg 3,.seg 3,.seg 3,.seg 3] ⟨⟨cs0,rfl,hcs0⟩,⟨cs1,rfl,hcs1⟩,⟨cs2,rfl,hcs2⟩,⟨cs3,rfl,hcs3⟩,trivial⟩ h
theorem aUp (hcs10:Seg 3 cs10) (hcs11:Seg 3 cs11) (hcs12:Seg 3 cs12) (hcs13:Seg 3 cs13)
 (h:Cl k 92 #[agg #[slice A0 l0 c0,slice A1 l1 c1,slice A2 l2 c2,Value.map (some M3)],S3 A4 l4 c4 A5 l5 c5 A6 l6 c6,agg cs10,agg cs12,Value.func (.func 115) #[] #[]] fun k1 r0=>∃A14 l14 c14,∃A15 l15 c15,∃A16 l16 c16,some (S3 A14 l14 c14 A15 l15 c15 A16 l16 c16)=some r0∧
 Cl k1 92 #[agg #[slice A0 l0 c0,slice A1 l1 c1,slice A2 l2 c2,Value.map (some M3)],S3 A7 l7 c7 A8 l8 c8 A9 l9 c9,agg cs11,agg cs13,Value.func (.func 116) #[] #[]] fun k3 r2=>∃A17 l17 c17,∃A18 l18 c18,∃A19 l19 c19,some (S3 A17 l17 c17 A18 l18 c18 A19 l19 c19)=some r2∧
 Rt R k3 (S6 A14 l14 c14 A15 l15 c15 A16 l16 c16 A17 l17 c17 A18 l18 c18 A19 l19 c19)) :
  CallsG Tryz.prog 69 #[agg #[slice A0 l0 c0,slice A1 l1 c1,slice A2 l2 c2,Value.map (some M3)],S6 A4 l4 c4 A5 l5 c5 A6 l6 c6 A7 l7 c7 A8 l8 c8 A9 l9 c9,Rg cs10 cs11 cs12 cs13] k R:=
  qX { opq:=[75] } [.agg (qV 0 4),.agg (qV 4 6),.agg [.seg 10 3,.seg 11 3,.seg 12 3,.seg 13 3]] [slice A0 l0 c0,slice A1 l1 c1,slice A2 l2 c2,Value.map (some M3),slice A4 l4 c4,slice A5 l5 c5,slice A6 l6 c6,slice A7 l7 c7,slice A8 l8 c8,slice A9 l9 c9,agg cs10,agg cs11,agg cs12,agg cs13] [.slice,.slice,.slice,.map,.slice,.slice,.slice,.slice,.slice,.slice,.seg 3,.seg 3,.seg 3,.seg 3] ⟨qS,qS,qS,⟨_,rfl⟩,qS,qS,qS,qS,qS,qS,⟨cs10,rfl,hcs10⟩,⟨cs11,rfl,hcs11⟩,⟨cs12,rfl,hcs12⟩,⟨cs13,rfl,hcs13⟩,trivial⟩ h
theorem aKd (hcs0:Seg 3 cs0)
 (h:Cl k 159 #[agg cs0,int .i64 40] fun k1 r0=>Gt 3 r0 fun cs1=>
 Rt R k1 (agg cs1)) :
  CallsG Tryz.prog 115 #[agg cs0] k R:=
  qX { opq:=[75] } [.agg [.seg 0 3]] [agg cs0] [.seg 3] ⟨⟨cs0,rfl,hcs0⟩,trivial⟩ h
theorem aPd (hcs0:Seg 3 cs0)
 (h:Cl k 160 #[agg cs0,int .i64 40] fun k1 r0=>Gt 3 r0 fun cs1=>
 Rt R k1 (agg cs1)) :
  CallsG Tryz.prog 116 #[agg cs0] k R:=
  qX { opq:=[75] } [.agg [.seg 0 3]] [agg cs0] [.seg 3] ⟨⟨cs0,rfl,hcs0⟩,trivial⟩ h
abbrev aOs (f:FuncId):Prop:=∀ {k:World}{R:World→Value→Prop}{A0:Option Addr}{l0 c0:Nat}{A1:Option Addr}{l1 c1:Nat}{A2:Option Addr}{l2 c2:Nat}{M3:Nat}{A4:Option Addr}{l4 c4:Nat}{A5:Option Addr}{l5 c5:Nat}{A6:Option Addr}{l6 c6:Nat}{cs7 cs8:Array Value}(_:Seg 3 cs7) (_:Seg 3 cs8)
 (_:Tt∧(∃I0:Nat→World→List Value→Prop,(∃m0,∀k0,Up k k0→I0 m0 k0 [int .i64 0,tuple #[slice none 0 0,agg #[]],tuple #[slice none 0 0,agg #[]],tuple #[slice none 0 0,agg #[]]])∧
 ∀m0 k0 vs0,Up k k0→I0 m0 k0 vs0→∃n9,∃A10 l10 c10,∃cs11,Sy.RowC cs11∧∃A12 l12 c12,∃cs13,Sy.RowC cs13∧∃A14 l14 c14,∃cs15,Sy.RowC cs15∧some [int .i64 n9,tuple #[slice A10 l10 c10,agg cs11],tuple #[slice A12 l12 c12,agg cs13],tuple #[slice A14 l14 c14,agg cs15]]=some vs0∧
 Br (decide ((n9:Int)<(l1:Nat))) (Ad A1∧Ix n9 l1∧
 ∃n16,∃cs17,Seg 3 cs17∧∃cs18,Seg 3 cs18∧∃cs19,Seg 3 cs19∧Sy.ReadAt k0.cell? A1 (Int.toNat n9*10+0) 10 (agg ((int .i64 n16) :: (cs17.toList++(cs18.toList++(cs19.toList++([]))))).toArray)∧
 El k0 A4 n9 l4 3 fun cs20=>
 Cl k0 89 #[agg cs7,agg cs20] fun k2 r1=>Gt 3 r1 fun cs21=>
 Cl k2 90 #[agg cs18,agg cs21] fun k4 r3=>Gt 3 r3 fun cs22=>
 Cl k4 89 #[agg cs8,agg cs20] fun k6 r5=>Gt 3 r5 fun cs23=>
 Cl k6 90 #[agg cs19,agg cs23] fun k8 r7=>Gt 3 r7 fun cs24=>
 Cl k8 88 #[agg cs22,agg cs24] fun k10 r9=>Gt 3 r9 fun cs25=>
 ∃A26 l26 c26,Sy.LookAt Tryz.prog k10 189 M3 (int .i64 n9) (slice A26 l26 c26)∧
 Tt∧(∃I11:Nat→World→List Value→Prop,(∃m11,∀k11,Up k10 k11→I11 m11 k11 [int .i64 0,agg cs25])∧
 ∀m11 k11 vs11,Up k10 k11→I11 m11 k11 vs11→∃n27,∃cs28,Seg 3 cs28∧some [int .i64 n27,agg cs28]=some vs11∧
 Br (decide ((n27:Int)<(l26:Nat))) (Ad A26∧Ix n27 l26∧
 ∃n29,∃n30,∃cs31,Seg 3 cs31∧Sy.ReadAt k11.cell? A26 (Int.toNat n27*5+0) 5 (agg ((int .i64 n29) :: ((int .i64 n30) :: (cs31.toList++([])))).toArray)∧
 Cl k11 135 #[agg ((int .i64 n29) :: ((int .i64 n30) :: (cs31.toList++([])))).toArray,int .i64 n9] fun k13 r12=>Gi r12 fun n32=>
 El k13 A4 n32 l4 3 fun cs33=>
 Cl k13 89 #[agg cs33,agg cs20] fun k15 r14=>Gt 3 r14 fun cs34=>
 Cl k15 90 #[agg cs31,agg cs34] fun k17 r16=>Gt 3 r16 fun cs35=>
 Cl k17 88 #[agg cs28,agg cs35] fun k19 r18=>Gt 3 r18 fun cs36=>
 ∀k20,Up k19 k20→∃m,m<m11∧I11 m k20 [int .i64 (wrap .i64 (n27+1)),agg cs36]) (Ad A0∧Ix n16 l0∧
 ∃A29 l29 c29,∃A30 l30 c30,∃cs31,Seg 3 cs31∧∃cs32,Seg 3 cs32∧Sy.ReadAt k11.cell? A0 (Int.toNat n16*8+0) 8 (agg ((slice A29 l29 c29) :: ((slice A30 l30 c30) :: (cs31.toList++(cs32.toList++([]))))).toArray)∧
 Cl k11 136 #[agg cs28,agg cs17] fun k22 r21=>Gt 3 r21 fun cs33=>
 Cl k22 88 #[agg cs20,agg cs33] fun k24 r23=>Gt 3 r23 fun cs34=>
 ∀k25,Up k24 k25→CallsG Tryz.prog f #[agg cs34] k25 fun k26 r25=>Gt 3 r25 fun cs35=>
 (cs35.toList++([]):List Value).length=Int.toNat 1*3∧(0:Int)≤1∧Sy.sizeOk 56 (l10+Int.toNat 1)∧∀(A36:Option Addr) (l36 c36:Nat) (cs37:Array Value),l36=l10+Int.toNat 1→cs37=cs11++(cs35.toList++([]):List Value).toArray→l36≤c36→
 El k26 A5 n9 l5 3 fun cs38=>
 Cl k26 137 #[slice A29 l29 c29,agg cs20] fun k28 r27=>Gt 3 r27 fun cs39=>
 Cl k28 88 #[agg cs38,agg cs39] fun k30 r29=>Gt 3 r29 fun cs40=>
 (cs40.toList++([]):List Value).length=Int.toNat 1*3∧(0:Int)≤1∧Sy.sizeOk 56 (l12+Int.toNat 1)∧∀(A41:Option Addr) (l41 c41:Nat) (cs42:Array Value),l41=l12+Int.toNat 1→cs42=cs13++(cs40.toList++([]):List Value).toArray→l41≤c41→
 El k30 A6 n9 l6 3 fun cs43=>
 Cl k30 137 #[slice A30 l30 c30,agg cs20] fun k32 r31=>Gt 3 r31 fun cs44=>
 Cl k32 88 #[agg cs43,agg cs44] fun k34 r33=>Gt 3 r33 fun cs45=>
 (cs45.toList++([]):List Value).length=Int.toNat 1*3∧(0:Int)≤1∧Sy.sizeOk 56 (l14+Int.toNat 1)∧∀(A46:Option Addr) (l46 c46:Nat) (cs47:Array Value),l46=l14+Int.toNat 1→cs47=cs15++(cs45.toList++([]):List Value).toArray→l46≤c46→
 ∀k35,Up k34 k35→∃m,m<m0∧I0 m k35 [int .i64 (wrap .i64 (n9+1)),tuple #[slice A36 l36 c36,agg cs37],tuple #[slice A41 l41 c41,agg cs42],tuple #[slice A46 l46 c46,agg cs47]]))) (∀k36,Up k0 k36→Sy.RowAt k36 A10 cs11→
 ∀k37,Up k36 k37→Sy.RowAt k37 A12 cs13→
 ∀k38,Up k37 k38→Sy.RowAt k38 A14 cs15→
 Rt R k38 (S3 A10 l10 c10 A12 l12 c12 A14 l14 c14)))),
  CallsG Tryz.prog 92 #[agg #[slice A0 l0 c0,slice A1 l1 c1,slice A2 l2 c2,Value.map (some M3)],S3 A4 l4 c4 A5 l5 c5 A6 l6 c6,agg cs7,agg cs8,Value.func (.func f) #[] #[]] k R
theorem aKq:aOs 115:=fun {k R A0 l0 c0 A1 l1 c1 A2 l2 c2 M3 A4 l4 c4 A5 l5 c5 A6 l6 c6 cs7 cs8} hcs7 hcs8 h=>
 Sy.execFn_use_heap (cfg:={ opq:=[75],loops:=[(0,[.tmp 23 false [.int .i64],.rb 5 0 75 3,.rb 5 1 75 3,.rb 5 2 75 3]),(2,[.tmp 51 false [.int .i64],.blk 8 [.seg 3]])] }) (args:=[.agg (qV 0 4),.agg (qV 4 3),.agg [.seg 7 3],.agg [.seg 8 3],.one (.fn 115 [])]) (vals:=[slice A0 l0 c0,slice A1 l1 c1,slice A2 l2 c2,Value.map (some M3),slice A4 l4 c4,slice A5 l5 c5,slice A6 l6 c6,agg cs7,agg cs8]) (kinds:=[.slice,.slice,.slice,.map,.slice,.slice,.slice,.seg 3,.seg 3]) (blks:=[]) (heap:=[]) ox ⟨qS,qS,qS,⟨_,rfl⟩,qS,qS,qS,⟨cs7,rfl,hcs7⟩,⟨cs8,rfl,hcs8⟩,trivial⟩ ox trivial ox h
theorem aKp:aOs 116:=fun {k R A0 l0 c0 A1 l1 c1 A2 l2 c2 M3 A4 l4 c4 A5 l5 c5 A6 l6 c6 cs7 cs8} hcs7 hcs8 h=>
 Sy.execFn_use_heap (cfg:={ opq:=[75],loops:=[(0,[.tmp 23 false [.int .i64],.rb 5 0 75 3,.rb 5 1 75 3,.rb 5 2 75 3]),(2,[.tmp 51 false [.int .i64],.blk 8 [.seg 3]])] }) (args:=[.agg (qV 0 4),.agg (qV 4 3),.agg [.seg 7 3],.agg [.seg 8 3],.one (.fn 116 [])]) (vals:=[slice A0 l0 c0,slice A1 l1 c1,slice A2 l2 c2,Value.map (some M3),slice A4 l4 c4,slice A5 l5 c5,slice A6 l6 c6,agg cs7,agg cs8]) (kinds:=[.slice,.slice,.slice,.map,.slice,.slice,.slice,.seg 3,.seg 3]) (blks:=[]) (heap:=[]) ox ⟨qS,qS,qS,⟨_,rfl⟩,qS,qS,qS,⟨cs7,rfl,hcs7⟩,⟨cs8,rfl,hcs8⟩,trivial⟩ ox trivial ox h
abbrev aEt (f:FuncId):Prop:=∀ {k:World}{R:World→Value→Prop}{A0:Option Addr}{l0 c0:Nat}{A1:Option Addr}{l1 c1:Nat}{A2:Option Addr}{l2 c2:Nat}{A3:Option Addr}{l3 c3:Nat}
 (_:Tt∧(∃I0:Nat→World→List Value→Prop,(∃m0,∀k0,Up k k0→I0 m0 k0 [int .i64 0,tuple #[slice none 0 0,agg #[]]])∧
 ∀m0 k0 vs0,Up k k0→I0 m0 k0 vs0→∃n4,∃A5 l5 c5,∃cs6,Sy.RowC cs6∧some [int .i64 n4,tuple #[slice A5 l5 c5,agg cs6]]=some vs0∧
 Br (decide ((n4:Int)<(l1:Nat))) (Ad A1∧Ix n4 l1∧
 ∃n7,∃cs8,Seg 3 cs8∧∃cs9,Seg 3 cs9∧∃cs10,Seg 3 cs10∧Sy.ReadAt k0.cell? A1 (Int.toNat n4*10+0) 10 (agg ((int .i64 n7) :: (cs8.toList++(cs9.toList++(cs10.toList++([]))))).toArray)∧
 El k0 A3 n4 l3 3 fun cs11=>
 Ad A0∧Ix n7 l0∧
 ∃A12 l12 c12,∃A13 l13 c13,∃cs14,Seg 3 cs14∧∃cs15,Seg 3 cs15∧Sy.ReadAt k0.cell? A0 (Int.toNat n7*8+0) 8 (agg ((slice A12 l12 c12) :: ((slice A13 l13 c13) :: (cs14.toList++(cs15.toList++([]))))).toArray)∧
 ∀k1,Up k0 k1→CallsG Tryz.prog f #[agg ((slice A12 l12 c12) :: ((slice A13 l13 c13) :: (cs14.toList++(cs15.toList++([]))))).toArray] k1 fun k2 r1=>Gt 3 r1 fun cs16=>
 Cl k2 136 #[agg cs11,agg cs16] fun k4 r3=>Gt 3 r3 fun cs17=>
 (cs17.toList++([]):List Value).length=Int.toNat 1*3∧(0:Int)≤1∧Sy.sizeOk 56 (l5+Int.toNat 1)∧∀(A18:Option Addr) (l18 c18:Nat) (cs19:Array Value),l18=l5+Int.toNat 1→cs19=cs6++(cs17.toList++([]):List Value).toArray→l18≤c18→
 ∀k5,Up k4 k5→∃m,m<m0∧I0 m k5 [int .i64 (wrap .i64 (n4+1)),tuple #[slice A18 l18 c18,agg cs19]]) (∀k6,Up k0 k6→Sy.RowAt k6 A5 cs6→
 Rt R k6 (slice A5 l5 c5)))),
  CallsG Tryz.prog 166 #[S3 A0 l0 c0 A1 l1 c1 A2 l2 c2,slice A3 l3 c3,Value.func (.func f) #[] #[]] k R
theorem aCa:aEt 167:=fun {k R A0 l0 c0 A1 l1 c1 A2 l2 c2 A3 l3 c3}  h=>
 Sy.execFn_use_heap (cfg:={ opq:=[75],loops:=[(0,[.tmp 13 false [.int .i64],.rw 7 75 3])] }) (args:=[.agg (qV 0 3),.one (.var 3),.one (.fn 167 [])]) (vals:=[slice A0 l0 c0,slice A1 l1 c1,slice A2 l2 c2,slice A3 l3 c3]) (kinds:=[.slice,.slice,.slice,.slice]) (blks:=[]) (heap:=[]) ox ⟨qS,qS,qS,qS,trivial⟩ ox trivial ox h
theorem aCb:aEt 168:=fun {k R A0 l0 c0 A1 l1 c1 A2 l2 c2 A3 l3 c3}  h=>
 Sy.execFn_use_heap (cfg:={ opq:=[75],loops:=[(0,[.tmp 13 false [.int .i64],.rw 7 75 3])] }) (args:=[.agg (qV 0 3),.one (.var 3),.one (.fn 168 [])]) (vals:=[slice A0 l0 c0,slice A1 l1 c1,slice A2 l2 c2,slice A3 l3 c3]) (kinds:=[.slice,.slice,.slice,.slice]) (blks:=[]) (heap:=[]) ox ⟨qS,qS,qS,qS,trivial⟩ ox trivial ox h
theorem aFc (hcs2:Seg 3 cs2) (hcs3:Seg 3 cs3)
 (h:Rt R k (agg cs2)) :
 CallsG Tryz.prog 167 #[agg ((slice A0 l0 c0) :: ((slice A1 l1 c1) :: (cs2.toList++(cs3.toList++([]))))).toArray] k R:=
 qX { opq:=[75] } [.agg [.var 0,.var 1,.seg 2 3,.seg 3 3]] [slice A0 l0 c0,slice A1 l1 c1,agg cs2,agg cs3] [.slice,.slice,.seg 3,.seg 3] ⟨qS,qS,⟨cs2,rfl,hcs2⟩,⟨cs3,rfl,hcs3⟩,trivial⟩ h
theorem aCc (hcs2:Seg 3 cs2) (hcs3:Seg 3 cs3)
 (h:Rt R k (agg cs3)) :
 CallsG Tryz.prog 168 #[agg ((slice A0 l0 c0) :: ((slice A1 l1 c1) :: (cs2.toList++(cs3.toList++([]))))).toArray] k R:=
 qX { opq:=[75] } [.agg [.var 0,.var 1,.seg 2 3,.seg 3 3]] [slice A0 l0 c0,slice A1 l1 c1,agg cs2,agg cs3] [.slice,.slice,.seg 3,.seg 3] ⟨qS,qS,⟨cs2,rfl,hcs2⟩,⟨cs3,rfl,hcs3⟩,trivial⟩ h
theorem aJw 
 (h:Cl k 166 #[S3 A0 l0 c0 A1 l1 c1 A2 l2 c2,slice A4 l4 c4,Value.func (.func 167) #[] #[]] fun k1 r0=>∃A6 l6 c6,some (slice A6 l6 c6)=some r0∧
 Rt R k1 (slice A6 l6 c6)) :
  CallsG Tryz.prog 122 #[S3 A0 l0 c0 A1 l1 c1 A2 l2 c2,S3 A3 l3 c3 A4 l4 c4 A5 l5 c5] k R:=
  qY { opq:=[75] } h
theorem aFn 
 (h:Cl k 166 #[S3 A0 l0 c0 A1 l1 c1 A2 l2 c2,slice A5 l5 c5,Value.func (.func 168) #[] #[]] fun k1 r0=>∃A6 l6 c6,some (slice A6 l6 c6)=some r0∧
 Rt R k1 (slice A6 l6 c6)) :
  CallsG Tryz.prog 123 #[S3 A0 l0 c0 A1 l1 c1 A2 l2 c2,S3 A3 l3 c3 A4 l4 c4 A5 l5 c5] k R:=
  qY { opq:=[75] } h
abbrev aOk (f:FuncId):Prop:=∀ {k:World}{R:World→Value→Prop}{A0:Option Addr}{l0 c0:Nat}
 (_:Tt∧(∃I0:Nat→World→List Value→Prop,(∃m0,∀k0,Up k k0→I0 m0 k0 [int .i64 0,int .i64 0])∧
 ∀m0 k0 vs0,Up k k0→I0 m0 k0 vs0→∃n1,∃n2,some [int .i64 n1,int .i64 n2]=some vs0∧
 Br (decide ((n2:Int)<(l0:Nat))) (El k0 A0 n2 l0 3 fun cs3=>
 El k0 A0 n1 l0 3 fun cs4=>
 ∀k1,Up k0 k1→CallsG Tryz.prog f #[agg cs3,agg cs4] k1 fun k2 r1=>Gb r1 fun b5=>
 Br b5 (∀k3,Up k2 k3→∃m,m<m0∧I0 m k3 [int .i64 n2,int .i64 (wrap .i64 (n2+1))]) (∀k4,Up k2 k4→∃m,m<m0∧I0 m k4 [int .i64 n1,int .i64 (wrap .i64 (n2+1))])) (Rt R k0 (int .i64 n1)))),
  CallsG Tryz.prog 121 #[slice A0 l0 c0,Value.func (.func f) #[] #[]] k R
theorem aFf:aOk 55:=fun {k R A0 l0 c0}  h=>
 Sy.execFn_use_heap (cfg:={ opq:=[75],loops:=[(0,[.tmp 5 false [.int .i64],.tmp 9 false [.int .i64]])] }) (args:=[.one (.var 0),.one (.fn 55 [])]) (vals:=[slice A0 l0 c0]) (kinds:=[.slice]) (blks:=[]) (heap:=[]) ox ⟨qS,trivial⟩ ox trivial ox h
theorem aFg:aOk 124:=fun {k R A0 l0 c0}  h=>
 Sy.execFn_use_heap (cfg:={ opq:=[75],loops:=[(0,[.tmp 5 false [.int .i64],.tmp 9 false [.int .i64]])] }) (args:=[.one (.var 0),.one (.fn 124 [])]) (vals:=[slice A0 l0 c0]) (kinds:=[.slice]) (blks:=[]) (heap:=[]) ox ⟨qS,trivial⟩ ox trivial ox h
theorem aKb (hcs0:Seg 3 cs0) (hcs1:Seg 3 cs1)
 (h:Cl k 55 #[agg cs1,agg cs0] fun k1 r0=>Gb r0 fun b2=>
 Rt R k1 (bool b2)) :
  CallsG Tryz.prog 124 #[agg cs0,agg cs1] k R:=
  qX { opq:=[75] } [.agg [.seg 0 3],.agg [.seg 1 3]] [agg cs0,agg cs1] [.seg 3,.seg 3] ⟨⟨cs0,rfl,hcs0⟩,⟨cs1,rfl,hcs1⟩,trivial⟩ h
theorem aPt 
 (h:Cl k 122 #[S3 A0 l0 c0 A1 l1 c1 A2 l2 c2,S3 A3 l3 c3 A4 l4 c4 A5 l5 c5] fun k1 r0=>∃A9 l9 c9,some (slice A9 l9 c9)=some r0∧
 Cl k1 121 #[slice A9 l9 c9,Value.func (.func 55) #[] #[]] fun k3 r2=>Gi r2 fun n10=>
 Rt R k3 (int .i64 n10)) :
  CallsG Tryz.prog 73 #[S3 A0 l0 c0 A1 l1 c1 A2 l2 c2,S6 A3 l3 c3 A4 l4 c4 A5 l5 c5 A6 l6 c6 A7 l7 c7 A8 l8 c8] k R:=
  qY { opq:=[75] } h
theorem aPj 
 (h:Cl k 123 #[S3 A0 l0 c0 A1 l1 c1 A2 l2 c2,S3 A6 l6 c6 A7 l7 c7 A8 l8 c8] fun k1 r0=>∃A9 l9 c9,some (slice A9 l9 c9)=some r0∧
 Cl k1 121 #[slice A9 l9 c9,Value.func (.func 124) #[] #[]] fun k3 r2=>Gi r2 fun n10=>
 Rt R k3 (int .i64 n10)) :
  CallsG Tryz.prog 74 #[S3 A0 l0 c0 A1 l1 c1 A2 l2 c2,S6 A3 l3 c3 A4 l4 c4 A5 l5 c5 A6 l6 c6 A7 l7 c7 A8 l8 c8] k R:=
  qY { opq:=[75] } h
theorem aPg 
 (h:Cl k 122 #[S3 A0 l0 c0 A1 l1 c1 A2 l2 c2,S3 A3 l3 c3 A4 l4 c4 A5 l5 c5] fun k1 r0=>∃A6 l6 c6,some (slice A6 l6 c6)=some r0∧
 Cl k1 121 #[slice A6 l6 c6,Value.func (.func 55) #[] #[]] fun k3 r2=>Gi r2 fun n7=>
 El k3 A6 n7 l6 3 fun cs8=>
 Cl k3 41 #[int .i64 1] fun k5 r4=>Gt 3 r4 fun cs9=>
 Cl k5 55 #[agg cs8,agg cs9] fun k7 r6=>Gb r6 fun b10=>
 Rt R k7 (bool (!b10))) :
  CallsG Tryz.prog 76 #[S3 A0 l0 c0 A1 l1 c1 A2 l2 c2,S3 A3 l3 c3 A4 l4 c4 A5 l5 c5] k R:=
  qY { opq:=[75] } h
theorem aFo 
 (h:Cl k 123 #[S3 A0 l0 c0 A1 l1 c1 A2 l2 c2,S3 A3 l3 c3 A4 l4 c4 A5 l5 c5] fun k1 r0=>∃A6 l6 c6,some (slice A6 l6 c6)=some r0∧
 Tt∧(∃I2:Nat→World→List Value→Prop,(∃m2,∀k2,Up k1 k2→I2 m2 k2 [int .i64 0])∧
 ∀m2 k2 vs2,Up k1 k2→I2 m2 k2 vs2→∃n7,some [int .i64 n7]=some vs2∧
 Br (decide ((n7:Int)<(l6:Nat))) (El k2 A6 n7 l6 3 fun cs8=>
 Cl k2 41 #[int .i64 1] fun k4 r3=>Gt 3 r3 fun cs9=>
 Cl k4 55 #[agg cs9,agg cs8] fun k6 r5=>Gb r5 fun b10=>
 Br b10 (Rt R k6 (bool true)) (∀k8,Up k6 k8→∃m,m<m2∧I2 m k8 [int .i64 (wrap .i64 (n7+1))])) (Rt R k2 (bool false)))) :
  CallsG Tryz.prog 75 #[S3 A0 l0 c0 A1 l1 c1 A2 l2 c2,S3 A3 l3 c3 A4 l4 c4 A5 l5 c5] k R:=
  qY { opq:=[75],loops:=[(0,[.tmp 11 false [.int .i64]])] } h
theorem aNa (hcs3:Seg 3 cs3) (hcs4:Seg 3 cs4)
 (h:Cl k 58 #[S3 A0 l0 c0 A1 l1 c1 A2 l2 c2] fun k1 r0=>Gi r0 fun n5=>
 Br ((n5:Int) != 0) (Rt R k1 (tuple #[Z6,int .i64 n5])) (Cl k1 59 #[agg cs3,agg cs4] fun k4 r3=>Gi r3 fun n6=>
 Br (decide ((n6:Int) > 0)) (Rt R k4 (tuple #[Z6,int .i64 7])) (Cl k4 60 #[S3 A0 l0 c0 A1 l1 c1 A2 l2 c2,agg cs3] fun k7 r6=>∃A7 l7 c7,∃A8 l8 c8,∃A9 l9 c9,some (S3 A7 l7 c7 A8 l8 c8 A9 l9 c9)=some r6∧
 Cl k7 60 #[S3 A0 l0 c0 A1 l1 c1 A2 l2 c2,agg cs4] fun k9 r8=>∃A10 l10 c10,∃A11 l11 c11,∃A12 l12 c12,some (S3 A10 l10 c10 A11 l11 c11 A12 l12 c12)=some r8∧
 Rt R k9 (tuple #[S6 A7 l7 c7 A8 l8 c8 A9 l9 c9 A10 l10 c10 A11 l11 c11 A12 l12 c12,int .i64 0])))) :
  CallsG Tryz.prog 19 #[S3 A0 l0 c0 A1 l1 c1 A2 l2 c2,agg cs3,agg cs4] k R:=
  qX { opq:=[81] } [.agg (qV 0 3),.agg [.seg 3 3],.agg [.seg 4 3]] [slice A0 l0 c0,slice A1 l1 c1,slice A2 l2 c2,agg cs3,agg cs4] [.slice,.slice,.slice,.seg 3,.seg 3] ⟨qS,qS,qS,⟨cs3,rfl,hcs3⟩,⟨cs4,rfl,hcs4⟩,trivial⟩ h
theorem aMv 
 (h:∃I0:Nat→World→List Value→Prop,(∃m0,∀k0,Up k k0→I0 m0 k0 [int .i64 0])∧
 ∀m0 k0 vs0,Up k k0→I0 m0 k0 vs0→∃n2,some [int .i64 n2]=some vs0∧
 Tt∧(Br (decide ((n2:Int)<(l0:Nat))) (El k0 A0 n2 l0 3 fun cs3=>
 El k0 A1 n2 l1 3 fun cs4=>
 Cl k0 59 #[agg cs3,agg cs4] fun k2 r1=>Gi r1 fun n5=>
 Br (decide ((n5:Int) > 0)) (Rt R k2 (bool true)) (∀k4,Up k2 k4→∃m,m<m0∧I0 m k4 [int .i64 (wrap .i64 (n2+1))])) (Rt R k0 (bool false)))) :
  CallsG Tryz.prog 113 #[slice A0 l0 c0,slice A1 l1 c1] k R:=
  qY { opq:=[81],loops:=[(0,[.tmp 5 false [.int .i64]])] } h
theorem aNs 
 (h:Tt∧(Tt∧(Br (((l0:Nat):Int) != (l3:Nat)) (Rt R k (bool false)) (Tt∧(Tt∧(Br (((l1:Nat):Int) != (l4:Nat)) (Rt R k (bool false)) (Tt∧(Tt∧(Br (((l2:Nat):Int) != (l5:Nat)) (Rt R k (bool false)) (Cl k 113 #[slice A0 l0 c0,slice A3 l3 c3] fun k4 r3=>Gb r3 fun b6=>
 Br (!b6) (Cl k4 113 #[slice A1 l1 c1,slice A4 l4 c4] fun k6 r5=>Gb r5 fun b7=>
 Br (!b7) (Cl k6 113 #[slice A2 l2 c2,slice A5 l5 c5] fun k8 r7=>Gb r7 fun b8=>
 Rt R k8 (bool (!b8))) (Rt R k6 (bool false))) (Rt R k4 (bool false)))))))))))) :
  CallsG Tryz.prog 65 #[S3 A0 l0 c0 A1 l1 c1 A2 l2 c2,S3 A3 l3 c3 A4 l4 c4 A5 l5 c5] k R:=
  qY { opq:=[81] } h
theorem aGv 
 (h:Cl k 58 #[S3 A0 l0 c0 A1 l1 c1 A2 l2 c2] fun k1 r0=>Gi r0 fun n9=>
 Br ((n9:Int) != 0) (Rt R k1 (int .i64 n9)) (Cl k1 117 #[S3 A0 l0 c0 A1 l1 c1 A2 l2 c2,S3 A3 l3 c3 A4 l4 c4 A5 l5 c5] fun k4 r3=>Gb r3 fun b10=>
 Br (!b10) (Rt R k4 (int .i64 4)) (Cl k4 117 #[S3 A0 l0 c0 A1 l1 c1 A2 l2 c2,S3 A6 l6 c6 A7 l7 c7 A8 l8 c8] fun k7 r6=>Gb r6 fun b11=>
 Br (!b11) (Rt R k7 (int .i64 4)) (Cl k7 65 #[S3 A3 l3 c3 A4 l4 c4 A5 l5 c5,S3 A6 l6 c6 A7 l7 c7 A8 l8 c8] fun k10 r9=>Gb r9 fun b12=>
 Br (!b12) (Rt R k10 (int .i64 7)) (Rt R k10 (int .i64 0)))))) :
  CallsG Tryz.prog 70 #[S3 A0 l0 c0 A1 l1 c1 A2 l2 c2,S6 A3 l3 c3 A4 l4 c4 A5 l5 c5 A6 l6 c6 A7 l7 c7 A8 l8 c8] k R:=
  qY { opq:=[81] } h
theorem aHc (hcs0:Seg 3 cs0) (hcs1:Seg 3 cs1) (hcs2:Seg 3 cs2) (hcs3:Seg 3 cs3)
 (h:Cl k 59 #[agg cs0,agg cs1] fun k1 r0=>Gi r0 fun n4=>
 Br (decide ((n4:Int) > 0)) (Rt R k1 (int .i64 7)) (Cl k1 59 #[agg cs2,agg cs3] fun k4 r3=>Gi r3 fun n5=>
 Br (decide ((n5:Int) > 0)) (Rt R k4 (int .i64 7)) (Rt R k4 (int .i64 0)))) :
  CallsG Tryz.prog 71 #[Rg cs0 cs1 cs2 cs3] k R:=
  qX { opq:=[81] } [.agg [.seg 0 3,.seg 1 3,.seg 2 3,.seg 3 3]] [agg cs0,agg cs1,agg cs2,agg cs3] [.seg 3,.seg 3,.seg 3,.seg 3] ⟨⟨cs0,rfl,hcs0⟩,⟨cs1,rfl,hcs1⟩,⟨cs2,rfl,hcs2⟩,⟨cs3,rfl,hcs3⟩,trivial⟩ h
theorem aNb (hcs9:Seg 3 cs9) (hcs10:Seg 3 cs10) (hcs11:Seg 3 cs11) (hcs12:Seg 3 cs12)
 (h:Cl k 70 #[S3 A0 l0 c0 A1 l1 c1 A2 l2 c2,S6 A3 l3 c3 A4 l4 c4 A5 l5 c5 A6 l6 c6 A7 l7 c7 A8 l8 c8] fun k1 r0=>Gi r0 fun n13=>
 Br ((n13:Int) != 0) (Rt R k1 (tuple #[Z6,int .i64 n13])) (Cl k1 71 #[Rg cs9 cs10 cs11 cs12] fun k4 r3=>Gi r3 fun n14=>
 Br ((n14:Int) != 0) (Rt R k4 (tuple #[Z6,int .i64 n14])) (Cl k4 72 #[S3 A0 l0 c0 A1 l1 c1 A2 l2 c2,S6 A3 l3 c3 A4 l4 c4 A5 l5 c5 A6 l6 c6 A7 l7 c7 A8 l8 c8,Rg cs9 cs10 cs11 cs12] fun k7 r6=>∃A15 l15 c15,∃A16 l16 c16,∃A17 l17 c17,∃A18 l18 c18,∃A19 l19 c19,∃A20 l20 c20,some (S6 A15 l15 c15 A16 l16 c16 A17 l17 c17 A18 l18 c18 A19 l19 c19 A20 l20 c20)=some r6∧
 Rt R k7 (tuple #[S6 A15 l15 c15 A16 l16 c16 A17 l17 c17 A18 l18 c18 A19 l19 c19 A20 l20 c20,int .i64 0])))) :
  CallsG Tryz.prog 27 #[S3 A0 l0 c0 A1 l1 c1 A2 l2 c2,S6 A3 l3 c3 A4 l4 c4 A5 l5 c5 A6 l6 c6 A7 l7 c7 A8 l8 c8,Rg cs9 cs10 cs11 cs12] k R:=
  qX { opq:=[81] } [.agg (qV 0 3),.agg (qV 3 6),.agg [.seg 9 3,.seg 10 3,.seg 11 3,.seg 12 3]] [slice A0 l0 c0,slice A1 l1 c1,slice A2 l2 c2,slice A3 l3 c3,slice A4 l4 c4,slice A5 l5 c5,slice A6 l6 c6,slice A7 l7 c7,slice A8 l8 c8,agg cs9,agg cs10,agg cs11,agg cs12] [.slice,.slice,.slice,.slice,.slice,.slice,.slice,.slice,.slice,.seg 3,.seg 3,.seg 3,.seg 3] ⟨qS,qS,qS,qS,qS,qS,qS,qS,qS,⟨cs9,rfl,hcs9⟩,⟨cs10,rfl,hcs10⟩,⟨cs11,rfl,hcs11⟩,⟨cs12,rfl,hcs12⟩,trivial⟩ h
theorem aGc 
 (h:Cl k 18 #[agg #[int .i64 n0,int .i64 n1]] fun k1 r0=>Gt 3 r0 fun cs8=>
 Cl k1 20 #[agg #[int .i64 n0,int .i64 n1]] fun k3 r2=>Gt 3 r2 fun cs9=>
 Cl k3 18 #[agg #[int .i64 n4,int .i64 n5]] fun k5 r4=>Gt 3 r4 fun cs10=>
 Cl k5 20 #[agg #[int .i64 n4,int .i64 n5]] fun k7 r6=>Gt 3 r6 fun cs11=>
 Cl k7 18 #[agg #[int .i64 n2,int .i64 n3]] fun k9 r8=>Gt 3 r8 fun cs12=>
 Cl k9 20 #[agg #[int .i64 n2,int .i64 n3]] fun k11 r10=>Gt 3 r10 fun cs13=>
 Cl k11 18 #[agg #[int .i64 n6,int .i64 n7]] fun k13 r12=>Gt 3 r12 fun cs14=>
 Cl k13 20 #[agg #[int .i64 n6,int .i64 n7]] fun k15 r14=>Gt 3 r14 fun cs15=>
 Rt R k15 (tuple #[Rg cs8 cs12 cs10 cs14,Rg cs9 cs13 cs11 cs15])) :
  CallsG Tryz.prog 25 #[agg #[int .i64 n0,int .i64 n1,int .i64 n2,int .i64 n3,int .i64 n4,int .i64 n5,int .i64 n6,int .i64 n7]] k R:=
  qY { opq:=[75,81] } h
end Go.Proofs.YtpeakfmjibfkpaaGreat

namespace Go.Proofs.YtpeakfmjibfkpaaGreat
open IntKind (wrap)
open Go.RowKit
open Value (agg slice int bool tuple)
open Sy (Up Sees CallsG Seg execFn_use)
set_option maxRecDepth 100000
variable {k:World}{R:World→Value→Prop}{A0 A1 A2 A3 A4 A5 A6 A7 A8:Option Addr}{c0 c1 c2 c3 c4 c5 c6 c7 c8 l0 l1 l2 l3 l4 l5 l6 l7 l8:Nat}{cs6 cs7 cs9 cs10 cs11 cs12:Array Value}
theorem aNo (hcs6:Seg 3 cs6) (hcs7:Seg 3 cs7)
 (h:∃I0:Nat→World→List Value→Prop,(∃m0,∀k0,Up k k0→I0 m0 k0 [int .i64 0,tuple #[slice none 0 0,agg #[]],tuple #[slice none 0 0,agg #[]],tuple #[slice none 0 0,agg #[]]])∧
 ∀m0 k0 vs0,Up k k0→I0 m0 k0 vs0→∃n8,∃A9 l9 c9,∃cs10,Sy.RowC cs10∧∃A11 l11 c11,∃cs12,Sy.RowC cs12∧∃A13 l13 c13,∃cs14,Sy.RowC cs14∧some [int .i64 n8,tuple #[slice A9 l9 c9,agg cs10],tuple #[slice A11 l11 c11,agg cs12],tuple #[slice A13 l13 c13,agg cs14]]=some vs0∧
 Tt∧(Br (decide ((n8:Int)<(l1:Nat))) (Ad A1∧Ix n8 l1∧
 Ad A1∧Ix n8 l1∧
 ∃n15,Sy.ReadAt k0.cell? A1 (Int.toNat n8*10+0) 1 (int .i64 n15)∧
 Ad A0∧Ix n15 l0∧
 ∃A16 l16 c16,∃A17 l17 c17,∃cs18,Seg 3 cs18∧∃cs19,Seg 3 cs19∧Sy.ReadAt k0.cell? A0 (Int.toNat n15*8+0) 8 (agg ((slice A16 l16 c16) :: ((slice A17 l17 c17) :: (cs18.toList++(cs19.toList++([]))))).toArray)∧
 El k0 A3 n8 l3 3 fun cs20=>
 Ad A1∧Ix n8 l1∧
 Ad A1∧Ix n8 l1∧
 ∃cs21,Seg 3 cs21∧Sy.ReadAt k0.cell? A1 (Int.toNat n8*10+1) 3 (agg cs21)∧
 Cl k0 162 #[S3 A0 l0 c0 A1 l1 c1 A2 l2 c2,S3 A3 l3 c3 A4 l4 c4 A5 l5 c5,int .i64 n8,agg cs6,agg cs7] fun k2 r1=>Gt 3 r1 fun cs22=>
 Cl k2 161 #[agg cs22,agg cs21] fun k4 r3=>Gt 3 r3 fun cs23=>
 Cl k4 153 #[agg cs20,agg cs23] fun k6 r5=>Gt 3 r5 fun cs24=>
 (cs24.toList++([]):List Value).length=Int.toNat 1*3∧(0:Int)≤1∧Sy.sizeOk 56 (l9+Int.toNat 1)∧∀(A25:Option Addr) (l25 c25:Nat) (cs26:Array Value),l25=l9+Int.toNat 1→cs26=cs10++(cs24.toList++([]):List Value).toArray→l25≤c25→
 El k6 A4 n8 l4 3 fun cs27=>
 El k6 A3 n8 l3 3 fun cs28=>
 Cl k6 163 #[slice A16 l16 c16,agg cs28] fun k8 r7=>Gt 3 r7 fun cs29=>
 Cl k8 153 #[agg cs27,agg cs29] fun k10 r9=>Gt 3 r9 fun cs30=>
 (cs30.toList++([]):List Value).length=Int.toNat 1*3∧(0:Int)≤1∧Sy.sizeOk 56 (l11+Int.toNat 1)∧∀(A31:Option Addr) (l31 c31:Nat) (cs32:Array Value),l31=l11+Int.toNat 1→cs32=cs12++(cs30.toList++([]):List Value).toArray→l31≤c31→
 El k10 A5 n8 l5 3 fun cs33=>
 El k10 A3 n8 l3 3 fun cs34=>
 Cl k10 163 #[slice A17 l17 c17,agg cs34] fun k12 r11=>Gt 3 r11 fun cs35=>
 Cl k12 153 #[agg cs33,agg cs35] fun k14 r13=>Gt 3 r13 fun cs36=>
 (cs36.toList++([]):List Value).length=Int.toNat 1*3∧(0:Int)≤1∧Sy.sizeOk 56 (l13+Int.toNat 1)∧∀(A37:Option Addr) (l37 c37:Nat) (cs38:Array Value),l37=l13+Int.toNat 1→cs38=cs14++(cs36.toList++([]):List Value).toArray→l37≤c37→
 ∀k15,Up k14 k15→∃m,m<m0∧I0 m k15 [int .i64 (wrap .i64 (n8+1)),tuple #[slice A25 l25 c25,agg cs26],tuple #[slice A31 l31 c31,agg cs32],tuple #[slice A37 l37 c37,agg cs38]]) (Rt R k0 (tuple #[slice A9 l9 c9,agg cs10,slice A11 l11 c11,agg cs12,slice A13 l13 c13,agg cs14])))) :
  Sy.CallsR3 Tryz.prog 118 #[S3 A0 l0 c0 A1 l1 c1 A2 l2 c2,S3 A3 l3 c3 A4 l4 c4 A5 l5 c5,agg cs6,agg cs7] k 81 3 R:=
  Sy.execFnR3_use (cfg:={ opq:=[81],loops:=[(0,[.tmp 10 false [.int .i64],.rb 5 0 81 3,.rb 5 1 81 3,.rb 5 2 81 3])],gift:=some (81,3),gift3:=true }) (args:=[.agg (qV 0 3),.agg (qV 3 3),.agg [.seg 6 3],.agg [.seg 7 3]]) (vals:=[slice A0 l0 c0,slice A1 l1 c1,slice A2 l2 c2,slice A3 l3 c3,slice A4 l4 c4,slice A5 l5 c5,agg cs6,agg cs7]) (kinds:=[.slice,.slice,.slice,.slice,.slice,.slice,.seg 3,.seg 3]) ox ⟨qS,qS,qS,qS,qS,qS,⟨cs6,rfl,hcs6⟩,⟨cs7,rfl,hcs7⟩,trivial⟩ ox ox h
theorem aXg (hcs9:Seg 3 cs9) (hcs10:Seg 3 cs10) (hcs11:Seg 3 cs11) (hcs12:Seg 3 cs12)
 (h:∀k0,Up k k0→Sy.CallsR3 Tryz.prog 118 #[S3 A0 l0 c0 A1 l1 c1 A2 l2 c2,S3 A3 l3 c3 A4 l4 c4 A5 l5 c5,agg cs9,agg cs11] k0 81 3 fun k1 r0=>∃A13 l13 c13,∃cs14,∃A15 l15 c15,∃cs16,∃A17 l17 c17,∃cs18,r0=tuple #[slice A13 l13 c13,agg cs14,slice A15 l15 c15,agg cs16,slice A17 l17 c17,agg cs18]∧
 ∀k2,Up k1 k2→Sy.CallsR3 Tryz.prog 118 #[S3 A0 l0 c0 A1 l1 c1 A2 l2 c2,S3 A6 l6 c6 A7 l7 c7 A8 l8 c8,agg cs10,agg cs12] k2 81 3 fun k3 r2=>∃A19 l19 c19,∃cs20,∃A21 l21 c21,∃cs22,∃A23 l23 c23,∃cs24,r2=tuple #[slice A19 l19 c19,agg cs20,slice A21 l21 c21,agg cs22,slice A23 l23 c23,agg cs24]∧
 ∃I4:Nat→World→List Value→Prop,(∃m4,∀k4,Up k3 k4→I4 m4 k4 [int .i64 0,tuple #[slice A13 l13 c13,agg cs14],tuple #[slice A19 l19 c19,agg cs20]])∧
 ∀m4 k4 vs4,Up k3 k4→I4 m4 k4 vs4→∃n25,∃A26 l26 c26,∃cs27,Sy.RowC cs27∧∃A28 l28 c28,∃cs29,Sy.RowC cs29∧some [int .i64 n25,tuple #[slice A26 l26 c26,agg cs27],tuple #[slice A28 l28 c28,agg cs29]]=some vs4∧
 Tt∧(Br (decide ((n25:Int)<(l1:Nat))) ((decide ((0:Int)≤n25∧(n25:Int)<(l26:Nat)))=true∧
 (∃cs30,Seg 3 cs30∧Sy.ReadIn cs27 (Int.toNat n25*3+0) 3 (agg cs30)∧
 (decide ((0:Int)≤n25∧(n25:Int)<(l28:Nat)))=true∧
 (∃cs31,Seg 3 cs31∧Sy.ReadIn cs29 (Int.toNat n25*3+0) 3 (agg cs31)∧
 Cl k4 119 #[agg cs30,int .i64 40] fun k6 r5=>Gt 3 r5 fun cs32=>
 Cl k6 120 #[agg cs31,int .i64 40] fun k8 r7=>Gt 3 r7 fun cs33=>
 (decide ((0:Int)≤n25∧(n25:Int)<(l26:Nat)))=true∧
 (Ix n25 l26∧∀cs34:Array Value,cs34=Sy.over cs27 (Int.toNat n25*3+0) (cs32.toList++([]))→
 (decide ((0:Int)≤n25∧(n25:Int)<(l28:Nat)))=true∧
 (Ix n25 l28∧∀cs35:Array Value,cs35=Sy.over cs29 (Int.toNat n25*3+0) (cs33.toList++([]))→
 ∀k9,Up k8 k9→∃m,m<m4∧I4 m k9 [int .i64 (wrap .i64 (n25+1)),tuple #[slice A26 l26 c26,agg cs34],tuple #[slice A28 l28 c28,agg cs35]]))))) (∀k10,Up k4 k10→Sy.RowAt k10 A26 cs27→
 ∀k11,Up k10 k11→Sy.RowAt k11 A15 cs16→
 ∀k12,Up k11 k12→Sy.RowAt k12 A17 cs18→
 ∀k13,Up k12 k13→Sy.RowAt k13 A28 cs29→
 ∀k14,Up k13 k14→Sy.RowAt k14 A21 cs22→
 ∀k15,Up k14 k15→Sy.RowAt k15 A23 cs24→
 Rt R k15 (S6 A26 l26 c26 A15 l15 c15 A17 l17 c17 A28 l28 c28 A21 l21 c21 A23 l23 c23)))) :
  CallsG Tryz.prog 72 #[S3 A0 l0 c0 A1 l1 c1 A2 l2 c2,S6 A3 l3 c3 A4 l4 c4 A5 l5 c5 A6 l6 c6 A7 l7 c7 A8 l8 c8,Rg cs9 cs10 cs11 cs12] k R:=
  qX { opq:=[81],loops:=[(0,[.tmp 9 false [.int .i64],.rb 4 0 81 3,.rb 5 0 81 3])],adopt:=[118] } [.agg (qV 0 3),.agg (qV 3 6),.agg [.seg 9 3,.seg 10 3,.seg 11 3,.seg 12 3]] [slice A0 l0 c0,slice A1 l1 c1,slice A2 l2 c2,slice A3 l3 c3,slice A4 l4 c4,slice A5 l5 c5,slice A6 l6 c6,slice A7 l7 c7,slice A8 l8 c8,agg cs9,agg cs10,agg cs11,agg cs12] [.slice,.slice,.slice,.slice,.slice,.slice,.slice,.slice,.slice,.seg 3,.seg 3,.seg 3,.seg 3] ⟨qS,qS,qS,qS,qS,qS,qS,qS,qS,⟨cs9,rfl,hcs9⟩,⟨cs10,rfl,hcs10⟩,⟨cs11,rfl,hcs11⟩,⟨cs12,rfl,hcs12⟩,trivial⟩ h
end Go.Proofs.YtpeakfmjibfkpaaGreat

namespace Go.Proofs.YtpeakfmjibfkpaaGreat
open IntKind (wrap)
open Go.RowKit
open Value (agg slice int bool tuple)
open Sy (Up Sees CallsG Seg execFn_use)
set_option maxRecDepth 100000
variable {k:World}{R:World→Value→Prop}{A0 A1 A2 A3 A4 A5 A6 A7 A8:Option Addr}{c0 c1 c2 c3 c4 c5 c6 c7 c8 l0 l1 l2 l3 l4 l5 l6 l7 l8:Nat}{n2 n3 n4 n5 n6 n7 n8 n9 n10 n11 n12 n13 n14 n15:Int}{cs0 cs1:Array Value}
theorem aCz 
 (h:Cl k 10 #[S3 A0 l0 c0 A1 l1 c1 A2 l2 c2,int .i64 n15] fun k1 r0=>Gb r0 fun b16=>
 Br (!b16) (Rt R k1 (tuple #[Z3,Z6,agg #[bool false,slice none 0 0,slice none 0 0,bool false,slice none 0 0,slice none 0 0,bool false,slice none 0 0,slice none 0 0,bool false,slice none 0 0,slice none 0 0],bool false])) (Cl k1 14 #[S3 A0 l0 c0 A1 l1 c1 A2 l2 c2] fun k4 r3=>∃A17 l17 c17,∃A18 l18 c18,∃A19 l19 c19,∃A20 l20 c20,∃A21 l21 c21,∃A22 l22 c22,some (tuple #[S3 A17 l17 c17 A18 l18 c18 A19 l19 c19,S3 A20 l20 c20 A21 l21 c21 A22 l22 c22])=some r3∧
 Cl k4 25 #[agg #[int .i64 n7,int .i64 n8,int .i64 n9,int .i64 n10,int .i64 n11,int .i64 n12,int .i64 n13,int .i64 n14]] fun k6 r5=>∃cs23,Seg 3 cs23∧∃cs24,Seg 3 cs24∧∃cs25,Seg 3 cs25∧∃cs26,Seg 3 cs26∧∃cs27,Seg 3 cs27∧∃cs28,Seg 3 cs28∧∃cs29,Seg 3 cs29∧∃cs30,Seg 3 cs30∧some (tuple #[Rg cs23 cs24 cs25 cs26,Rg cs27 cs28 cs29 cs30])=some r5∧
 Cl k6 20 #[agg #[int .i64 n3,int .i64 n4]] fun k8 r7=>Gt 3 r7 fun cs31=>
 Cl k8 20 #[agg #[int .i64 n5,int .i64 n6]] fun k10 r9=>Gt 3 r9 fun cs32=>
 Cl k10 19 #[S3 A20 l20 c20 A21 l21 c21 A22 l22 c22,agg cs31,agg cs32] fun k12 r11=>∃A33 l33 c33,∃A34 l34 c34,∃A35 l35 c35,∃A36 l36 c36,∃A37 l37 c37,∃A38 l38 c38,∃n39,some (tuple #[S6 A33 l33 c33 A34 l34 c34 A35 l35 c35 A36 l36 c36 A37 l37 c37 A38 l38 c38,int .i64 n39])=some r11∧
 Br ((n39:Int) != 0) (Rt R k12 (tuple #[Z3,Z6,agg #[bool false,slice none 0 0,slice none 0 0,bool false,slice none 0 0,slice none 0 0,bool false,slice none 0 0,slice none 0 0,bool false,slice none 0 0,slice none 0 0],bool false])) (Cl k12 27 #[S3 A20 l20 c20 A21 l21 c21 A22 l22 c22,S6 A33 l33 c33 A34 l34 c34 A35 l35 c35 A36 l36 c36 A37 l37 c37 A38 l38 c38,Rg cs27 cs28 cs29 cs30] fun k15 r14=>∃A40 l40 c40,∃A41 l41 c41,∃A42 l42 c42,∃A43 l43 c43,∃A44 l44 c44,∃A45 l45 c45,∃n46,some (tuple #[S6 A40 l40 c40 A41 l41 c41 A42 l42 c42 A43 l43 c43 A44 l44 c44 A45 l45 c45,int .i64 n46])=some r14∧
 Cl k15 18 #[agg #[int .i64 n3,int .i64 n4]] fun k17 r16=>Gt 3 r16 fun cs47=>
 Cl k17 18 #[agg #[int .i64 n5,int .i64 n6]] fun k19 r18=>Gt 3 r18 fun cs48=>
 Cl k19 17 #[S3 A17 l17 c17 A18 l18 c18 A19 l19 c19,agg cs47,agg cs48] fun k21 r20=>∃A49 l49 c49,∃A50 l50 c50,∃A51 l51 c51,∃A52 l52 c52,∃A53 l53 c53,∃A54 l54 c54,∃n55,some (tuple #[S6 A49 l49 c49 A50 l50 c50 A51 l51 c51 A52 l52 c52 A53 l53 c53 A54 l54 c54,int .i64 n55])=some r20∧
 Rt R k21 (tuple #[S3 A17 l17 c17 A18 l18 c18 A19 l19 c19,S6 A49 l49 c49 A50 l50 c50 A51 l51 c51 A52 l52 c52 A53 l53 c53 A54 l54 c54,Rg cs23 cs24 cs25 cs26,bool ((n46:Int) == 0)])))) :
  CallsG Tryz.prog 39 #[S3 A0 l0 c0 A1 l1 c1 A2 l2 c2,agg #[int .i64 n3,int .i64 n4],agg #[int .i64 n5,int .i64 n6],agg #[int .i64 n7,int .i64 n8,int .i64 n9,int .i64 n10,int .i64 n11,int .i64 n12,int .i64 n13,int .i64 n14],int .i64 n15] k R:=
  qY { opq:=[75,81] } h
theorem aLr (hcs0:Seg 3 cs0) (hcs1:Seg 3 cs1)
 (h:Cl k 57 #[int .i64 (wrap .i64 n2),int .i64 255] fun k1 r0=>∃cs3,Seg 3 cs3∧∃n4,some (tuple #[agg cs3,int .i64 n4])=some r0∧
 Cl k1 89 #[agg cs1,agg cs0] fun k3 r2=>Gt 3 r2 fun cs5=>
 Cl k3 90 #[agg cs5,agg cs3] fun k5 r4=>Gt 3 r4 fun cs6=>
 Cl k5 88 #[agg cs0,agg cs6] fun k7 r6=>Gt 3 r6 fun cs7=>
 Rt R k7 (agg cs7)) :
  CallsG Tryz.prog 44 #[agg (cs0.toList++(cs1.toList++([]))).toArray,int .u8 n2] k R:=
  qX { opq:=[75] } [.agg [.seg 0 3,.seg 1 3],.one (.var 2)] [agg cs0,agg cs1,int .u8 n2] [.seg 3,.seg 3,.int .u8] ⟨⟨cs0,rfl,hcs0⟩,⟨cs1,rfl,hcs1⟩,⟨_,rfl⟩,trivial⟩ h
theorem aRg 
 (h:Cl k 42 #[S3 A0 l0 c0 A1 l1 c1 A2 l2 c2,S3 A3 l3 c3 A4 l4 c4 A5 l5 c5] fun k1 r0=>Gb r0 fun b9=>
 Br b9 (Cl k1 42 #[S3 A0 l0 c0 A1 l1 c1 A2 l2 c2,S3 A6 l6 c6 A7 l7 c7 A8 l8 c8] fun k3 r2=>Gb r2 fun b10=>
 Rt R k3 (bool b10)) (Rt R k1 (bool false))) :
  CallsG Tryz.prog 43 #[S3 A0 l0 c0 A1 l1 c1 A2 l2 c2,S6 A3 l3 c3 A4 l4 c4 A5 l5 c5 A6 l6 c6 A7 l7 c7 A8 l8 c8] k R:=
  qY { opq:=[75] } h
theorem aQw 
 (h:Tt∧(∃I0:Nat→World→List Value→Prop,(∃m0,∀k0,Up k k0→I0 m0 k0 [int .i64 0])∧
 ∀m0 k0 vs0,Up k k0→I0 m0 k0 vs0→∃n6,some [int .i64 n6]=some vs0∧
 Br (decide ((n6:Int)<(l1:Nat))) (Ad A1∧Ix n6 l1∧
 ∃n7,∃cs8,Seg 3 cs8∧∃cs9,Seg 3 cs9∧∃cs10,Seg 3 cs10∧Sy.ReadAt k0.cell? A1 (Int.toNat n6*10+0) 10 (agg ((int .i64 n7) :: (cs8.toList++(cs9.toList++(cs10.toList++([]))))).toArray)∧
 El k0 A4 n6 l4 3 fun cs11=>
 Ad A0∧Ix n7 l0∧
 Ad A0∧Ix n7 l0∧
 ∃cs12,Seg 3 cs12∧Sy.ReadAt k0.cell? A0 (Int.toNat n7*8+2) 3 (agg cs12)∧
 Cl k0 50 #[agg cs11,agg cs12] fun k2 r1=>Gi r1 fun n13=>
 Br (decide ((n13:Int)<0)) (Rt R k2 (bool false)) (∀k4,Up k2 k4→∃m,m<m0∧I0 m k4 [int .i64 (wrap .i64 (n6+1))])) (Rt R k0 (bool true)))) :
  CallsG Tryz.prog 48 #[S3 A0 l0 c0 A1 l1 c1 A2 l2 c2,S3 A3 l3 c3 A4 l4 c4 A5 l5 c5] k R:=
  qY { opq:=[75],loops:=[(0,[.tmp 10 false [.int .i64]])] } h
theorem aGd 
 (h:Tt∧(∃I0:Nat→World→List Value→Prop,(∃m0,∀k0,Up k k0→I0 m0 k0 [int .i64 0])∧
 ∀m0 k0 vs0,Up k k0→I0 m0 k0 vs0→∃n6,some [int .i64 n6]=some vs0∧
 Br (decide ((n6:Int)<(l1:Nat))) (Ad A1∧Ix n6 l1∧
 ∃n7,∃cs8,Seg 3 cs8∧∃cs9,Seg 3 cs9∧∃cs10,Seg 3 cs10∧Sy.ReadAt k0.cell? A1 (Int.toNat n6*10+0) 10 (agg ((int .i64 n7) :: (cs8.toList++(cs9.toList++(cs10.toList++([]))))).toArray)∧
 El k0 A5 n6 l5 3 fun cs11=>
 Ad A0∧Ix n7 l0∧
 Ad A0∧Ix n7 l0∧
 ∃cs12,Seg 3 cs12∧Sy.ReadAt k0.cell? A0 (Int.toNat n7*8+5) 3 (agg cs12)∧
 Cl k0 50 #[agg cs11,agg cs12] fun k2 r1=>Gi r1 fun n13=>
 Br (decide ((n13:Int) > 0)) (Rt R k2 (bool true)) (∀k4,Up k2 k4→∃m,m<m0∧I0 m k4 [int .i64 (wrap .i64 (n6+1))])) (Rt R k0 (bool false)))) :
  CallsG Tryz.prog 49 #[S3 A0 l0 c0 A1 l1 c1 A2 l2 c2,S3 A3 l3 c3 A4 l4 c4 A5 l5 c5] k R:=
  qY { opq:=[75],loops:=[(0,[.tmp 10 false [.int .i64]])] } h
end Go.Proofs.YtpeakfmjibfkpaaGreat

namespace Go.Proofs.YtpeakfmjibfkpaaGreat
open IntKind (wrap)
open Go.RowKit
open Value (agg slice int bool tuple)
open Sy (Up Sees CallsG Seg execFn_use)
set_option maxRecDepth 100000
variable {k:World}{R:World→Value→Prop}{A0 A1 A2 A3 A4 A5 A6 A7 A8 A9:Option Addr}{c0 c1 c2 c3 c4 c5 c6 c7 c8 c9 l0 l1 l2 l3 l4 l5 l6 l7 l8 l9:Nat}
theorem aVa 
 (h:Tt∧(Br (decide (((l0:Nat):Int) > 16)) (Rt R k (int .i64 4)) (Tt∧(∃I1:Nat→World→List Value→Prop,(∃m1,∀k1,Up k k1→I1 m1 k1 [int .i64 0])∧
 ∀m1 k1 vs1,Up k k1→I1 m1 k1 vs1→∃n1,some [int .i64 n1]=some vs1∧
 Br (decide ((n1:Int)<(l0:Nat))) (Ad A0∧Ix n1 l0∧
 ∃n2,∃cs3,Seg 3 cs3∧∃cs4,Seg 3 cs4∧∃cs5,Seg 3 cs5∧∃cs6,Seg 3 cs6∧Sy.ReadAt k1.cell? A0 (Int.toNat n1*13+0) 13 (agg ((int .i64 n2) :: (cs3.toList++(cs4.toList++(cs5.toList++(cs6.toList++([])))))).toArray)∧
 Br (decide ((n2:Int)<0)) (Rt R k1 (int .i64 1)) (Cl k1 67 #[Rg cs3 cs4 cs5 cs6] fun k4 r3=>Gi r3 fun n7=>
 Br ((n7:Int) != 0) (Rt R k4 (int .i64 n7)) (∀k6,Up k4 k6→∃m,m<m1∧I1 m k6 [int .i64 (wrap .i64 (n1+1))]))) (Tt∧(∃I7:Nat→World→List Value→Prop,(∃m7,∀k7,Up k1 k7→I7 m7 k7 [int .i64 2000,int .i64 0])∧
 ∀m7 k7 vs7,Up k1 k7→I7 m7 k7 vs7→∃n2,∃n3,some [int .i64 n2,int .i64 n3]=some vs7∧
 Br (decide ((n3:Int)<(l0:Nat))) (Ad A0∧Ix n3 l0∧
 ∃n4,∃cs5,Seg 3 cs5∧∃cs6,Seg 3 cs6∧∃cs7,Seg 3 cs7∧∃cs8,Seg 3 cs8∧Sy.ReadAt k7.cell? A0 (Int.toNat n3*13+0) 13 (agg ((int .i64 n4) :: (cs5.toList++(cs6.toList++(cs7.toList++(cs8.toList++([])))))).toArray)∧
 Br (decide ((n4:Int) > n2)) (Rt R k7 (int .i64 4)) (∀k9,Up k7 k9→∃m,m<m7∧I7 m k9 [int .i64 (wrap .i64 (n2-n4)),int .i64 (wrap .i64 (n3+1))])) (Rt R k7 (int .i64 0)))))))) :
  CallsG Tryz.prog 126 #[slice A0 l0 c0] k R:=
  qY { opq:=[75],loops:=[(0,[.tmp 14 false [.int .i64]]),(2,[.tmp 6 false [.int .i64],.tmp 30 false [.int .i64]])] } h
theorem aPf 
 (h:Cl k 66 #[S3 A0 l0 c0 A1 l1 c1 A2 l2 c2,S6 A3 l3 c3 A4 l4 c4 A5 l5 c5 A6 l6 c6 A7 l7 c7 A8 l8 c8] fun k1 r0=>Gi r0 fun n10=>
 Br ((n10:Int) != 0) (Rt R k1 (int .i64 n10)) (Cl k1 126 #[slice A9 l9 c9] fun k4 r3=>Gi r3 fun n11=>
 Rt R k4 (int .i64 n11))) :
  CallsG Tryz.prog 84 #[S3 A0 l0 c0 A1 l1 c1 A2 l2 c2,S6 A3 l3 c3 A4 l4 c4 A5 l5 c5 A6 l6 c6 A7 l7 c7 A8 l8 c8,slice A9 l9 c9] k R:=
  qY { opq:=[75] } h
end Go.Proofs.YtpeakfmjibfkpaaGreat

namespace Go.Proofs.YtpeakfmjibfkpaaGreat
open IntKind (wrap)
open Go.RowKit
open Value (agg slice int bool tuple)
open Sy (Up Sees CallsG Seg execFn_use)
set_option maxRecDepth 100000
variable {k:World}{R:World→Value→Prop}{A0 A1 A2 A3 A4 A5 A6 A7 A8:Option Addr}{c0 c1 c2 c3 c4 c5 c6 c7 c8 l0 l1 l2 l3 l4 l5 l6 l7 l8:Nat}{cs9 cs10 cs11 cs12:Array Value}{n13:Int}
theorem aJx (hcs9:Seg 3 cs9) (hcs10:Seg 3 cs10) (hcs11:Seg 3 cs11) (hcs12:Seg 3 cs12)
 (h:Cl k 66 #[S3 A0 l0 c0 A1 l1 c1 A2 l2 c2,S6 A3 l3 c3 A4 l4 c4 A5 l5 c5 A6 l6 c6 A7 l7 c7 A8 l8 c8] fun k1 r0=>Gi r0 fun n14=>
 Br ((n14:Int) != 0) (Rt R k1 (int .i64 n14)) (Cl k1 67 #[Rg cs9 cs10 cs11 cs12] fun k4 r3=>Gi r3 fun n15=>
 Br ((n15:Int) != 0) (Rt R k4 (int .i64 n15)) (Br (decide ((n13:Int)<0)) (Rt R k4 (int .i64 1)) (Br (decide ((n13:Int) > 2000)) (Rt R k4 (int .i64 1)) (Rt R k4 (int .i64 0)))))) :
  CallsG Tryz.prog 81 #[S3 A0 l0 c0 A1 l1 c1 A2 l2 c2,S6 A3 l3 c3 A4 l4 c4 A5 l5 c5 A6 l6 c6 A7 l7 c7 A8 l8 c8,Rg cs9 cs10 cs11 cs12,int .i64 n13] k R:=
  qX { opq:=[75] } [.agg (qV 0 3),.agg (qV 3 6),.agg [.seg 9 3,.seg 10 3,.seg 11 3,.seg 12 3],.one (.var 13)] [slice A0 l0 c0,slice A1 l1 c1,slice A2 l2 c2,slice A3 l3 c3,slice A4 l4 c4,slice A5 l5 c5,slice A6 l6 c6,slice A7 l7 c7,slice A8 l8 c8,agg cs9,agg cs10,agg cs11,agg cs12,int .i64 n13] [.slice,.slice,.slice,.slice,.slice,.slice,.slice,.slice,.slice,.seg 3,.seg 3,.seg 3,.seg 3,.int .i64] ⟨qS,qS,qS,qS,qS,qS,qS,qS,qS,⟨cs9,rfl,hcs9⟩,⟨cs10,rfl,hcs10⟩,⟨cs11,rfl,hcs11⟩,⟨cs12,rfl,hcs12⟩,⟨_,rfl⟩,trivial⟩ h
theorem aJv 
 (h:Cl k 94 #[S3 A0 l0 c0 A1 l1 c1 A2 l2 c2] fun k1 r0=>∃A6 l6 c6,∃A7 l7 c7,∃A8 l8 c8,some (S3 A6 l6 c6 A7 l7 c7 A8 l8 c8)=some r0∧
 Cl k1 94 #[S3 A3 l3 c3 A4 l4 c4 A5 l5 c5] fun k3 r2=>∃A9 l9 c9,∃A10 l10 c10,∃A11 l11 c11,some (S3 A9 l9 c9 A10 l10 c10 A11 l11 c11)=some r2∧
 Rt R k3 (S6 A6 l6 c6 A7 l7 c7 A8 l8 c8 A9 l9 c9 A10 l10 c10 A11 l11 c11)) :
  CallsG Tryz.prog 82 #[S6 A0 l0 c0 A1 l1 c1 A2 l2 c2 A3 l3 c3 A4 l4 c4 A5 l5 c5] k R:=
  qY { opq:=[75] } h
theorem aKl (hcs9:Seg 3 cs9) (hcs10:Seg 3 cs10) (hcs11:Seg 3 cs11) (hcs12:Seg 3 cs12)
 (h:Cl k 81 #[S3 A0 l0 c0 A1 l1 c1 A2 l2 c2,S6 A3 l3 c3 A4 l4 c4 A5 l5 c5 A6 l6 c6 A7 l7 c7 A8 l8 c8,Rg cs9 cs10 cs11 cs12,int .i64 n13] fun k1 r0=>Gi r0 fun n14=>
 Br ((n14:Int) != 0) (Rt R k1 (tuple #[agg #[int .i64 0,int .i64 0,int .i64 0,slice none 0 0,slice none 0 0,slice none 0 0,slice none 0 0,slice none 0 0,slice none 0 0],int .i64 n14])) (Cl k1 68 #[S3 A0 l0 c0 A1 l1 c1 A2 l2 c2] fun k4 r3=>∃A15 l15 c15,∃A16 l16 c16,∃A17 l17 c17,∃M18:Nat,some (agg #[slice A15 l15 c15,slice A16 l16 c16,slice A17 l17 c17,Value.map (some M18)])=some r3∧
 Cl k4 82 #[S6 A3 l3 c3 A4 l4 c4 A5 l5 c5 A6 l6 c6 A7 l7 c7 A8 l8 c8] fun k6 r5=>∃A19 l19 c19,∃A20 l20 c20,∃A21 l21 c21,∃A22 l22 c22,∃A23 l23 c23,∃A24 l24 c24,some (S6 A19 l19 c19 A20 l20 c20 A21 l21 c21 A22 l22 c22 A23 l23 c23 A24 l24 c24)=some r5∧
 ∃I7:Nat→World→List Value→Prop,(∃m7,∀k7,Up k6 k7→I7 m7 k7 [int .i64 (-1),int .i64 0,S6 A19 l19 c19 A20 l20 c20 A21 l21 c21 A22 l22 c22 A23 l23 c23 A24 l24 c24])∧
 ∀m7 k7 vs7,Up k6 k7→I7 m7 k7 vs7→∃n25,∃n26,∃A27 l27 c27,∃A28 l28 c28,∃A29 l29 c29,∃A30 l30 c30,∃A31 l31 c31,∃A32 l32 c32,some [int .i64 n25,int .i64 n26,S6 A27 l27 c27 A28 l28 c28 A29 l29 c29 A30 l30 c30 A31 l31 c31 A32 l32 c32]=some vs7∧
 Cl k7 76 #[S3 A0 l0 c0 A1 l1 c1 A2 l2 c2,S3 A27 l27 c27 A28 l28 c28 A29 l29 c29] fun k9 r8=>Gb r8 fun b33=>
 Br b33 (Cl k9 74 #[S3 A0 l0 c0 A1 l1 c1 A2 l2 c2,S6 A27 l27 c27 A28 l28 c28 A29 l29 c29 A30 l30 c30 A31 l31 c31 A32 l32 c32] fun k11 r10=>Gi r10 fun n34=>
 Cl k11 75 #[S3 A0 l0 c0 A1 l1 c1 A2 l2 c2,S3 A30 l30 c30 A31 l31 c31 A32 l32 c32] fun k13 r12=>Gb r12 fun b35=>
 Br b35 (Rt R k13 (tuple #[agg #[int .i64 n26,int .i64 n25,int .i64 n34,slice A27 l27 c27,slice A28 l28 c28,slice A29 l29 c29,slice A30 l30 c30,slice A31 l31 c31,slice A32 l32 c32],int .i64 61])) (Rt R k13 (tuple #[agg #[int .i64 n26,int .i64 n25,int .i64 n34,slice A27 l27 c27,slice A28 l28 c28,slice A29 l29 c29,slice A30 l30 c30,slice A31 l31 c31,slice A32 l32 c32],int .i64 0]))) (Br ((n26:Int) == n13) (Rt R k9 (tuple #[agg #[int .i64 0,int .i64 0,int .i64 0,slice none 0 0,slice none 0 0,slice none 0 0,slice none 0 0,slice none 0 0,slice none 0 0],int .i64 5])) (Cl k9 73 #[S3 A0 l0 c0 A1 l1 c1 A2 l2 c2,S6 A27 l27 c27 A28 l28 c28 A29 l29 c29 A30 l30 c30 A31 l31 c31 A32 l32 c32] fun k18 r17=>Gi r17 fun n34=>
 Cl k18 69 #[agg #[slice A15 l15 c15,slice A16 l16 c16,slice A17 l17 c17,Value.map (some M18)],S6 A27 l27 c27 A28 l28 c28 A29 l29 c29 A30 l30 c30 A31 l31 c31 A32 l32 c32,Rg cs9 cs10 cs11 cs12] fun k20 r19=>∃A35 l35 c35,∃A36 l36 c36,∃A37 l37 c37,∃A38 l38 c38,∃A39 l39 c39,∃A40 l40 c40,some (S6 A35 l35 c35 A36 l36 c36 A37 l37 c37 A38 l38 c38 A39 l39 c39 A40 l40 c40)=some r19∧
 ∀k21,Up k20 k21→∃m,m<m7∧I7 m k21 [int .i64 n34,int .i64 (wrap .i64 (n26+1)),S6 A35 l35 c35 A36 l36 c36 A37 l37 c37 A38 l38 c38 A39 l39 c39 A40 l40 c40])))) :
  CallsG Tryz.prog 30 #[S3 A0 l0 c0 A1 l1 c1 A2 l2 c2,S6 A3 l3 c3 A4 l4 c4 A5 l5 c5 A6 l6 c6 A7 l7 c7 A8 l8 c8,Rg cs9 cs10 cs11 cs12,int .i64 n13] k R:=
  qX { opq:=[75],loops:=[(0,[.tmp 13 false [.int .i64],.tmp 14 false [.int .i64],.blk 5 [.slice,.slice,.slice,.slice,.slice,.slice]])] } [.agg (qV 0 3),.agg (qV 3 6),.agg [.seg 9 3,.seg 10 3,.seg 11 3,.seg 12 3],.one (.var 13)] [slice A0 l0 c0,slice A1 l1 c1,slice A2 l2 c2,slice A3 l3 c3,slice A4 l4 c4,slice A5 l5 c5,slice A6 l6 c6,slice A7 l7 c7,slice A8 l8 c8,agg cs9,agg cs10,agg cs11,agg cs12,int .i64 n13] [.slice,.slice,.slice,.slice,.slice,.slice,.slice,.slice,.slice,.seg 3,.seg 3,.seg 3,.seg 3,.int .i64] ⟨qS,qS,qS,qS,qS,qS,qS,qS,qS,⟨cs9,rfl,hcs9⟩,⟨cs10,rfl,hcs10⟩,⟨cs11,rfl,hcs11⟩,⟨cs12,rfl,hcs12⟩,⟨_,rfl⟩,trivial⟩ h
theorem aPm (hcs9:Seg 3 cs9) (hcs10:Seg 3 cs10) (hcs11:Seg 3 cs11) (hcs12:Seg 3 cs12)
 (h:Cl k 81 #[S3 A0 l0 c0 A1 l1 c1 A2 l2 c2,S6 A3 l3 c3 A4 l4 c4 A5 l5 c5 A6 l6 c6 A7 l7 c7 A8 l8 c8,Rg cs9 cs10 cs11 cs12,int .i64 n13] fun k1 r0=>Gi r0 fun n14=>
 Br ((n14:Int) != 0) (Rt R k1 (tuple #[int .i64 0,int .i64 n14])) (Cl k1 75 #[S3 A0 l0 c0 A1 l1 c1 A2 l2 c2,S3 A6 l6 c6 A7 l7 c7 A8 l8 c8] fun k4 r3=>Gb r3 fun b15=>
 Br b15 (Rt R k4 (tuple #[int .i64 0,int .i64 61])) (Cl k4 68 #[S3 A0 l0 c0 A1 l1 c1 A2 l2 c2] fun k7 r6=>∃A16 l16 c16,∃A17 l17 c17,∃A18 l18 c18,∃M19:Nat,some (agg #[slice A16 l16 c16,slice A17 l17 c17,slice A18 l18 c18,Value.map (some M19)])=some r6∧
 ∃I8:Nat→World→List Value→Prop,(∃m8,∀k8,Up k7 k8→I8 m8 k8 [int .i64 0,S6 A3 l3 c3 A4 l4 c4 A5 l5 c5 A6 l6 c6 A7 l7 c7 A8 l8 c8])∧
 ∀m8 k8 vs8,Up k7 k8→I8 m8 k8 vs8→∃n20,∃A21 l21 c21,∃A22 l22 c22,∃A23 l23 c23,∃A24 l24 c24,∃A25 l25 c25,∃A26 l26 c26,some [int .i64 n20,S6 A21 l21 c21 A22 l22 c22 A23 l23 c23 A24 l24 c24 A25 l25 c25 A26 l26 c26]=some vs8∧
 Br (decide ((n20:Int)<n13)) (Cl k8 69 #[agg #[slice A16 l16 c16,slice A17 l17 c17,slice A18 l18 c18,Value.map (some M19)],S6 A21 l21 c21 A22 l22 c22 A23 l23 c23 A24 l24 c24 A25 l25 c25 A26 l26 c26,Rg cs9 cs10 cs11 cs12] fun k10 r9=>∃A27 l27 c27,∃A28 l28 c28,∃A29 l29 c29,∃A30 l30 c30,∃A31 l31 c31,∃A32 l32 c32,some (S6 A27 l27 c27 A28 l28 c28 A29 l29 c29 A30 l30 c30 A31 l31 c31 A32 l32 c32)=some r9∧
 Cl k10 75 #[S3 A0 l0 c0 A1 l1 c1 A2 l2 c2,S3 A30 l30 c30 A31 l31 c31 A32 l32 c32] fun k12 r11=>Gb r11 fun b33=>
 Br b33 (Rt R k12 (tuple #[int .i64 n20,int .i64 0])) (∀k14,Up k12 k14→∃m,m<m8∧I8 m k14 [int .i64 (wrap .i64 (n20+1)),S6 A27 l27 c27 A28 l28 c28 A29 l29 c29 A30 l30 c30 A31 l31 c31 A32 l32 c32])) (Rt R k8 (tuple #[int .i64 n13,int .i64 0]))))) :
  CallsG Tryz.prog 32 #[S3 A0 l0 c0 A1 l1 c1 A2 l2 c2,S6 A3 l3 c3 A4 l4 c4 A5 l5 c5 A6 l6 c6 A7 l7 c7 A8 l8 c8,Rg cs9 cs10 cs11 cs12,int .i64 n13] k R:=
  qX { opq:=[75],loops:=[(0,[.tmp 30 false [.int .i64],.blk 4 [.slice,.slice,.slice,.slice,.slice,.slice]])] } [.agg (qV 0 3),.agg (qV 3 6),.agg [.seg 9 3,.seg 10 3,.seg 11 3,.seg 12 3],.one (.var 13)] [slice A0 l0 c0,slice A1 l1 c1,slice A2 l2 c2,slice A3 l3 c3,slice A4 l4 c4,slice A5 l5 c5,slice A6 l6 c6,slice A7 l7 c7,slice A8 l8 c8,agg cs9,agg cs10,agg cs11,agg cs12,int .i64 n13] [.slice,.slice,.slice,.slice,.slice,.slice,.slice,.slice,.slice,.seg 3,.seg 3,.seg 3,.seg 3,.int .i64] ⟨qS,qS,qS,qS,qS,qS,qS,qS,qS,⟨cs9,rfl,hcs9⟩,⟨cs10,rfl,hcs10⟩,⟨cs11,rfl,hcs11⟩,⟨cs12,rfl,hcs12⟩,⟨_,rfl⟩,trivial⟩ h
end Go.Proofs.YtpeakfmjibfkpaaGreat

namespace Go.Proofs.YtpeakfmjibfkpaaGreat
open Go.RowKit
open Value (agg slice int bool tuple)
open Sy (Up Sees CallsG Seg execFn_use)
set_option maxRecDepth 100000
variable {k:World}{R:World→Value→Prop}
