/- Several texts in one. (Printed by prep.py.) -/
import Derived.Test.YtebaclefnpipfaaGreatTeVS
namespace Go.Proofs.YtebaclefnpipfaaGreat
open IntKind (wrap)
open Go.RowKit
open Value (agg slice int bool tuple)
open Sy (Up Sees CallsG Seg execFn_use)
set_option maxRecDepth 100000
variable {k:World}{R:World→Value→Prop}{A0 A1 A2 A3 A4 A5 A6 A7 A8 A9:Option Addr}{M3 c0 c1 c2 c3 c4 c5 c6 c7 c8 c9 l0 l1 l2 l3 l4 l5 l6 l7 l8 l9:Nat}{cs0 cs1 cs2 cs3 cs4 cs10 cs11 cs12 cs13:Array Value}
theorem aGt (hcs3:Seg 3 cs3) (hcs4:Seg 3 cs4)
 (h:Cl k 26 #[S3 A0 l0 c0 A1 l1 c1 A2 l2 c2] fun k1 r0=>Gi r0 fun n5=>
 Br ((n5:Int) != 0) (Rt R k1 (tuple #[Z6,int .i64 n5])) (Cl k1 27 #[agg cs4,agg cs3] fun k4 r3=>Gb r3 fun b6=>
 Br b6 (Rt R k4 (tuple #[Z6,int .i64 7])) (Cl k4 28 #[S3 A0 l0 c0 A1 l1 c1 A2 l2 c2,agg cs3] fun k7 r6=>∃A7 l7 c7,∃A8 l8 c8,∃A9 l9 c9,some (S3 A7 l7 c7 A8 l8 c8 A9 l9 c9)=some r6∧
 Cl k7 28 #[S3 A0 l0 c0 A1 l1 c1 A2 l2 c2,agg cs4] fun k9 r8=>∃A10 l10 c10,∃A11 l11 c11,∃A12 l12 c12,some (S3 A10 l10 c10 A11 l11 c11 A12 l12 c12)=some r8∧
 Rt R k9 (tuple #[S6 A7 l7 c7 A8 l8 c8 A9 l9 c9 A10 l10 c10 A11 l11 c11 A12 l12 c12,int .i64 0])))) :
  CallsG Tryz.prog 9 #[S3 A0 l0 c0 A1 l1 c1 A2 l2 c2,agg cs3,agg cs4] k R:=
  qX { opq:=[40] } [.agg (qV 0 3),.agg [.seg 3 3],.agg [.seg 4 3]] [slice A0 l0 c0,slice A1 l1 c1,slice A2 l2 c2,agg cs3,agg cs4] [.slice,.slice,.slice,.seg 3,.seg 3] ⟨qS,qS,qS,⟨cs3,rfl,hcs3⟩,⟨cs4,rfl,hcs4⟩,trivial⟩ h
theorem aQh 
 (h:Tt∧(Tt∧(Br (((l0:Nat):Int) != (l1:Nat)) (Rt R k (bool false)) (Tt∧(Tt∧(Br (((l2:Nat):Int) != (l1:Nat)) (Rt R k (bool false)) (Tt∧(∃I2:Nat→World→List Value→Prop,(∃m2,∀k2,Up k k2→I2 m2 k2 [int .i64 0])∧
 ∀m2 k2 vs2,Up k k2→I2 m2 k2 vs2→∃n3,some [int .i64 n3]=some vs2∧
 Br (decide ((n3:Int)<(l1:Nat))) (El k2 A1 n3 l1 3 fun cs4=>
 El k2 A0 n3 l0 3 fun cs5=>
 Cl k2 27 #[agg cs4,agg cs5] fun k4 r3=>Gb r3 fun b6=>
 Br b6 (Rt R k4 (bool false)) (El k4 A2 n3 l2 3 fun cs7=>
 El k4 A1 n3 l1 3 fun cs8=>
 Cl k4 27 #[agg cs7,agg cs8] fun k7 r6=>Gb r6 fun b9=>
 Br b9 (Rt R k7 (bool false)) (∀k9,Up k7 k9→∃m,m<m2∧I2 m k9 [int .i64 (wrap .i64 (n3+1))]))) (Rt R k2 (bool true)))))))))) :
  CallsG Tryz.prog 41 #[slice A0 l0 c0,slice A1 l1 c1,slice A2 l2 c2] k R:=
  qY { opq:=[40],loops:=[(0,[.tmp 22 false [.int .i64]])] } h
theorem aCt 
 (h:Cl k 41 #[slice A0 l0 c0,slice A6 l6 c6,slice A3 l3 c3] fun k1 r0=>Gb r0 fun b9=>
 Br b9 (Cl k1 41 #[slice A1 l1 c1,slice A7 l7 c7,slice A4 l4 c4] fun k3 r2=>Gb r2 fun b10=>
 Br b10 (Cl k3 41 #[slice A2 l2 c2,slice A8 l8 c8,slice A5 l5 c5] fun k5 r4=>Gb r4 fun b11=>
 Rt R k5 (bool b11)) (Rt R k3 (bool false))) (Rt R k1 (bool false))) :
  CallsG Tryz.prog 14 #[S6 A0 l0 c0 A1 l1 c1 A2 l2 c2 A3 l3 c3 A4 l4 c4 A5 l5 c5,S3 A6 l6 c6 A7 l7 c7 A8 l8 c8] k R:=
  qY { opq:=[40] } h
theorem aLj 
 (h:Cl k 32 #[S3 A0 l0 c0 A1 l1 c1 A2 l2 c2,S3 A3 l3 c3 A4 l4 c4 A5 l5 c5] fun k1 r0=>Gi r0 fun n9=>
 Br ((n9:Int) != 0) (Rt R k1 (int .i64 n9)) (Cl k1 67 #[S3 A0 l0 c0 A1 l1 c1 A2 l2 c2,S3 A6 l6 c6 A7 l7 c7 A8 l8 c8] fun k4 r3=>Gi r3 fun n10=>
 Br ((n10:Int) != 0) (Rt R k4 (int .i64 n10)) (Cl k4 14 #[S6 A3 l3 c3 A4 l4 c4 A5 l5 c5 A6 l6 c6 A7 l7 c7 A8 l8 c8,S3 A3 l3 c3 A4 l4 c4 A5 l5 c5] fun k7 r6=>Gb r6 fun b11=>
 Br (!b11) (Rt R k7 (int .i64 7)) (Rt R k7 (int .i64 0))))) :
  CallsG Tryz.prog 42 #[S3 A0 l0 c0 A1 l1 c1 A2 l2 c2,S6 A3 l3 c3 A4 l4 c4 A5 l5 c5 A6 l6 c6 A7 l7 c7 A8 l8 c8] k R:=
  qY { opq:=[40] } h
theorem aHj (hcs0:Seg 3 cs0) (hcs1:Seg 3 cs1) (hcs2:Seg 3 cs2) (hcs3:Seg 3 cs3)
 (h:Cl k 27 #[agg cs1,agg cs0] fun k1 r0=>Gb r0 fun b4=>
 Br b4 (Rt R k1 (int .i64 7)) (Cl k1 27 #[agg cs3,agg cs2] fun k4 r3=>Gb r3 fun b5=>
 Br b5 (Rt R k4 (int .i64 7)) (Rt R k4 (int .i64 0)))) :
  CallsG Tryz.prog 79 #[Rg cs0 cs1 cs2 cs3] k R:=
  qX { opq:=[40] } [.agg [.seg 0 3,.seg 1 3,.seg 2 3,.seg 3 3]] [agg cs0,agg cs1,agg cs2,agg cs3] [.seg 3,.seg 3,.seg 3,.seg 3] ⟨⟨cs0,rfl,hcs0⟩,⟨cs1,rfl,hcs1⟩,⟨cs2,rfl,hcs2⟩,⟨cs3,rfl,hcs3⟩,trivial⟩ h
theorem aQg (hcs10:Seg 3 cs10) (hcs11:Seg 3 cs11) (hcs12:Seg 3 cs12) (hcs13:Seg 3 cs13)
 (h:Cl k 35 #[agg #[slice A0 l0 c0,slice A1 l1 c1,slice A2 l2 c2,Value.map (some M3)],S3 A4 l4 c4 A5 l5 c5 A6 l6 c6,agg cs10,agg cs12,Value.func (.func 73) #[] #[]] fun k1 r0=>∃A14 l14 c14,∃A15 l15 c15,∃A16 l16 c16,some (S3 A14 l14 c14 A15 l15 c15 A16 l16 c16)=some r0∧
 Cl k1 35 #[agg #[slice A0 l0 c0,slice A1 l1 c1,slice A2 l2 c2,Value.map (some M3)],S3 A7 l7 c7 A8 l8 c8 A9 l9 c9,agg cs11,agg cs13,Value.func (.func 74) #[] #[]] fun k3 r2=>∃A17 l17 c17,∃A18 l18 c18,∃A19 l19 c19,some (S3 A17 l17 c17 A18 l18 c18 A19 l19 c19)=some r2∧
 Rt R k3 (S6 A14 l14 c14 A15 l15 c15 A16 l16 c16 A17 l17 c17 A18 l18 c18 A19 l19 c19)) :
  CallsG Tryz.prog 40 #[agg #[slice A0 l0 c0,slice A1 l1 c1,slice A2 l2 c2,Value.map (some M3)],S6 A4 l4 c4 A5 l5 c5 A6 l6 c6 A7 l7 c7 A8 l8 c8 A9 l9 c9,Rg cs10 cs11 cs12 cs13] k R:=
  qX { opq:=[40] } [.agg (qV 0 4),.agg (qV 4 6),.agg [.seg 10 3,.seg 11 3,.seg 12 3,.seg 13 3]] [slice A0 l0 c0,slice A1 l1 c1,slice A2 l2 c2,Value.map (some M3),slice A4 l4 c4,slice A5 l5 c5,slice A6 l6 c6,slice A7 l7 c7,slice A8 l8 c8,slice A9 l9 c9,agg cs10,agg cs11,agg cs12,agg cs13] [.slice,.slice,.slice,.map,.slice,.slice,.slice,.slice,.slice,.slice,.seg 3,.seg 3,.seg 3,.seg 3] ⟨qS,qS,qS,⟨_,rfl⟩,qS,qS,qS,qS,qS,qS,⟨cs10,rfl,hcs10⟩,⟨cs11,rfl,hcs11⟩,⟨cs12,rfl,hcs12⟩,⟨cs13,rfl,hcs13⟩,trivial⟩ h
theorem aHd (hcs0:Seg 3 cs0)
 (h:Cl k 102 #[agg cs0,int .i64 40] fun k1 r0=>Gt 3 r0 fun cs1=>
 Rt R k1 (agg cs1)) :
  CallsG Tryz.prog 73 #[agg cs0] k R:=
  qX { opq:=[40] } [.agg [.seg 0 3]] [agg cs0] [.seg 3] ⟨⟨cs0,rfl,hcs0⟩,trivial⟩ h
theorem aLm (hcs0:Seg 3 cs0)
 (h:Cl k 103 #[agg cs0,int .i64 40] fun k1 r0=>Gt 3 r0 fun cs1=>
 Rt R k1 (agg cs1)) :
  CallsG Tryz.prog 74 #[agg cs0] k R:=
  qX { opq:=[40] } [.agg [.seg 0 3]] [agg cs0] [.seg 3] ⟨⟨cs0,rfl,hcs0⟩,trivial⟩ h
abbrev aKx (f:FuncId):Prop:=∀ {k:World}{R:World→Value→Prop}{A0:Option Addr}{l0 c0:Nat}{A1:Option Addr}{l1 c1:Nat}{A2:Option Addr}{l2 c2:Nat}{M3:Nat}{A4:Option Addr}{l4 c4:Nat}{A5:Option Addr}{l5 c5:Nat}{A6:Option Addr}{l6 c6:Nat}{cs7 cs8:Array Value}(_:Seg 3 cs7) (_:Seg 3 cs8)
 (_:Tt∧(∃I0:Nat→World→List Value→Prop,(∃m0,∀k0,Up k k0→I0 m0 k0 [int .i64 0,tuple #[slice none 0 0,agg #[]],tuple #[slice none 0 0,agg #[]],tuple #[slice none 0 0,agg #[]]])∧
 ∀m0 k0 vs0,Up k k0→I0 m0 k0 vs0→∃n9,∃A10 l10 c10,∃cs11,Sy.RowC cs11∧∃A12 l12 c12,∃cs13,Sy.RowC cs13∧∃A14 l14 c14,∃cs15,Sy.RowC cs15∧some [int .i64 n9,tuple #[slice A10 l10 c10,agg cs11],tuple #[slice A12 l12 c12,agg cs13],tuple #[slice A14 l14 c14,agg cs15]]=some vs0∧
 Br (decide ((n9:Int)<(l1:Nat))) (Ad A1∧Ix n9 l1∧
 ∃n16,∃cs17,Seg 3 cs17∧∃cs18,Seg 3 cs18∧∃cs19,Seg 3 cs19∧Sy.ReadAt k0.cell? A1 (Int.toNat n9*10+0) 10 (agg ((int .i64 n16) :: (cs17.toList++(cs18.toList++(cs19.toList++([]))))).toArray)∧
 El k0 A4 n9 l4 3 fun cs20=>
 Cl k0 30 #[agg cs7,agg cs20] fun k2 r1=>Gt 3 r1 fun cs21=>
 Cl k2 31 #[agg cs18,agg cs21] fun k4 r3=>Gt 3 r3 fun cs22=>
 Cl k4 30 #[agg cs8,agg cs20] fun k6 r5=>Gt 3 r5 fun cs23=>
 Cl k6 31 #[agg cs19,agg cs23] fun k8 r7=>Gt 3 r7 fun cs24=>
 Cl k8 18 #[agg cs22,agg cs24] fun k10 r9=>Gt 3 r9 fun cs25=>
 ∃A26 l26 c26,Sy.LookAt Tryz.prog k10 97 M3 (int .i64 n9) (slice A26 l26 c26)∧
 Tt∧(∃I11:Nat→World→List Value→Prop,(∃m11,∀k11,Up k10 k11→I11 m11 k11 [int .i64 0,agg cs25])∧
 ∀m11 k11 vs11,Up k10 k11→I11 m11 k11 vs11→∃n27,∃cs28,Seg 3 cs28∧some [int .i64 n27,agg cs28]=some vs11∧
 Br (decide ((n27:Int)<(l26:Nat))) (Ad A26∧Ix n27 l26∧
 ∃n29,∃n30,∃cs31,Seg 3 cs31∧Sy.ReadAt k11.cell? A26 (Int.toNat n27*5+0) 5 (agg ((int .i64 n29) :: ((int .i64 n30) :: (cs31.toList++([])))).toArray)∧
 Cl k11 69 #[agg ((int .i64 n29) :: ((int .i64 n30) :: (cs31.toList++([])))).toArray,int .i64 n9] fun k13 r12=>Gi r12 fun n32=>
 El k13 A4 n32 l4 3 fun cs33=>
 Cl k13 30 #[agg cs33,agg cs20] fun k15 r14=>Gt 3 r14 fun cs34=>
 Cl k15 31 #[agg cs31,agg cs34] fun k17 r16=>Gt 3 r16 fun cs35=>
 Cl k17 18 #[agg cs28,agg cs35] fun k19 r18=>Gt 3 r18 fun cs36=>
 ∀k20,Up k19 k20→∃m,m<m11∧I11 m k20 [int .i64 (wrap .i64 (n27+1)),agg cs36]) (Ad A0∧Ix n16 l0∧
 ∃A29 l29 c29,∃A30 l30 c30,∃cs31,Seg 3 cs31∧∃cs32,Seg 3 cs32∧Sy.ReadAt k11.cell? A0 (Int.toNat n16*8+0) 8 (agg ((slice A29 l29 c29) :: ((slice A30 l30 c30) :: (cs31.toList++(cs32.toList++([]))))).toArray)∧
 Cl k11 57 #[agg cs28,agg cs17] fun k22 r21=>Gt 3 r21 fun cs33=>
 Cl k22 18 #[agg cs20,agg cs33] fun k24 r23=>Gt 3 r23 fun cs34=>
 ∀k25,Up k24 k25→CallsG Tryz.prog f #[agg cs34] k25 fun k26 r25=>Gt 3 r25 fun cs35=>
 (cs35.toList++([]):List Value).length=Int.toNat 1*3∧(0:Int)≤1∧Sy.sizeOk 56 (l10+Int.toNat 1)∧∀(A36:Option Addr) (l36 c36:Nat) (cs37:Array Value),l36=l10+Int.toNat 1→cs37=cs11++(cs35.toList++([]):List Value).toArray→l36≤c36→
 El k26 A5 n9 l5 3 fun cs38=>
 Cl k26 70 #[slice A29 l29 c29,agg cs20] fun k28 r27=>Gt 3 r27 fun cs39=>
 Cl k28 18 #[agg cs38,agg cs39] fun k30 r29=>Gt 3 r29 fun cs40=>
 (cs40.toList++([]):List Value).length=Int.toNat 1*3∧(0:Int)≤1∧Sy.sizeOk 56 (l12+Int.toNat 1)∧∀(A41:Option Addr) (l41 c41:Nat) (cs42:Array Value),l41=l12+Int.toNat 1→cs42=cs13++(cs40.toList++([]):List Value).toArray→l41≤c41→
 El k30 A6 n9 l6 3 fun cs43=>
 Cl k30 70 #[slice A30 l30 c30,agg cs20] fun k32 r31=>Gt 3 r31 fun cs44=>
 Cl k32 18 #[agg cs43,agg cs44] fun k34 r33=>Gt 3 r33 fun cs45=>
 (cs45.toList++([]):List Value).length=Int.toNat 1*3∧(0:Int)≤1∧Sy.sizeOk 56 (l14+Int.toNat 1)∧∀(A46:Option Addr) (l46 c46:Nat) (cs47:Array Value),l46=l14+Int.toNat 1→cs47=cs15++(cs45.toList++([]):List Value).toArray→l46≤c46→
 ∀k35,Up k34 k35→∃m,m<m0∧I0 m k35 [int .i64 (wrap .i64 (n9+1)),tuple #[slice A36 l36 c36,agg cs37],tuple #[slice A41 l41 c41,agg cs42],tuple #[slice A46 l46 c46,agg cs47]]))) (∀k36,Up k0 k36→Sy.RowAt k36 A10 cs11→
 ∀k37,Up k36 k37→Sy.RowAt k37 A12 cs13→
 ∀k38,Up k37 k38→Sy.RowAt k38 A14 cs15→
 Rt R k38 (S3 A10 l10 c10 A12 l12 c12 A14 l14 c14)))),
  CallsG Tryz.prog 35 #[agg #[slice A0 l0 c0,slice A1 l1 c1,slice A2 l2 c2,Value.map (some M3)],S3 A4 l4 c4 A5 l5 c5 A6 l6 c6,agg cs7,agg cs8,Value.func (.func f) #[] #[]] k R
theorem aHr:aKx 73:=fun {k R A0 l0 c0 A1 l1 c1 A2 l2 c2 M3 A4 l4 c4 A5 l5 c5 A6 l6 c6 cs7 cs8} hcs7 hcs8 h=>
 Sy.execFn_use_heap (cfg:={ opq:=[40],loops:=[(0,[.tmp 23 false [.int .i64],.rb 5 0 40 3,.rb 5 1 40 3,.rb 5 2 40 3]),(2,[.tmp 51 false [.int .i64],.blk 8 [.seg 3]])] }) (args:=[.agg (qV 0 4),.agg (qV 4 3),.agg [.seg 7 3],.agg [.seg 8 3],.one (.fn 73 [])]) (vals:=[slice A0 l0 c0,slice A1 l1 c1,slice A2 l2 c2,Value.map (some M3),slice A4 l4 c4,slice A5 l5 c5,slice A6 l6 c6,agg cs7,agg cs8]) (kinds:=[.slice,.slice,.slice,.map,.slice,.slice,.slice,.seg 3,.seg 3]) (blks:=[]) (heap:=[]) ox ⟨qS,qS,qS,⟨_,rfl⟩,qS,qS,qS,⟨cs7,rfl,hcs7⟩,⟨cs8,rfl,hcs8⟩,trivial⟩ ox trivial ox h
theorem aHq:aKx 74:=fun {k R A0 l0 c0 A1 l1 c1 A2 l2 c2 M3 A4 l4 c4 A5 l5 c5 A6 l6 c6 cs7 cs8} hcs7 hcs8 h=>
 Sy.execFn_use_heap (cfg:={ opq:=[40],loops:=[(0,[.tmp 23 false [.int .i64],.rb 5 0 40 3,.rb 5 1 40 3,.rb 5 2 40 3]),(2,[.tmp 51 false [.int .i64],.blk 8 [.seg 3]])] }) (args:=[.agg (qV 0 4),.agg (qV 4 3),.agg [.seg 7 3],.agg [.seg 8 3],.one (.fn 74 [])]) (vals:=[slice A0 l0 c0,slice A1 l1 c1,slice A2 l2 c2,Value.map (some M3),slice A4 l4 c4,slice A5 l5 c5,slice A6 l6 c6,agg cs7,agg cs8]) (kinds:=[.slice,.slice,.slice,.map,.slice,.slice,.slice,.seg 3,.seg 3]) (blks:=[]) (heap:=[]) ox ⟨qS,qS,qS,⟨_,rfl⟩,qS,qS,qS,⟨cs7,rfl,hcs7⟩,⟨cs8,rfl,hcs8⟩,trivial⟩ ox trivial ox h
abbrev aCf (f:FuncId):Prop:=∀ {k:World}{R:World→Value→Prop}{A0:Option Addr}{l0 c0:Nat}{A1:Option Addr}{l1 c1:Nat}{A2:Option Addr}{l2 c2:Nat}{A3:Option Addr}{l3 c3:Nat}
 (_:Tt∧(∃I0:Nat→World→List Value→Prop,(∃m0,∀k0,Up k k0→I0 m0 k0 [int .i64 0,tuple #[slice none 0 0,agg #[]]])∧
 ∀m0 k0 vs0,Up k k0→I0 m0 k0 vs0→∃n4,∃A5 l5 c5,∃cs6,Sy.RowC cs6∧some [int .i64 n4,tuple #[slice A5 l5 c5,agg cs6]]=some vs0∧
 Br (decide ((n4:Int)<(l1:Nat))) (Ad A1∧Ix n4 l1∧
 ∃n7,∃cs8,Seg 3 cs8∧∃cs9,Seg 3 cs9∧∃cs10,Seg 3 cs10∧Sy.ReadAt k0.cell? A1 (Int.toNat n4*10+0) 10 (agg ((int .i64 n7) :: (cs8.toList++(cs9.toList++(cs10.toList++([]))))).toArray)∧
 El k0 A3 n4 l3 3 fun cs11=>
 Ad A0∧Ix n7 l0∧
 ∃A12 l12 c12,∃A13 l13 c13,∃cs14,Seg 3 cs14∧∃cs15,Seg 3 cs15∧Sy.ReadAt k0.cell? A0 (Int.toNat n7*8+0) 8 (agg ((slice A12 l12 c12) :: ((slice A13 l13 c13) :: (cs14.toList++(cs15.toList++([]))))).toArray)∧
 ∀k1,Up k0 k1→CallsG Tryz.prog f #[agg ((slice A12 l12 c12) :: ((slice A13 l13 c13) :: (cs14.toList++(cs15.toList++([]))))).toArray] k1 fun k2 r1=>Gt 3 r1 fun cs16=>
 Cl k2 57 #[agg cs11,agg cs16] fun k4 r3=>Gt 3 r3 fun cs17=>
 (cs17.toList++([]):List Value).length=Int.toNat 1*3∧(0:Int)≤1∧Sy.sizeOk 56 (l5+Int.toNat 1)∧∀(A18:Option Addr) (l18 c18:Nat) (cs19:Array Value),l18=l5+Int.toNat 1→cs19=cs6++(cs17.toList++([]):List Value).toArray→l18≤c18→
 ∀k5,Up k4 k5→∃m,m<m0∧I0 m k5 [int .i64 (wrap .i64 (n4+1)),tuple #[slice A18 l18 c18,agg cs19]]) (∀k6,Up k0 k6→Sy.RowAt k6 A5 cs6→
 Rt R k6 (slice A5 l5 c5)))),
  CallsG Tryz.prog 104 #[S3 A0 l0 c0 A1 l1 c1 A2 l2 c2,slice A3 l3 c3,Value.func (.func f) #[] #[]] k R
theorem zQ:aCf 105:=fun {k R A0 l0 c0 A1 l1 c1 A2 l2 c2 A3 l3 c3}  h=>
 Sy.execFn_use_heap (cfg:={ opq:=[40],loops:=[(0,[.tmp 13 false [.int .i64],.rw 7 40 3])] }) (args:=[.agg (qV 0 3),.one (.var 3),.one (.fn 105 [])]) (vals:=[slice A0 l0 c0,slice A1 l1 c1,slice A2 l2 c2,slice A3 l3 c3]) (kinds:=[.slice,.slice,.slice,.slice]) (blks:=[]) (heap:=[]) ox ⟨qS,qS,qS,qS,trivial⟩ ox trivial ox h
theorem zR:aCf 106:=fun {k R A0 l0 c0 A1 l1 c1 A2 l2 c2 A3 l3 c3}  h=>
 Sy.execFn_use_heap (cfg:={ opq:=[40],loops:=[(0,[.tmp 13 false [.int .i64],.rw 7 40 3])] }) (args:=[.agg (qV 0 3),.one (.var 3),.one (.fn 106 [])]) (vals:=[slice A0 l0 c0,slice A1 l1 c1,slice A2 l2 c2,slice A3 l3 c3]) (kinds:=[.slice,.slice,.slice,.slice]) (blks:=[]) (heap:=[]) ox ⟨qS,qS,qS,qS,trivial⟩ ox trivial ox h
theorem aCp (hcs2:Seg 3 cs2) (hcs3:Seg 3 cs3)
 (h:Rt R k (agg cs2)) :
 CallsG Tryz.prog 105 #[agg ((slice A0 l0 c0) :: ((slice A1 l1 c1) :: (cs2.toList++(cs3.toList++([]))))).toArray] k R:=
 qX { opq:=[40] } [.agg [.var 0,.var 1,.seg 2 3,.seg 3 3]] [slice A0 l0 c0,slice A1 l1 c1,agg cs2,agg cs3] [.slice,.slice,.seg 3,.seg 3] ⟨qS,qS,⟨cs2,rfl,hcs2⟩,⟨cs3,rfl,hcs3⟩,trivial⟩ h
theorem zU (hcs2:Seg 3 cs2) (hcs3:Seg 3 cs3)
 (h:Rt R k (agg cs3)) :
 CallsG Tryz.prog 106 #[agg ((slice A0 l0 c0) :: ((slice A1 l1 c1) :: (cs2.toList++(cs3.toList++([]))))).toArray] k R:=
 qX { opq:=[40] } [.agg [.var 0,.var 1,.seg 2 3,.seg 3 3]] [slice A0 l0 c0,slice A1 l1 c1,agg cs2,agg cs3] [.slice,.slice,.seg 3,.seg 3] ⟨qS,qS,⟨cs2,rfl,hcs2⟩,⟨cs3,rfl,hcs3⟩,trivial⟩ h
theorem aGw 
 (h:Cl k 104 #[S3 A0 l0 c0 A1 l1 c1 A2 l2 c2,slice A4 l4 c4,Value.func (.func 105) #[] #[]] fun k1 r0=>∃A6 l6 c6,some (slice A6 l6 c6)=some r0∧
 Rt R k1 (slice A6 l6 c6)) :
  CallsG Tryz.prog 76 #[S3 A0 l0 c0 A1 l1 c1 A2 l2 c2,S3 A3 l3 c3 A4 l4 c4 A5 l5 c5] k R:=
  qY { opq:=[40] } h
theorem aCy 
 (h:Cl k 104 #[S3 A0 l0 c0 A1 l1 c1 A2 l2 c2,slice A5 l5 c5,Value.func (.func 106) #[] #[]] fun k1 r0=>∃A6 l6 c6,some (slice A6 l6 c6)=some r0∧
 Rt R k1 (slice A6 l6 c6)) :
  CallsG Tryz.prog 77 #[S3 A0 l0 c0 A1 l1 c1 A2 l2 c2,S3 A3 l3 c3 A4 l4 c4 A5 l5 c5] k R:=
  qY { opq:=[40] } h
abbrev aKt (f:FuncId):Prop:=∀ {k:World}{R:World→Value→Prop}{A0:Option Addr}{l0 c0:Nat}
 (_:Tt∧(∃I0:Nat→World→List Value→Prop,(∃m0,∀k0,Up k k0→I0 m0 k0 [int .i64 0,int .i64 0])∧
 ∀m0 k0 vs0,Up k k0→I0 m0 k0 vs0→∃n1,∃n2,some [int .i64 n1,int .i64 n2]=some vs0∧
 Br (decide ((n2:Int)<(l0:Nat))) (El k0 A0 n2 l0 3 fun cs3=>
 El k0 A0 n1 l0 3 fun cs4=>
 ∀k1,Up k0 k1→CallsG Tryz.prog f #[agg cs3,agg cs4] k1 fun k2 r1=>Gb r1 fun b5=>
 Br b5 (∀k3,Up k2 k3→∃m,m<m0∧I0 m k3 [int .i64 n2,int .i64 (wrap .i64 (n2+1))]) (∀k4,Up k2 k4→∃m,m<m0∧I0 m k4 [int .i64 n1,int .i64 (wrap .i64 (n2+1))])) (Rt R k0 (int .i64 n1)))),
  CallsG Tryz.prog 75 #[slice A0 l0 c0,Value.func (.func f) #[] #[]] k R
theorem aCr:aKt 27:=fun {k R A0 l0 c0}  h=>
 Sy.execFn_use_heap (cfg:={ opq:=[40],loops:=[(0,[.tmp 5 false [.int .i64],.tmp 9 false [.int .i64]])] }) (args:=[.one (.var 0),.one (.fn 27 [])]) (vals:=[slice A0 l0 c0]) (kinds:=[.slice]) (blks:=[]) (heap:=[]) ox ⟨qS,trivial⟩ ox trivial ox h
theorem aCs:aKt 78:=fun {k R A0 l0 c0}  h=>
 Sy.execFn_use_heap (cfg:={ opq:=[40],loops:=[(0,[.tmp 5 false [.int .i64],.tmp 9 false [.int .i64]])] }) (args:=[.one (.var 0),.one (.fn 78 [])]) (vals:=[slice A0 l0 c0]) (kinds:=[.slice]) (blks:=[]) (heap:=[]) ox ⟨qS,trivial⟩ ox trivial ox h
theorem aHb (hcs0:Seg 3 cs0) (hcs1:Seg 3 cs1)
 (h:Cl k 27 #[agg cs1,agg cs0] fun k1 r0=>Gb r0 fun b2=>
 Rt R k1 (bool b2)) :
  CallsG Tryz.prog 78 #[agg cs0,agg cs1] k R:=
  qX { opq:=[40] } [.agg [.seg 0 3],.agg [.seg 1 3]] [agg cs0,agg cs1] [.seg 3,.seg 3] ⟨⟨cs0,rfl,hcs0⟩,⟨cs1,rfl,hcs1⟩,trivial⟩ h
theorem aMe 
 (h:Cl k 76 #[S3 A0 l0 c0 A1 l1 c1 A2 l2 c2,S3 A3 l3 c3 A4 l4 c4 A5 l5 c5] fun k1 r0=>∃A9 l9 c9,some (slice A9 l9 c9)=some r0∧
 Cl k1 75 #[slice A9 l9 c9,Value.func (.func 27) #[] #[]] fun k3 r2=>Gi r2 fun n10=>
 Rt R k3 (int .i64 n10)) :
  CallsG Tryz.prog 43 #[S3 A0 l0 c0 A1 l1 c1 A2 l2 c2,S6 A3 l3 c3 A4 l4 c4 A5 l5 c5 A6 l6 c6 A7 l7 c7 A8 l8 c8] k R:=
  qY { opq:=[40] } h
theorem aLt 
 (h:Cl k 77 #[S3 A0 l0 c0 A1 l1 c1 A2 l2 c2,S3 A6 l6 c6 A7 l7 c7 A8 l8 c8] fun k1 r0=>∃A9 l9 c9,some (slice A9 l9 c9)=some r0∧
 Cl k1 75 #[slice A9 l9 c9,Value.func (.func 78) #[] #[]] fun k3 r2=>Gi r2 fun n10=>
 Rt R k3 (int .i64 n10)) :
  CallsG Tryz.prog 44 #[S3 A0 l0 c0 A1 l1 c1 A2 l2 c2,S6 A3 l3 c3 A4 l4 c4 A5 l5 c5 A6 l6 c6 A7 l7 c7 A8 l8 c8] k R:=
  qY { opq:=[40] } h
theorem aLq 
 (h:Cl k 76 #[S3 A0 l0 c0 A1 l1 c1 A2 l2 c2,S3 A3 l3 c3 A4 l4 c4 A5 l5 c5] fun k1 r0=>∃A6 l6 c6,some (slice A6 l6 c6)=some r0∧
 Cl k1 75 #[slice A6 l6 c6,Value.func (.func 27) #[] #[]] fun k3 r2=>Gi r2 fun n7=>
 El k3 A6 n7 l6 3 fun cs8=>
 Cl k3 8 #[int .i64 1] fun k5 r4=>Gt 3 r4 fun cs9=>
 Cl k5 27 #[agg cs8,agg cs9] fun k7 r6=>Gb r6 fun b10=>
 Rt R k7 (bool (!b10))) :
  CallsG Tryz.prog 46 #[S3 A0 l0 c0 A1 l1 c1 A2 l2 c2,S3 A3 l3 c3 A4 l4 c4 A5 l5 c5] k R:=
  qY { opq:=[40] } h
theorem aCz 
 (h:Cl k 77 #[S3 A0 l0 c0 A1 l1 c1 A2 l2 c2,S3 A3 l3 c3 A4 l4 c4 A5 l5 c5] fun k1 r0=>∃A6 l6 c6,some (slice A6 l6 c6)=some r0∧
 Tt∧(∃I2:Nat→World→List Value→Prop,(∃m2,∀k2,Up k1 k2→I2 m2 k2 [int .i64 0])∧
 ∀m2 k2 vs2,Up k1 k2→I2 m2 k2 vs2→∃n7,some [int .i64 n7]=some vs2∧
 Br (decide ((n7:Int)<(l6:Nat))) (El k2 A6 n7 l6 3 fun cs8=>
 Cl k2 8 #[int .i64 1] fun k4 r3=>Gt 3 r3 fun cs9=>
 Cl k4 27 #[agg cs9,agg cs8] fun k6 r5=>Gb r5 fun b10=>
 Br b10 (Rt R k6 (bool true)) (∀k8,Up k6 k8→∃m,m<m2∧I2 m k8 [int .i64 (wrap .i64 (n7+1))])) (Rt R k2 (bool false)))) :
  CallsG Tryz.prog 45 #[S3 A0 l0 c0 A1 l1 c1 A2 l2 c2,S3 A3 l3 c3 A4 l4 c4 A5 l5 c5] k R:=
  qY { opq:=[40],loops:=[(0,[.tmp 11 false [.int .i64]])] } h
end Go.Proofs.YtebaclefnpipfaaGreat

namespace Go.Proofs.YtebaclefnpipfaaGreat
open Go.RowKit
open Value (agg slice int bool tuple)
open Sy (Up Sees CallsG Seg execFn_use)
set_option maxRecDepth 100000
variable {k:World}{R:World→Value→Prop}
end Go.Proofs.YtebaclefnpipfaaGreat

namespace Go.Proofs.YtebaclefnpipfaaGreat
open Go.RowKit
open Value (agg slice int bool tuple)
open Sy (Up Sees CallsG Seg execFn_use)
set_option maxRecDepth 100000
variable {k:World}{R:World→Value→Prop}
end Go.Proofs.YtebaclefnpipfaaGreat

namespace Go.Proofs.YtebaclefnpipfaaGreat
open IntKind (wrap)
open Go.RowKit
open Value (agg slice int bool tuple)
open Sy (Up Sees CallsG Seg execFn_use)
set_option maxRecDepth 100000
variable {k:World}{R:World→Value→Prop}{A0 A1 A2 A3 A4 A5 A6 A7 A8 A9:Option Addr}{c0 c1 c2 c3 c4 c5 c6 c7 c8 c9 l0 l1 l2 l3 l4 l5 l6 l7 l8 l9:Nat}
theorem aQr 
 (h:Tt∧(Br (decide (((l0:Nat):Int) > 16)) (Rt R k (int .i64 4)) (Tt∧(∃I1:Nat→World→List Value→Prop,(∃m1,∀k1,Up k k1→I1 m1 k1 [int .i64 0])∧
 ∀m1 k1 vs1,Up k k1→I1 m1 k1 vs1→∃n1,some [int .i64 n1]=some vs1∧
 Br (decide ((n1:Int)<(l0:Nat))) (Ad A0∧Ix n1 l0∧
 ∃n2,∃cs3,Seg 3 cs3∧∃cs4,Seg 3 cs4∧∃cs5,Seg 3 cs5∧∃cs6,Seg 3 cs6∧Sy.ReadAt k1.cell? A0 (Int.toNat n1*13+0) 13 (agg ((int .i64 n2) :: (cs3.toList++(cs4.toList++(cs5.toList++(cs6.toList++([])))))).toArray)∧
 Br (decide ((n2:Int)<0)) (Rt R k1 (int .i64 1)) (Cl k1 79 #[Rg cs3 cs4 cs5 cs6] fun k4 r3=>Gi r3 fun n7=>
 Br ((n7:Int) != 0) (Rt R k4 (int .i64 n7)) (∀k6,Up k4 k6→∃m,m<m1∧I1 m k6 [int .i64 (wrap .i64 (n1+1))]))) (Tt∧(∃I7:Nat→World→List Value→Prop,(∃m7,∀k7,Up k1 k7→I7 m7 k7 [int .i64 2000,int .i64 0])∧
 ∀m7 k7 vs7,Up k1 k7→I7 m7 k7 vs7→∃n2,∃n3,some [int .i64 n2,int .i64 n3]=some vs7∧
 Br (decide ((n3:Int)<(l0:Nat))) (Ad A0∧Ix n3 l0∧
 ∃n4,∃cs5,Seg 3 cs5∧∃cs6,Seg 3 cs6∧∃cs7,Seg 3 cs7∧∃cs8,Seg 3 cs8∧Sy.ReadAt k7.cell? A0 (Int.toNat n3*13+0) 13 (agg ((int .i64 n4) :: (cs5.toList++(cs6.toList++(cs7.toList++(cs8.toList++([])))))).toArray)∧
 Br (decide ((n4:Int) > n2)) (Rt R k7 (int .i64 4)) (∀k9,Up k7 k9→∃m,m<m7∧I7 m k9 [int .i64 (wrap .i64 (n2-n4)),int .i64 (wrap .i64 (n3+1))])) (Rt R k7 (int .i64 0)))))))) :
  CallsG Tryz.prog 71 #[slice A0 l0 c0] k R:=
  qY { opq:=[40],loops:=[(0,[.tmp 14 false [.int .i64]]),(2,[.tmp 6 false [.int .i64],.tmp 30 false [.int .i64]])] } h
theorem aLo 
 (h:Cl k 42 #[S3 A0 l0 c0 A1 l1 c1 A2 l2 c2,S6 A3 l3 c3 A4 l4 c4 A5 l5 c5 A6 l6 c6 A7 l7 c7 A8 l8 c8] fun k1 r0=>Gi r0 fun n10=>
 Br ((n10:Int) != 0) (Rt R k1 (int .i64 n10)) (Cl k1 71 #[slice A9 l9 c9] fun k4 r3=>Gi r3 fun n11=>
 Rt R k4 (int .i64 n11))) :
  CallsG Tryz.prog 37 #[S3 A0 l0 c0 A1 l1 c1 A2 l2 c2,S6 A3 l3 c3 A4 l4 c4 A5 l5 c5 A6 l6 c6 A7 l7 c7 A8 l8 c8,slice A9 l9 c9] k R:=
  qY { opq:=[40] } h
end Go.Proofs.YtebaclefnpipfaaGreat

namespace Go.Proofs.YtebaclefnpipfaaGreat
open IntKind (wrap)
open Go.RowKit
open Value (agg slice int bool tuple)
open Sy (Up Sees CallsG Seg execFn_use)
set_option maxRecDepth 100000
variable {k:World}{R:World→Value→Prop}{A0 A1 A2 A3 A4 A5 A6 A7 A8:Option Addr}{c0 c1 c2 c3 c4 c5 c6 c7 c8 l0 l1 l2 l3 l4 l5 l6 l7 l8:Nat}{cs9 cs10 cs11 cs12:Array Value}{n13:Int}
theorem aGx (hcs9:Seg 3 cs9) (hcs10:Seg 3 cs10) (hcs11:Seg 3 cs11) (hcs12:Seg 3 cs12)
 (h:Cl k 42 #[S3 A0 l0 c0 A1 l1 c1 A2 l2 c2,S6 A3 l3 c3 A4 l4 c4 A5 l5 c5 A6 l6 c6 A7 l7 c7 A8 l8 c8] fun k1 r0=>Gi r0 fun n14=>
 Br ((n14:Int) != 0) (Rt R k1 (int .i64 n14)) (Cl k1 79 #[Rg cs9 cs10 cs11 cs12] fun k4 r3=>Gi r3 fun n15=>
 Br ((n15:Int) != 0) (Rt R k4 (int .i64 n15)) (Br (decide ((n13:Int)<0)) (Rt R k4 (int .i64 1)) (Br (decide ((n13:Int) > 2000)) (Rt R k4 (int .i64 1)) (Rt R k4 (int .i64 0)))))) :
  CallsG Tryz.prog 47 #[S3 A0 l0 c0 A1 l1 c1 A2 l2 c2,S6 A3 l3 c3 A4 l4 c4 A5 l5 c5 A6 l6 c6 A7 l7 c7 A8 l8 c8,Rg cs9 cs10 cs11 cs12,int .i64 n13] k R:=
  qX { opq:=[40] } [.agg (qV 0 3),.agg (qV 3 6),.agg [.seg 9 3,.seg 10 3,.seg 11 3,.seg 12 3],.one (.var 13)] [slice A0 l0 c0,slice A1 l1 c1,slice A2 l2 c2,slice A3 l3 c3,slice A4 l4 c4,slice A5 l5 c5,slice A6 l6 c6,slice A7 l7 c7,slice A8 l8 c8,agg cs9,agg cs10,agg cs11,agg cs12,int .i64 n13] [.slice,.slice,.slice,.slice,.slice,.slice,.slice,.slice,.slice,.seg 3,.seg 3,.seg 3,.seg 3,.int .i64] ⟨qS,qS,qS,qS,qS,qS,qS,qS,qS,⟨cs9,rfl,hcs9⟩,⟨cs10,rfl,hcs10⟩,⟨cs11,rfl,hcs11⟩,⟨cs12,rfl,hcs12⟩,⟨_,rfl⟩,trivial⟩ h
theorem aGv 
 (h:Cl k 34 #[S3 A0 l0 c0 A1 l1 c1 A2 l2 c2] fun k1 r0=>∃A6 l6 c6,∃A7 l7 c7,∃A8 l8 c8,some (S3 A6 l6 c6 A7 l7 c7 A8 l8 c8)=some r0∧
 Cl k1 34 #[S3 A3 l3 c3 A4 l4 c4 A5 l5 c5] fun k3 r2=>∃A9 l9 c9,∃A10 l10 c10,∃A11 l11 c11,some (S3 A9 l9 c9 A10 l10 c10 A11 l11 c11)=some r2∧
 Rt R k3 (S6 A6 l6 c6 A7 l7 c7 A8 l8 c8 A9 l9 c9 A10 l10 c10 A11 l11 c11)) :
  CallsG Tryz.prog 38 #[S6 A0 l0 c0 A1 l1 c1 A2 l2 c2 A3 l3 c3 A4 l4 c4 A5 l5 c5] k R:=
  qY { opq:=[40] } h
theorem aHl (hcs9:Seg 3 cs9) (hcs10:Seg 3 cs10) (hcs11:Seg 3 cs11) (hcs12:Seg 3 cs12)
 (h:Cl k 47 #[S3 A0 l0 c0 A1 l1 c1 A2 l2 c2,S6 A3 l3 c3 A4 l4 c4 A5 l5 c5 A6 l6 c6 A7 l7 c7 A8 l8 c8,Rg cs9 cs10 cs11 cs12,int .i64 n13] fun k1 r0=>Gi r0 fun n14=>
 Br ((n14:Int) != 0) (Rt R k1 (tuple #[agg #[int .i64 0,int .i64 0,int .i64 0,slice none 0 0,slice none 0 0,slice none 0 0,slice none 0 0,slice none 0 0,slice none 0 0],int .i64 n14])) (Cl k1 33 #[S3 A0 l0 c0 A1 l1 c1 A2 l2 c2] fun k4 r3=>∃A15 l15 c15,∃A16 l16 c16,∃A17 l17 c17,∃M18:Nat,some (agg #[slice A15 l15 c15,slice A16 l16 c16,slice A17 l17 c17,Value.map (some M18)])=some r3∧
 Cl k4 38 #[S6 A3 l3 c3 A4 l4 c4 A5 l5 c5 A6 l6 c6 A7 l7 c7 A8 l8 c8] fun k6 r5=>∃A19 l19 c19,∃A20 l20 c20,∃A21 l21 c21,∃A22 l22 c22,∃A23 l23 c23,∃A24 l24 c24,some (S6 A19 l19 c19 A20 l20 c20 A21 l21 c21 A22 l22 c22 A23 l23 c23 A24 l24 c24)=some r5∧
 ∃I7:Nat→World→List Value→Prop,(∃m7,∀k7,Up k6 k7→I7 m7 k7 [int .i64 (-1),int .i64 0,S6 A19 l19 c19 A20 l20 c20 A21 l21 c21 A22 l22 c22 A23 l23 c23 A24 l24 c24])∧
 ∀m7 k7 vs7,Up k6 k7→I7 m7 k7 vs7→∃n25,∃n26,∃A27 l27 c27,∃A28 l28 c28,∃A29 l29 c29,∃A30 l30 c30,∃A31 l31 c31,∃A32 l32 c32,some [int .i64 n25,int .i64 n26,S6 A27 l27 c27 A28 l28 c28 A29 l29 c29 A30 l30 c30 A31 l31 c31 A32 l32 c32]=some vs7∧
 Cl k7 46 #[S3 A0 l0 c0 A1 l1 c1 A2 l2 c2,S3 A27 l27 c27 A28 l28 c28 A29 l29 c29] fun k9 r8=>Gb r8 fun b33=>
 Br b33 (Cl k9 44 #[S3 A0 l0 c0 A1 l1 c1 A2 l2 c2,S6 A27 l27 c27 A28 l28 c28 A29 l29 c29 A30 l30 c30 A31 l31 c31 A32 l32 c32] fun k11 r10=>Gi r10 fun n34=>
 Cl k11 45 #[S3 A0 l0 c0 A1 l1 c1 A2 l2 c2,S3 A30 l30 c30 A31 l31 c31 A32 l32 c32] fun k13 r12=>Gb r12 fun b35=>
 Br b35 (Rt R k13 (tuple #[agg #[int .i64 n26,int .i64 n25,int .i64 n34,slice A27 l27 c27,slice A28 l28 c28,slice A29 l29 c29,slice A30 l30 c30,slice A31 l31 c31,slice A32 l32 c32],int .i64 61])) (Rt R k13 (tuple #[agg #[int .i64 n26,int .i64 n25,int .i64 n34,slice A27 l27 c27,slice A28 l28 c28,slice A29 l29 c29,slice A30 l30 c30,slice A31 l31 c31,slice A32 l32 c32],int .i64 0]))) (Br ((n26:Int) == n13) (Rt R k9 (tuple #[agg #[int .i64 0,int .i64 0,int .i64 0,slice none 0 0,slice none 0 0,slice none 0 0,slice none 0 0,slice none 0 0,slice none 0 0],int .i64 5])) (Cl k9 43 #[S3 A0 l0 c0 A1 l1 c1 A2 l2 c2,S6 A27 l27 c27 A28 l28 c28 A29 l29 c29 A30 l30 c30 A31 l31 c31 A32 l32 c32] fun k18 r17=>Gi r17 fun n34=>
 Cl k18 40 #[agg #[slice A15 l15 c15,slice A16 l16 c16,slice A17 l17 c17,Value.map (some M18)],S6 A27 l27 c27 A28 l28 c28 A29 l29 c29 A30 l30 c30 A31 l31 c31 A32 l32 c32,Rg cs9 cs10 cs11 cs12] fun k20 r19=>∃A35 l35 c35,∃A36 l36 c36,∃A37 l37 c37,∃A38 l38 c38,∃A39 l39 c39,∃A40 l40 c40,some (S6 A35 l35 c35 A36 l36 c36 A37 l37 c37 A38 l38 c38 A39 l39 c39 A40 l40 c40)=some r19∧
 ∀k21,Up k20 k21→∃m,m<m7∧I7 m k21 [int .i64 n34,int .i64 (wrap .i64 (n26+1)),S6 A35 l35 c35 A36 l36 c36 A37 l37 c37 A38 l38 c38 A39 l39 c39 A40 l40 c40])))) :
  CallsG Tryz.prog 17 #[S3 A0 l0 c0 A1 l1 c1 A2 l2 c2,S6 A3 l3 c3 A4 l4 c4 A5 l5 c5 A6 l6 c6 A7 l7 c7 A8 l8 c8,Rg cs9 cs10 cs11 cs12,int .i64 n13] k R:=
  qX { opq:=[40],loops:=[(0,[.tmp 13 false [.int .i64],.tmp 14 false [.int .i64],.blk 5 [.slice,.slice,.slice,.slice,.slice,.slice]])] } [.agg (qV 0 3),.agg (qV 3 6),.agg [.seg 9 3,.seg 10 3,.seg 11 3,.seg 12 3],.one (.var 13)] [slice A0 l0 c0,slice A1 l1 c1,slice A2 l2 c2,slice A3 l3 c3,slice A4 l4 c4,slice A5 l5 c5,slice A6 l6 c6,slice A7 l7 c7,slice A8 l8 c8,agg cs9,agg cs10,agg cs11,agg cs12,int .i64 n13] [.slice,.slice,.slice,.slice,.slice,.slice,.slice,.slice,.slice,.seg 3,.seg 3,.seg 3,.seg 3,.int .i64] ⟨qS,qS,qS,qS,qS,qS,qS,qS,qS,⟨cs9,rfl,hcs9⟩,⟨cs10,rfl,hcs10⟩,⟨cs11,rfl,hcs11⟩,⟨cs12,rfl,hcs12⟩,⟨_,rfl⟩,trivial⟩ h
end Go.Proofs.YtebaclefnpipfaaGreat

namespace Go.Proofs.YtebaclefnpipfaaGreat
open Go.RowKit
open Value (agg slice int bool tuple)
open Sy (Up Sees CallsG Seg execFn_use)
set_option maxRecDepth 100000
variable {k:World}{R:World→Value→Prop}
