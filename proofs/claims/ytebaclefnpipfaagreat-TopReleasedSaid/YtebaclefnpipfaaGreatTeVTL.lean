/- Several texts in one. (Printed by prep.py.) -/
import Derived.Test.YtebaclefnpipfaaGreatTeVS
namespace Go.Proofs.YtebaclefnpipfaaGreat
open IntKind (wrap)
open Go.RowKit
open Value (agg slice int bool tuple)
open Sy (Up Sees CallsG Seg execFn_use)
set_option maxRecDepth 100000
variable {k:World}{R:World→Value→Prop}{A0 A1:Option Addr}{c0 c1 l0 l1:Nat}{cs2 cs3:Array Value}
theorem aMd (hcs2:Seg 3 cs2) (hcs3:Seg 3 cs3)
 (h:Tt∧(Br (decide (((l1:Nat):Int)<1)) (Rt R k (tuple #[Z3,int .i64 4])) (Tt∧(Br (decide (((l1:Nat):Int) > 24)) (Rt R k (tuple #[Z3,int .i64 4])) (Tt∧(∃I2:Nat→World→List Value→Prop,(∃m2,∀k2,Up k k2→I2 m2 k2 [int .i64 0])∧
 ∀m2 k2 vs2,Up k k2→I2 m2 k2 vs2→∃n4,some [int .i64 n4]=some vs2∧
 Br (decide ((n4:Int)<(l1:Nat))) (Ad A1∧Ix n4 l1∧
 ∃n5,∃n6,∃cs7,Seg 3 cs7∧∃cs8,Seg 3 cs8∧Sy.ReadAt k2.cell? A1 (Int.toNat n4*8+0) 8 (agg ((int .i64 n5) :: ((int .i64 n6) :: (cs7.toList++(cs8.toList++([]))))).toArray)∧
 Br (decide ((n6:Int)<1)) (Rt R k2 (tuple #[Z3,int .i64 1])) (Cl k2 55 #[agg cs8] fun k5 r4=>Gb r4 fun b9=>
 Br (!b9) (Rt R k5 (tuple #[Z3,int .i64 1])) (∀k7,Up k5 k7→∃m,m<m2∧I2 m k7 [int .i64 (wrap .i64 (n4+1))]))) (∀k8,Up k2 k8→Sy.CallsR Tryz.prog 56 #[slice A0 l0 c0] k8 79 8 fun k9 r8=>∃A5 l5 c5,∃cs6,r8=tuple #[slice A5 l5 c5,agg cs6]∧
 Tt∧(∃I10:Nat→World→List Value→Prop,(∃m10,∀k10,Up k9 k10→I10 m10 k10 [int .i64 0,tuple #[slice none 0 0,agg #[]],tuple #[slice none 0 0,agg #[]]])∧
 ∀m10 k10 vs10,Up k9 k10→I10 m10 k10 vs10→∃n7,∃A8 l8 c8,∃cs9,Sy.RowC cs9∧∃A10 l10 c10,∃cs11,Sy.RowC cs11∧some [int .i64 n7,tuple #[slice A8 l8 c8,agg cs9],tuple #[slice A10 l10 c10,agg cs11]]=some vs10∧
 Br (decide ((n7:Int)<(l1:Nat))) (Ad A1∧Ix n7 l1∧
 ∃n12,∃n13,∃cs14,Seg 3 cs14∧∃cs15,Seg 3 cs15∧Sy.ReadAt k10.cell? A1 (Int.toNat n7*8+0) 8 (agg ((int .i64 n12) :: ((int .i64 n13) :: (cs14.toList++(cs15.toList++([]))))).toArray)∧
 Tt∧(Br (decide ((n13:Int) > (wrap .i64 (24-(l10:Nat))))) (Rt R k10 (tuple #[Z3,int .i64 4])) (∃I12:Nat→World→List Value→Prop,(∃m12,∀k12,Up k10 k12→I12 m12 k12 [int .i64 0,tuple #[slice A8 l8 c8,agg cs9],tuple #[slice A10 l10 c10,agg cs11]])∧
 ∀m12 k12 vs12,Up k10 k12→I12 m12 k12 vs12→∃n16,∃A17 l17 c17,∃cs18,Sy.RowC cs18∧∃A19 l19 c19,∃cs20,Sy.RowC cs20∧some [int .i64 n16,tuple #[slice A17 l17 c17,agg cs18],tuple #[slice A19 l19 c19,agg cs20]]=some vs12∧
 Br (decide ((n16:Int)<n13)) (((int .i64 n12) :: (cs14.toList++((bool false) :: ((slice none 0 0) :: ((slice none 0 0) :: ((bool false) :: ((slice none 0 0) :: ((slice none 0 0) :: ([])))))))):List Value).length=Int.toNat 1*10∧(0:Int)≤1∧Sy.sizeOk 176 (l19+Int.toNat 1)∧∀(A21:Option Addr) (l21 c21:Nat) (cs22:Array Value),l21=l19+Int.toNat 1→cs22=cs20++((int .i64 n12) :: (cs14.toList++((bool false) :: ((slice none 0 0) :: ((slice none 0 0) :: ((bool false) :: ((slice none 0 0) :: ((slice none 0 0) :: ([])))))))):List Value).toArray→l21≤c21→
 (cs15.toList++([]):List Value).length=Int.toNat 1*3∧(0:Int)≤1∧Sy.sizeOk 56 (l17+Int.toNat 1)∧∀(A23:Option Addr) (l23 c23:Nat) (cs24:Array Value),l23=l17+Int.toNat 1→cs24=cs18++(cs15.toList++([]):List Value).toArray→l23≤c23→
 ∀k13,Up k12 k13→∃m,m<m12∧I12 m k13 [int .i64 (wrap .i64 (n16+1)),tuple #[slice A23 l23 c23,agg cs24],tuple #[slice A21 l21 c21,agg cs22]]) (∀k14,Up k12 k14→∃m,m<m10∧I10 m k14 [int .i64 (wrap .i64 (n7+1)),tuple #[slice A17 l17 c17,agg cs18],tuple #[slice A19 l19 c19,agg cs20]])))) (Tt∧((decide ((0:Int)≤0∧(0:Int)<(l10:Nat)))=true∧
 ((decide ((0:Int)≤0∧(0:Int)<(l10:Nat)))=true∧
 (((0:Int)≤0∧(0:Int)<(l10:Nat))∧∀cs12:Array Value,cs12=Sy.over cs11 (Int.toNat 0*10+4) (cs2.toList++([]))→
 (decide ((0:Int)≤(wrap .i64 ((l10:Nat)-1))∧((wrap .i64 ((l10:Nat)-1)):Int)<(l10:Nat)))=true∧
 ((decide ((0:Int)≤(wrap .i64 ((l10:Nat)-1))∧((wrap .i64 ((l10:Nat)-1)):Int)<(l10:Nat)))=true∧
 (((0:Int)≤(wrap .i64 ((l10:Nat)-1))∧((wrap .i64 ((l10:Nat)-1)):Int)<(l10:Nat))∧∀cs13:Array Value,cs13=Sy.over cs12 (Int.toNat (wrap .i64 ((l10:Nat)-1))*10+7) (cs3.toList++([]))→
 ∃I15:Nat→World→List Value→Prop,(∃m15,∀k15,Up k10 k15→I15 m15 k15 [int .i64 1,tuple #[slice none 0 0,agg #[]]])∧
 ∀m15 k15 vs15,Up k10 k15→I15 m15 k15 vs15→∃n14,∃A15 l15 c15,∃cs16,Sy.RowC cs16∧some [int .i64 n14,tuple #[slice A15 l15 c15,agg cs16]]=some vs15∧
 Br (decide ((n14:Int)≤(wrap .i64 ((l10:Nat)-1)))) ((decide ((0:Int)≤(wrap .i64 (n14-1))∧((wrap .i64 (n14-1)):Int)<(l8:Nat)))=true∧
 (∃cs17,Seg 3 cs17∧Sy.ReadIn cs9 (Int.toNat (wrap .i64 (n14-1))*3+0) 3 (agg cs17)∧
 (decide ((0:Int)≤n14∧(n14:Int)<(l8:Nat)))=true∧
 (∃cs18,Seg 3 cs18∧Sy.ReadIn cs9 (Int.toNat n14*3+0) 3 (agg cs18)∧
 Cl k15 31 #[agg cs17,agg cs18] fun k17 r16=>Gt 3 r16 fun cs19=>
 Cl k17 18 #[agg cs17,agg cs18] fun k19 r18=>Gt 3 r18 fun cs20=>
 Cl k19 57 #[agg cs19,agg cs20] fun k21 r20=>Gt 3 r20 fun cs21=>
 ((int .i64 (wrap .i64 (n14-1))) :: ((int .i64 n14) :: (cs21.toList++([]))):List Value).length=Int.toNat 1*5∧(0:Int)≤1∧Sy.sizeOk 72 (l15+Int.toNat 1)∧∀(A22:Option Addr) (l22 c22:Nat) (cs23:Array Value),l22=l15+Int.toNat 1→cs23=cs16++((int .i64 (wrap .i64 (n14-1))) :: ((int .i64 n14) :: (cs21.toList++([]))):List Value).toArray→l22≤c22→
 ∀k22,Up k21 k22→∃m,m<m15∧I15 m k22 [int .i64 (wrap .i64 (n14+1)),tuple #[slice A22 l22 c22,agg cs23]]))) (Tt∧(∃I23:Nat→World→List Value→Prop,(∃m23,∀k23,Up k15 k23→I23 m23 k23 [int .i64 0,tuple #[slice A5 l5 c5,agg cs6]])∧
 ∀m23 k23 vs23,Up k15 k23→I23 m23 k23 vs23→∃n17,∃A18 l18 c18,∃cs19,Sy.RowC cs19∧some [int .i64 n17,tuple #[slice A18 l18 c18,agg cs19]]=some vs23∧
 Br (decide ((n17:Int)<(l5:Nat))) ((decide ((0:Int)≤n17∧(n17:Int)<(l18:Nat)))=true∧
 ((decide ((0:Int)≤n17∧(n17:Int)<(l18:Nat)))=true∧
 (∃A20 l20 c20,Sy.ReadIn cs19 (Int.toNat n17*8+0) 1 (slice A20 l20 c20)∧
 Cl k23 58 #[slice A20 l20 c20] fun k25 r24=>∃A21 l21 c21,some (slice A21 l21 c21)=some r24∧
 (decide ((0:Int)≤n17∧(n17:Int)<(l18:Nat)))=true∧
 ((decide ((0:Int)≤n17∧(n17:Int)<(l18:Nat)))=true∧
 (Ix n17 l18∧∀cs22:Array Value,cs22=Sy.over cs19 (Int.toNat n17*8+0) ([slice A21 l21 c21])→
 (decide ((0:Int)≤n17∧(n17:Int)<(l18:Nat)))=true∧
 ((decide ((0:Int)≤n17∧(n17:Int)<(l18:Nat)))=true∧
 (∃A23 l23 c23,Sy.ReadIn cs22 (Int.toNat n17*8+1) 1 (slice A23 l23 c23)∧
 Cl k25 58 #[slice A23 l23 c23] fun k27 r26=>∃A24 l24 c24,some (slice A24 l24 c24)=some r26∧
 (decide ((0:Int)≤n17∧(n17:Int)<(l18:Nat)))=true∧
 ((decide ((0:Int)≤n17∧(n17:Int)<(l18:Nat)))=true∧
 (Ix n17 l18∧∀cs25:Array Value,cs25=Sy.over cs22 (Int.toNat n17*8+1) ([slice A24 l24 c24])→
 ∀k28,Up k27 k28→∃m,m<m23∧I23 m k28 [int .i64 (wrap .i64 (n17+1)),tuple #[slice A18 l18 c18,agg cs25]]))))))))) (∀k29,Up k23 k29→Sy.RowAt k29 A18 cs19→
 ∀k30,Up k29 k30→Sy.RowAt k30 A10 cs13→
 ∀k31,Up k30 k31→Sy.RowAt k31 A15 cs16→
 Cl k31 26 #[S3 A18 l18 c18 A10 l10 c10 A15 l15 c15] fun k33 r32=>Gi r32 fun n20=>
 Br ((n20:Int) != 0) (Rt R k33 (tuple #[Z3,int .i64 n20])) (Rt R k33 (tuple #[S3 A18 l18 c18 A10 l10 c10 A15 l15 c15,int .i64 0]))))))))))))))))))) :
  CallsG Tryz.prog 22 #[slice A0 l0 c0,slice A1 l1 c1,agg cs2,agg cs3] k R:=
  qX { opq:=[40],loops:=[(0,[.tmp 33 false [.int .i64]]),(2,[.tmp 53 false [.int .i64],.rw 13 40 3,.rb 3 1 76 10]),(4,[.tmp 67 false [.int .i64],.rw 13 40 3,.rb 3 1 76 10]),(6,[.tmp 17 false [.int .i64],.rb 3 2 126 5]),(8,[.tmp 134 false [.int .i64],.rb 3 0 79 8])],adopt:=[56,58] } [.one (.var 0),.one (.var 1),.agg [.seg 2 3],.agg [.seg 3 3]] [slice A0 l0 c0,slice A1 l1 c1,agg cs2,agg cs3] [.slice,.slice,.seg 3,.seg 3] ⟨qS,qS,⟨cs2,rfl,hcs2⟩,⟨cs3,rfl,hcs3⟩,trivial⟩ h
end Go.Proofs.YtebaclefnpipfaaGreat

namespace Go.Proofs.YtebaclefnpipfaaGreat
open IntKind (wrap)
open Go.RowKit
open Value (agg slice int bool tuple)
open Sy (Up Sees CallsG Seg execFn_use)
set_option maxRecDepth 100000
variable {k:World}{R:World→Value→Prop}{n0 n1 n2 n3 n4 n5:Int}{cs0 cs1 cs2 cs3:Array Value}{A3 A5:Option Addr}{c3 c5 l3 l5 p4:Nat}
theorem aSt 
 (h:Cl k 53 #[agg #[int .i64 n0,int .i64 n1]] fun k1 r0=>Gt 3 r0 fun cs2=>
 Rt R k1 (agg cs2)) :
  CallsG Tryz.prog 19 #[int .i64 n0,int .i64 n1] k R:=
  qY { opq:=[40] } h
theorem aKn 
 (h:Cl k 8 #[int .i64 100] fun k1 r0=>Gt 3 r0 fun cs2=>
 Cl k1 8 #[int .i64 (wrap .i64 (Int.tmod n0 4))] fun k3 r2=>Gt 3 r2 fun cs3=>
 Cl k3 8 #[int .i64 150] fun k5 r4=>Gt 3 r4 fun cs4=>
 Cl k5 8 #[int .i64 (wrap .i64 ((wrap .i64 (Int.tmod n0 4))+(wrap .i64 (Int.tmod n1 4))))] fun k7 r6=>Gt 3 r6 fun cs5=>
 ∀p6 k8,Up k7 k8→Sy.Blk k8 p6 83 (cs2.toList++(cs3.toList++(cs4.toList++(cs5.toList++([]))))).toArray→
 Rt R k8 (slice (some ⟨p6,0,none⟩) 2 2)) :
  CallsG Tryz.prog 21 #[int .u8 n0,int .u8 n1] k R:=
  qY { opq:=[40] } h
theorem aPp 
 (h:Cl k 21 #[int .u8 (wrap .u8 (BitVec.toNat (BitVec.ofInt (IntKind.bits .u8) n2 ||| BitVec.ofInt (IntKind.bits .u8) 1))),int .u8 n3] fun k1 r0=>∃A6 l6 c6,some (slice A6 l6 c6)=some r0∧
 Cl k1 21 #[int .u8 0,int .u8 n4] fun k3 r2=>∃A7 l7 c7,some (slice A7 l7 c7)=some r2∧
 Cl k3 8 #[int .i64 4] fun k5 r4=>Gt 3 r4 fun cs8=>
 Cl k5 8 #[int .i64 40] fun k7 r6=>Gt 3 r6 fun cs9=>
 Cl k7 21 #[int .u8 (wrap .u8 (BitVec.toNat (BitVec.ofInt (IntKind.bits .u8) n4 ||| BitVec.ofInt (IntKind.bits .u8) 1))),int .u8 n5] fun k9 r8=>∃A10 l10 c10,some (slice A10 l10 c10)=some r8∧
 Cl k9 21 #[int .u8 0,int .u8 n2] fun k11 r10=>∃A11 l11 c11,some (slice A11 l11 c11)=some r10∧
 Cl k11 8 #[int .i64 3] fun k13 r12=>Gt 3 r12 fun cs12=>
 Cl k13 8 #[int .i64 30] fun k15 r14=>Gt 3 r14 fun cs13=>
 Cl k15 8 #[int .i64 8] fun k17 r16=>Gt 3 r16 fun cs14=>
 Cl k17 8 #[int .i64 4] fun k19 r18=>Gt 3 r18 fun cs15=>
 Cl k19 8 #[int .i64 6] fun k21 r20=>Gt 3 r20 fun cs16=>
 Cl k21 8 #[int .i64 3] fun k23 r22=>Gt 3 r22 fun cs17=>
 Cl k23 8 #[int .i64 4] fun k25 r24=>Gt 3 r24 fun cs18=>
 Cl k25 8 #[int .i64 1] fun k27 r26=>Gt 3 r26 fun cs19=>
 ∀p20 k28,Up k27 k28→Sy.Blk k28 p20 79 ((slice A6 l6 c6) :: ((slice A7 l7 c7) :: (cs8.toList++(cs9.toList++((slice A10 l10 c10) :: ((slice A11 l11 c11) :: (cs12.toList++(cs13.toList++([]))))))))).toArray→
 ∀p21 k29,Up k28 k29→Sy.Blk k29 p21 86 ((int .i64 0) :: ((int .i64 (wrap .i64 (1+(wrap .i64 (Int.tmod n0 3))))) :: (cs14.toList++(cs15.toList++((int .i64 1) :: ((int .i64 (wrap .i64 (1+(wrap .i64 (Int.tmod n1 3))))) :: (cs16.toList++(cs17.toList++([]))))))))).toArray→
 Cl k29 22 #[slice (some ⟨p20,0,none⟩) 2 2,slice (some ⟨p21,0,none⟩) 2 2,agg cs18,agg cs19] fun k31 r30=>∃A22 l22 c22,∃A23 l23 c23,∃A24 l24 c24,∃n25,some (tuple #[S3 A22 l22 c22 A23 l23 c23 A24 l24 c24,int .i64 n25])=some r30∧
 Rt R k31 (tuple #[S3 A22 l22 c22 A23 l23 c23 A24 l24 c24,int .i64 n25])) :
  CallsG Tryz.prog 5 #[agg #[int .u8 n0,int .u8 n1],agg #[int .u8 n2,int .u8 n3,int .u8 n4,int .u8 n5]] k R:=
  qY { opq:=[40] } h
theorem aKo 
 (h:Cl k 8 #[int .i64 (wrap .i64 (170-(wrap .i64 (Int.tmod n0 16))))] fun k1 r0=>Gt 3 r0 fun cs2=>
 Cl k1 8 #[int .i64 (wrap .i64 (170+(wrap .i64 (Int.tmod n0 16))))] fun k3 r2=>Gt 3 r2 fun cs3=>
 Cl k3 8 #[int .i64 (wrap .i64 (20-(wrap .i64 (Int.tmod n1 8))))] fun k5 r4=>Gt 3 r4 fun cs4=>
 Cl k5 8 #[int .i64 (wrap .i64 (20+(wrap .i64 (Int.tmod n1 8))))] fun k7 r6=>Gt 3 r6 fun cs5=>
 Rt R k7 (Rg cs2 cs3 cs4 cs5)) :
  CallsG Tryz.prog 7 #[agg #[int .u8 n0,int .u8 n1]] k R:=
  qY { opq:=[40] } h
theorem aKl (hcs0:Seg 3 cs0) (hcs1:Seg 3 cs1) (hB4:Sy.Blk k p4 25 #[slice A3 l3 c3])
 (h:Tt∧(Br (decide (((l3:Nat):Int) > 0)) (Tt∧((decide (((l3:Nat):Int)≠0))=true∧
 (Ad A3∧((0:Int)≤(Int.tmod n2 (l3:Nat))∧((Int.tmod n2 (l3:Nat)):Int)<(l3:Nat))∧
 ∃n5,Sy.ReadAt k.cell? A3 (Int.toNat (Int.tmod n2 (l3:Nat))*1+0) 1 (int .u8 n5)∧
 Cl k 30 #[agg cs1,agg cs0] fun k1 r0=>Gt 3 r0 fun cs6=>
 Cl k1 19 #[int .i64 (wrap .i64 n5),int .i64 255] fun k3 r2=>Gt 3 r2 fun cs7=>
 Cl k3 31 #[agg cs6,agg cs7] fun k5 r4=>Gt 3 r4 fun cs8=>
 Cl k5 18 #[agg cs0,agg cs8] fun k7 r6=>Gt 3 r6 fun cs9=>
 Rt R k7 (agg cs9)))) (Cl k 30 #[agg cs1,agg cs0] fun k10 r9=>Gt 3 r9 fun cs5=>
 Cl k10 19 #[int .i64 0,int .i64 255] fun k12 r11=>Gt 3 r11 fun cs6=>
 Cl k12 31 #[agg cs5,agg cs6] fun k14 r13=>Gt 3 r13 fun cs7=>
 Cl k14 18 #[agg cs0,agg cs7] fun k16 r15=>Gt 3 r15 fun cs8=>
 Rt R k16 (agg cs8)))) :
  CallsG Tryz.prog 29 #[agg (cs0.toList++(cs1.toList++([]))).toArray,int .i64 n2,Value.pointer (some ⟨p4,0,none⟩)] k R:=
  Sy.execFn_use_heap (cfg:={ opq:=[40] }) (args:=[.agg [.seg 0 3,.seg 1 3],.one (.var 2),.one (.ptr 0 0)]) (vals:=[agg cs0,agg cs1,int .i64 n2,slice A3 l3 c3,(Value.pointer (some ⟨p4,0,none⟩))]) (kinds:=[.seg 3,.seg 3,.int .i64,.slice,.any]) (blks:=[p4]) (heap:=[{ ty:=25,cells:=[.var 3],pub:=true,pv:=4 }]) ox ⟨⟨cs0,rfl,hcs0⟩,⟨cs1,rfl,hcs1⟩,⟨_,rfl⟩,qS,⟨rfl,rfl⟩,trivial⟩ ox ⟨⟨rfl,⟨[slice A3 l3 c3],by kernel_rfl,hB4⟩,by kernel_rfl⟩,trivial⟩ ox h
theorem aPn (hcs0:Seg 3 cs0) (hcs1:Seg 3 cs1) (hcs2:Seg 3 cs2) (hcs3:Seg 3 cs3)
 (h:∀p6 k0,Up k k0→Sy.Blk k0 p6 25 #[slice A5 l5 c5]→
 ∃I1:Nat→World→List Value→Prop,(∃m1,∀k1,Up k0 k1→I1 m1 k1 [int .i64 0,tuple #[slice none 0 0,agg #[]],tuple #[slice none 0 0,agg #[]]])∧
 ∀m1 k1 vs1,Up k0 k1→I1 m1 k1 vs1→∃n7,∃A8 l8 c8,∃cs9,Sy.RowC cs9∧∃A10 l10 c10,∃cs11,Sy.RowC cs11∧some [int .i64 n7,tuple #[slice A8 l8 c8,agg cs9],tuple #[slice A10 l10 c10,agg cs11]]=some vs1∧
 Br (decide ((n7:Int)<n4)) (Cl k1 29 #[agg (cs0.toList++(cs1.toList++([]))).toArray,int .i64 (wrap .i64 (2*n7)),(Value.pointer (some ⟨p6,0,none⟩))] fun k3 r2=>Gt 3 r2 fun cs12=>
 (cs12.toList++([]):List Value).length=Int.toNat 1*3∧(0:Int)≤1∧Sy.sizeOk 56 (l8+Int.toNat 1)∧∀(A13:Option Addr) (l13 c13:Nat) (cs14:Array Value),l13=l8+Int.toNat 1→cs14=cs9++(cs12.toList++([]):List Value).toArray→l13≤c13→
 Cl k3 29 #[agg (cs2.toList++(cs3.toList++([]))).toArray,int .i64 (wrap .i64 ((wrap .i64 (2*n7))+1)),(Value.pointer (some ⟨p6,0,none⟩))] fun k5 r4=>Gt 3 r4 fun cs15=>
 (cs15.toList++([]):List Value).length=Int.toNat 1*3∧(0:Int)≤1∧Sy.sizeOk 56 (l10+Int.toNat 1)∧∀(A16:Option Addr) (l16 c16:Nat) (cs17:Array Value),l16=l10+Int.toNat 1→cs17=cs11++(cs15.toList++([]):List Value).toArray→l16≤c16→
 ∀k6,Up k5 k6→∃m,m<m1∧I1 m k6 [int .i64 (wrap .i64 (n7+1)),tuple #[slice A13 l13 c13,agg cs14],tuple #[slice A16 l16 c16,agg cs17]]) (∀k7,Up k1 k7→Sy.RowAt k7 A8 cs9→
 ∀k8,Up k7 k8→Sy.RowAt k8 A10 cs11→
 Rt R k8 (tuple #[slice A8 l8 c8,slice A10 l10 c10]))) :
  CallsG Tryz.prog 11 #[Rg cs0 cs1 cs2 cs3,int .i64 n4,slice A5 l5 c5] k R:=
  qX { opq:=[40],loops:=[(0,[.tmp 12 false [.int .i64],.rw 6 40 3,.rw 7 40 3])] } [.agg [.seg 0 3,.seg 1 3,.seg 2 3,.seg 3 3],.one (.var 4),.one (.var 5)] [agg cs0,agg cs1,agg cs2,agg cs3,int .i64 n4,slice A5 l5 c5] [.seg 3,.seg 3,.seg 3,.seg 3,.int .i64,.slice] ⟨⟨cs0,rfl,hcs0⟩,⟨cs1,rfl,hcs1⟩,⟨cs2,rfl,hcs2⟩,⟨cs3,rfl,hcs3⟩,⟨_,rfl⟩,qS,trivial⟩ h
theorem aKi
 (h:Cl k 5 #[agg #[int .u8 0,int .u8 0],agg #[int .u8 0,int .u8 0,int .u8 0,int .u8 0]] fun k1 r0=>∃A0 l0 c0,∃A1 l1 c1,∃A2 l2 c2,∃n3,some (tuple #[S3 A0 l0 c0 A1 l1 c1 A2 l2 c2,int .i64 n3])=some r0∧
 Cl k1 8 #[int .i64 20] fun k3 r2=>Gt 3 r2 fun cs4=>
 Cl k3 10 #[S3 A0 l0 c0 A1 l1 c1 A2 l2 c2,agg cs4] fun k5 r4=>∃A5 l5 c5,∃A6 l6 c6,∃A7 l7 c7,∃n8,some (tuple #[S3 A5 l5 c5 A6 l6 c6 A7 l7 c7,int .i64 n8])=some r4∧
 Cl k5 8 #[int .i64 180] fun k7 r6=>Gt 3 r6 fun cs9=>
 Cl k7 8 #[int .i64 20] fun k9 r8=>Gt 3 r8 fun cs10=>
 Cl k9 23 #[S3 A0 l0 c0 A1 l1 c1 A2 l2 c2,S3 A5 l5 c5 A6 l6 c6 A7 l7 c7,agg cs9,agg cs10] fun k11 r10=>∃A11 l11 c11,∃A12 l12 c12,∃A13 l13 c13,∃n14,some (tuple #[S3 A11 l11 c11 A12 l12 c12 A13 l13 c13,int .i64 n14])=some r10∧
 Br ((n3:Int) == 0) (Br ((n8:Int) == 0) (Br ((n14:Int) == 0) (Tt∧(Br (((l11:Nat):Int) == 2) (Ad A11∧((0:Int)≤0∧(0:Int)<(l11:Nat))∧
 ∃cs15,Seg 3 cs15∧Sy.ReadAt k11.cell? A11 (Int.toNat 0*3+0) 3 (agg cs15)∧
 Cl k11 24 #[agg cs15] fun k13 r12=>∃s16,some (Value.string s16)=some r12∧
 Rt R k13 (bool (ByteArray.toList s16 == ByteArray.toList ⟨#[49,48,48]⟩))) (Rt R k11 (bool false)))) (Rt R k11 (bool false))) (Rt R k11 (bool false))) (Rt R k11 (bool false))) :
  CallsG Tryz.prog 6 #[] k R:=
  qX { opq:=[40] } [] [] [] trivial h
end Go.Proofs.YtebaclefnpipfaaGreat

namespace Go.Proofs.YtebaclefnpipfaaGreat
open IntKind (wrap)
open Go.RowKit
open Value (agg slice int bool tuple)
open Sy (Up Sees CallsG Seg execFn_use)
set_option maxRecDepth 100000
variable {k:World}{R:World→Value→Prop}{n0 n1 n2 n3 n4 n5 n6 n7:Int}{A8:Option Addr}{c8 l8:Nat}
theorem aSu 
 (h:Cl k 5 #[agg #[int .u8 n0,int .u8 n1],agg #[int .u8 n2,int .u8 n3,int .u8 n4,int .u8 n5]] fun k1 r0=>∃A9 l9 c9,∃A10 l10 c10,∃A11 l11 c11,∃n12,some (tuple #[S3 A9 l9 c9 A10 l10 c10 A11 l11 c11,int .i64 n12])=some r0∧
 Br ((n12:Int) != 0) (Br ((n12:Int) == 0) (Cl k1 6 #[] fun k3 r2=>Gb r2 fun b13=>
 Rt R k3 (bool b13)) (Rt R k1 (bool false))) (Tt∧(Br (decide (((l8:Nat):Int) > 200)) (Br ((n12:Int) == 0) (Cl k1 6 #[] fun k7 r6=>Gb r6 fun b13=>
 Rt R k7 (bool b13)) (Rt R k1 (bool false))) (Cl k1 7 #[agg #[int .u8 n6,int .u8 n7]] fun k11 r10=>∃cs13,Seg 3 cs13∧∃cs14,Seg 3 cs14∧∃cs15,Seg 3 cs15∧∃cs16,Seg 3 cs16∧some (Rg cs13 cs14 cs15 cs16)=some r10∧
 Cl k11 8 #[int .i64 20] fun k13 r12=>Gt 3 r12 fun cs17=>
 Cl k13 8 #[int .i64 30] fun k15 r14=>Gt 3 r14 fun cs18=>
 Cl k15 9 #[S3 A9 l9 c9 A10 l10 c10 A11 l11 c11,agg cs17,agg cs18] fun k17 r16=>∃A19 l19 c19,∃A20 l20 c20,∃A21 l21 c21,∃A22 l22 c22,∃A23 l23 c23,∃A24 l24 c24,∃n25,some (tuple #[S6 A19 l19 c19 A20 l20 c20 A21 l21 c21 A22 l22 c22 A23 l23 c23 A24 l24 c24,int .i64 n25])=some r16∧
 Cl k17 17 #[S3 A9 l9 c9 A10 l10 c10 A11 l11 c11,S6 A19 l19 c19 A20 l20 c20 A21 l21 c21 A22 l22 c22 A23 l23 c23 A24 l24 c24,Rg cs13 cs14 cs15 cs16,int .i64 24] fun k19 r18=>∃n26,∃n27,∃n28,∃A29 l29 c29,∃A30 l30 c30,∃A31 l31 c31,∃A32 l32 c32,∃A33 l33 c33,∃A34 l34 c34,∃n35,some (tuple #[agg #[int .i64 n26,int .i64 n27,int .i64 n28,slice A29 l29 c29,slice A30 l30 c30,slice A31 l31 c31,slice A32 l32 c32,slice A33 l33 c33,slice A34 l34 c34],int .i64 n35])=some r18∧
 ∃J20:World→List Value→Prop,(Br ((n25:Int) != 0) (∀k20,Up k19 k20→J20 k20 [bool true]) (Br ((n35:Int) != 0) (Br ((n35:Int) != 5) (∀k21,Up k19 k21→J20 k21 [bool ((n35:Int) != 61)]) (∀k22,Up k19 k22→J20 k22 [bool false])) (∀k23,Up k19 k23→J20 k23 [bool false])))∧
 ∀k24 vs24,Up k19 k24→J20 k24 vs24→∃b36,some [bool b36]=some vs24∧
 Br b36 (Rt R k24 (bool false)) (Br ((n35:Int) == 5) (Cl k24 6 #[] fun k27 r26=>Gb r26 fun b37=>
 Rt R k27 (bool b37)) (Tt∧(Cl k24 8 #[int .i64 20] fun k30 r29=>Gt 3 r29 fun cs37=>
 Cl k30 19 #[int .i64 (Int.tmod (l8:Nat) 11),int .i64 1] fun k32 r31=>Gt 3 r31 fun cs38=>
 Cl k32 18 #[agg cs37,agg cs38] fun k34 r33=>Gt 3 r33 fun cs39=>
 Cl k34 10 #[S3 A9 l9 c9 A10 l10 c10 A11 l11 c11,agg cs39] fun k36 r35=>∃A40 l40 c40,∃A41 l41 c41,∃A42 l42 c42,∃n43,some (tuple #[S3 A40 l40 c40 A41 l41 c41 A42 l42 c42,int .i64 n43])=some r35∧
 Cl k36 11 #[Rg cs13 cs14 cs15 cs16,int .i64 n26,slice A8 l8 c8] fun k38 r37=>∃A44 l44 c44,∃A45 l45 c45,some (tuple #[slice A44 l44 c44,slice A45 l45 c45])=some r37∧
 Cl k38 12 #[S3 A9 l9 c9 A10 l10 c10 A11 l11 c11,S3 A40 l40 c40 A41 l41 c41 A42 l42 c42,slice A44 l44 c44,slice A45 l45 c45] fun k40 r39=>∃A46 l46 c46,∃A47 l47 c47,∃A48 l48 c48,∃n49,some (tuple #[S3 A46 l46 c46 A47 l47 c47 A48 l48 c48,int .i64 n49])=some r39∧
 Br ((n43:Int) != 0) (Rt R k40 (bool false)) (Br ((n49:Int) != 0) (Rt R k40 (bool false)) (Cl k40 14 #[S6 A29 l29 c29 A30 l30 c30 A31 l31 c31 A32 l32 c32 A33 l33 c33 A34 l34 c34,S3 A46 l46 c46 A47 l47 c47 A48 l48 c48] fun k44 r43=>Gb r43 fun b50=>
 Br (!b50) (Rt R k44 (bool false)) (Tt∧(∃I46:Nat→World→List Value→Prop,(∃m46,∀k46,Up k44 k46→I46 m46 k46 [int .i64 0])∧
 ∀m46 k46 vs46,Up k44 k46→I46 m46 k46 vs46→∃n51,some [int .i64 n51]=some vs46∧
 Br (decide ((n51:Int)<(l10:Nat))) (Ad A10∧Ix n51 l10∧
 ∃n52,∃cs53,Seg 3 cs53∧∃cs54,Seg 3 cs54∧∃cs55,Seg 3 cs55∧Sy.ReadAt k46.cell? A10 (Int.toNat n51*10+0) 10 (agg ((int .i64 n52) :: (cs53.toList++(cs54.toList++(cs55.toList++([]))))).toArray)∧
 Ad A9∧Ix n52 l9∧
 ∃A56 l56 c56,∃A57 l57 c57,∃cs58,Seg 3 cs58∧∃cs59,Seg 3 cs59∧Sy.ReadAt k46.cell? A9 (Int.toNat n52*8+0) 8 (agg ((slice A56 l56 c56) :: ((slice A57 l57 c57) :: (cs58.toList++(cs59.toList++([]))))).toArray)∧
 El k46 A47 n51 l47 3 fun cs60=>
 Cl k46 20 #[agg cs60,agg cs58] fun k48 r47=>Gi r47 fun n61=>
 Br (decide ((n61:Int)<0)) (Rt R k48 (bool false)) (Br ((n35:Int) == 0) (El k48 A48 n51 l48 3 fun cs62=>
 Cl k48 20 #[agg cs62,agg cs59] fun k51 r50=>Gi r50 fun n63=>
 Br (decide ((n63:Int) > 0)) (Rt R k51 (bool false)) (∀k53,Up k51 k53→∃m,m<m46∧I46 m k53 [int .i64 (wrap .i64 (n51+1))])) (∀k54,Up k48 k54→∃m,m<m46∧I46 m k54 [int .i64 (wrap .i64 (n51+1))]))) (Br ((n26:Int) == 0) (Rt R k46 (bool false)) (Br (decide ((n27:Int)<0)) (Rt R k46 (bool false)) (Tt∧(Br (decide ((n27:Int) ≥ (l10:Nat))) (Rt R k46 (bool false)) (Cl k46 11 #[Rg cs13 cs13 cs15 cs15,int .i64 (wrap .i64 (n26-1)),slice none 0 0] fun k59 r58=>∃A52 l52 c52,∃A53 l53 c53,some (tuple #[slice A52 l52 c52,slice A53 l53 c53])=some r58∧
 Cl k59 8 #[int .i64 20] fun k61 r60=>Gt 3 r60 fun cs54=>
 Cl k61 10 #[S3 A9 l9 c9 A10 l10 c10 A11 l11 c11,agg cs54] fun k63 r62=>∃A55 l55 c55,∃A56 l56 c56,∃A57 l57 c57,∃n58,some (tuple #[S3 A55 l55 c55 A56 l56 c56 A57 l57 c57,int .i64 n58])=some r62∧
 ∀p59 k64,Up k63 k64→Sy.Blk k64 p59 47 ((int .i64 (wrap .i64 (n26-1))) :: (cs13.toList++(cs14.toList++(cs15.toList++(cs16.toList++([])))))).toArray→
 Cl k64 13 #[S3 A9 l9 c9 A10 l10 c10 A11 l11 c11,S6 A19 l19 c19 A20 l20 c20 A21 l21 c21 A22 l22 c22 A23 l23 c23 A24 l24 c24,slice (some ⟨p59,0,none⟩) 1 1] fun k66 r65=>∃A60 l60 c60,∃A61 l61 c61,∃A62 l62 c62,∃A63 l63 c63,∃A64 l64 c64,∃A65 l65 c65,∃n66,some (tuple #[S6 A60 l60 c60 A61 l61 c61 A62 l62 c62 A63 l63 c63 A64 l64 c64 A65 l65 c65,int .i64 n66])=some r65∧
 Cl k66 12 #[S3 A9 l9 c9 A10 l10 c10 A11 l11 c11,S3 A55 l55 c55 A56 l56 c56 A57 l57 c57,slice A52 l52 c52,slice A53 l53 c53] fun k68 r67=>∃A67 l67 c67,∃A68 l68 c68,∃A69 l69 c69,∃n70,some (tuple #[S3 A67 l67 c67 A68 l68 c68 A69 l69 c69,int .i64 n70])=some r67∧
 Br ((n58:Int) != 0) (Rt R k68 (bool false)) (Br ((n66:Int) != 0) (Rt R k68 (bool false)) (Br ((n70:Int) != 0) (Rt R k68 (bool false)) (Cl k68 14 #[S6 A60 l60 c60 A61 l61 c61 A62 l62 c62 A63 l63 c63 A64 l64 c64 A65 l65 c65,S3 A67 l67 c67 A68 l68 c68 A69 l69 c69] fun k73 r72=>Gb r72 fun b71=>
 Br (!b71) (Rt R k73 (bool false)) (El k73 A61 n27 l61 3 fun cs72=>
 Ad A10∧Ix n27 l10∧
 Ad A10∧Ix n27 l10∧
 ∃n73,Sy.ReadAt k73.cell? A10 (Int.toNat n27*10+0) 1 (int .i64 n73)∧
 Ad A9∧Ix n73 l9∧
 Ad A9∧Ix n73 l9∧
 ∃cs74,Seg 3 cs74∧Sy.ReadAt k73.cell? A9 (Int.toNat n73*8+2) 3 (agg cs74)∧
 Cl k73 20 #[agg cs72,agg cs74] fun k76 r75=>Gi r75 fun n75=>
 Br (decide ((n75:Int)<0)) (Cl k76 6 #[] fun k78 r77=>Gb r77 fun b76=>
 Rt R k78 (bool b76)) (Rt R k76 (bool false)))))))))))))))))))))) :
  CallsG Tryz.prog 4 #[agg #[int .u8 n0,int .u8 n1],agg #[int .u8 n2,int .u8 n3,int .u8 n4,int .u8 n5],agg #[int .u8 n6,int .u8 n7],slice A8 l8 c8] k R:=
  qY { opq:=[40],loops:=[(0,[.tmp 124 false [.int .i64]])],joins:=[(7,[.tmp 77 false [.bool]])] } h
