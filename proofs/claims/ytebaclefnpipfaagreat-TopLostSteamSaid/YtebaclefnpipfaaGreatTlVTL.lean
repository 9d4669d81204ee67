/- Several texts in one. (Printed by prep.py.) -/
import Derived.Test.YtebaclefnpipfaaGreatTlVS
namespace Go.Proofs.YtebaclefnpipfaaGreat
open IntKind (wrap)
open Go.RowKit
open Value (agg slice int bool tuple)
open Sy (Up Sees CallsG Seg execFn_use)
set_option maxRecDepth 100000
variable {k:World}{R:World→Value→Prop}{A0 A1:Option Addr}{c0 c1 l0 l1:Nat}{cs2 cs3:Array Value}
theorem aLx (hcs2:Seg 3 cs2) (hcs3:Seg 3 cs3)
 (h:Tt∧(Br (decide (((l1:Nat):Int)<1)) (Rt R k (tuple #[Z3,int .i64 4])) (Tt∧(Br (decide (((l1:Nat):Int) > 24)) (Rt R k (tuple #[Z3,int .i64 4])) (Tt∧(∃I2:Nat→World→List Value→Prop,(∃m2,∀k2,Up k k2→I2 m2 k2 [int .i64 0])∧
 ∀m2 k2 vs2,Up k k2→I2 m2 k2 vs2→∃n4,some [int .i64 n4]=some vs2∧
 Br (decide ((n4:Int)<(l1:Nat))) (Ad A1∧Ix n4 l1∧
 ∃n5,∃n6,∃cs7,Seg 3 cs7∧∃cs8,Seg 3 cs8∧Sy.ReadAt k2.cell? A1 (Int.toNat n4*8+0) 8 (agg ((int .i64 n5) :: ((int .i64 n6) :: (cs7.toList++(cs8.toList++([]))))).toArray)∧
 Br (decide ((n6:Int)<1)) (Rt R k2 (tuple #[Z3,int .i64 1])) (Cl k2 55 #[agg cs8] fun k5 r4=>Gb r4 fun b9=>
 Br (!b9) (Rt R k5 (tuple #[Z3,int .i64 1])) (∀k7,Up k5 k7→∃m,m<m2∧I2 m k7 [int .i64 (wrap .i64 (n4+1))]))) (∀k8,Up k2 k8→Sy.CallsR Tryz.prog 56 #[slice A0 l0 c0] k8 79 8 fun k9 r8=>∃A5 l5 c5,∃cs6,r8=tuple #[slice A5 l5 c5,agg cs6]∧
 Tt∧(∃I10:Nat→World→List Value→Prop,(∃m10,∀k10,Up k9 k10→I10 m10 k10 [int .i64 0,tuple #[slice none 0 0,agg #[]],tuple #[slice none 0 0,agg #[]]])∧
 ∀m10 k10 vs10,Up k9 k10→I10 m10 k10 vs10→∃n7,∃A8 l8 c8,∃cs9,Sy.RowC cs9∧∃A10 l10 c10,∃cs11,Sy.RowC cs11∧some [int .i64 n7,tuple #[slice A8 l8 c8,agg cs9],tuple #[slice A10 l10 c10,agg cs11]]=some vs10∧
 Br (decide ((n7:Int)<(l1:Nat))) (Ad A1∧Ix n7 l1∧
 ∃n12,∃n13,∃cs14,Seg 3 cs14∧∃cs15,Seg 3 cs15∧Sy.ReadAt k10.cell? A1 (Int.toNat n7*8+0) 8 (agg ((int .i64 n12) :: ((int .i64 n13) :: (cs14.toList++(cs15.toList++([]))))).toArray)∧
 Tt∧(Br (decide ((n13:Int) > (wrap .i64 (24-(l10:Nat))))) (Rt R k10 (tuple #[Z3,int .i64 4])) (∃I12:Nat→World→List Value→Prop,(∃m12,∀k12,Up k10 k12→I12 m12 k12 [int .i64 0,tuple #[slice A8 l8 c8,agg cs9],tuple #[slice A10 l10 c10,agg cs11]])∧
 ∀m12 k12 vs12,Up k10 k12→I12 m12 k12 vs12→∃n16,∃A17 l17 c17,∃cs18,Sy.RowC cs18∧∃A19 l19 c19,∃cs20,Sy.RowC cs20∧some [int .i64 n16,tuple #[slice A17 l17 c17,agg cs18],tuple #[slice A19 l19 c19,agg cs20]]=some vs12∧
 Br (decide ((n16:Int)<n13)) (((int .i64 n12) :: (cs14.toList++((bool false) :: ((slice none 0 0) :: ((slice none 0 0) :: ((bool false) :: ((slice none 0 0) :: ((slice none 0 0) :: ([])))))))):List Value).length=Int.toNat 1*10∧(0:Int)≤1∧Sy.sizeOk 176 (l19+Int.toNat 1)∧∀(A21:Option Addr) (l21 c21:Nat) (cs22:Array Value),l21=l19+Int.toNat 1→cs22=cs20++((int .i64 n12) :: (cs14.toList++((bool false) :: ((slice none 0 0) :: ((slice none 0 0) :: ((bool false) :: ((slice none 0 0) :: ((slice none 0 0) :: ([])))))))):List Value).toArray→l21≤c21→
 (cs15.toList++([]):List Value).length=Int.toNat 1*3∧(0:Int)≤1∧Sy.sizeOk 56 (l17+Int.toNat 1)∧∀(A23:Option Addr) (l23 c23:Nat) (cs24:Array Value),l23=l17+Int.toNat 1→cs24=cs18++(cs15.toList++([]):List Value).toArray→l23≤c23→
 ∀k13,Up k12 k13→∃m,m<m12∧I12 m k13 [int .i64 (wrap .i64 (n16+1)),tuple #[slice A23 l23 c23,agg cs24],tuple #[slice A21 l21 c21,agg cs22]]) (∀k14,Up k12 k14→∃m,m<m10∧I10 m k14 [int .i64 (wrap .i64 (n7+1)),tuple #[slice A17 l17 c17,agg cs18],tuple #[slice A19 l19 c19,agg cs20]])))) (Tt∧((decide ((0:Int)≤0∧(0:Int)<(l10:Nat)))=true∧
 ((decide ((0:Int)≤0∧(0:Int)<(l10:Nat)))=true∧
 (((0:Int)≤0∧(0:Int)<(l10:Nat))∧∀cs12:Array Value,cs12=Sy.over cs11 (Int.toNat 0*10+4) (cs2.toList++([]))→
 (decide ((0:Int)≤(wrap .i64 ((l10:Nat)-1))∧((wrap .i64 ((l10:Nat)-1)):Int)<(l10:Nat)))=true∧
 ((decide ((0:Int)≤(wrap .i64 ((l10:Nat)-1))∧((wrap .i64 ((l10:Nat)-1)):Int)<(l10:Nat)))=true∧
 (((0:Int)≤(wrap .i64 ((l10:Nat)-1))∧((wrap .i64 ((l10:Nat)-1)):Int)<(l10:Nat))∧∀cs13:Array Value,cs13=Sy.over cs12 (Int.toNat (wrap .i64 ((l10:Nat)-1))*10+7) (cs3.toList++([]))→
 ∃I15:Nat→World→List Value→Prop,(∃m15,∀k15,Up k10 k15→I15 m15 k15 [int .i64 1,tuple #[slice none 0 0,agg #[]]])∧
 ∀m15 k15 vs15,Up k10 k15→I15 m15 k15 vs15→∃n14,∃A15 l15 c15,∃cs16,Sy.RowC cs16∧some [int .i64 n14,tuple #[slice A15 l15 c15,agg cs16]]=some vs15∧
 Br (decide ((n14:Int)≤(wrap .i64 ((l10:Nat)-1)))) ((decide ((0:Int)≤(wrap .i64 (n14-1))∧((wrap .i64 (n14-1)):Int)<(l8:Nat)))=true∧
 (∃cs17,Seg 3 cs17∧Sy.ReadIn cs9 (Int.toNat (wrap .i64 (n14-1))*3+0) 3 (agg cs17)∧
 (decide ((0:Int)≤n14∧(n14:Int)<(l8:Nat)))=true∧
 (∃cs18,Seg 3 cs18∧Sy.ReadIn cs9 (Int.toNat n14*3+0) 3 (agg cs18)∧
 Cl k15 31 #[agg cs17,agg cs18] fun k17 r16=>Gt 3 r16 fun cs19=>
 Cl k17 18 #[agg cs17,agg cs18] fun k19 r18=>Gt 3 r18 fun cs20=>
 Cl k19 57 #[agg cs19,agg cs20] fun k21 r20=>Gt 3 r20 fun cs21=>
 ((int .i64 (wrap .i64 (n14-1))) :: ((int .i64 n14) :: (cs21.toList++([]))):List Value).length=Int.toNat 1*5∧(0:Int)≤1∧Sy.sizeOk 72 (l15+Int.toNat 1)∧∀(A22:Option Addr) (l22 c22:Nat) (cs23:Array Value),l22=l15+Int.toNat 1→cs23=cs16++((int .i64 (wrap .i64 (n14-1))) :: ((int .i64 n14) :: (cs21.toList++([]))):List Value).toArray→l22≤c22→
 ∀k22,Up k21 k22→∃m,m<m15∧I15 m k22 [int .i64 (wrap .i64 (n14+1)),tuple #[slice A22 l22 c22,agg cs23]]))) (Tt∧(∃I23:Nat→World→List Value→Prop,(∃m23,∀k23,Up k15 k23→I23 m23 k23 [int .i64 0,tuple #[slice A5 l5 c5,agg cs6]])∧
 ∀m23 k23 vs23,Up k15 k23→I23 m23 k23 vs23→∃n17,∃A18 l18 c18,∃cs19,Sy.RowC cs19∧some [int .i64 n17,tuple #[slice A18 l18 c18,agg cs19]]=some vs23∧
 Br (decide ((n17:Int)<(l5:Nat))) ((decide ((0:Int)≤n17∧(n17:Int)<(l18:Nat)))=true∧
 ((decide ((0:Int)≤n17∧(n17:Int)<(l18:Nat)))=true∧
 (∃A20 l20 c20,Sy.ReadIn cs19 (Int.toNat n17*8+0) 1 (slice A20 l20 c20)∧
 Cl k23 58 #[slice A20 l20 c20] fun k25 r24=>∃A21 l21 c21,some (slice A21 l21 c21)=some r24∧
 (decide ((0:Int)≤n17∧(n17:Int)<(l18:Nat)))=true∧
 ((decide ((0:Int)≤n17∧(n17:Int)<(l18:Nat)))=true∧
 (Ix n17 l18∧∀cs22:Array Value,cs22=Sy.over cs19 (Int.toNat n17*8+0) ([slice A21 l21 c21])→
 (decide ((0:Int)≤n17∧(n17:Int)<(l18:Nat)))=true∧
 ((decide ((0:Int)≤n17∧(n17:Int)<(l18:Nat)))=true∧
 (∃A23 l23 c23,Sy.ReadIn cs22 (Int.toNat n17*8+1) 1 (slice A23 l23 c23)∧
 Cl k25 58 #[slice A23 l23 c23] fun k27 r26=>∃A24 l24 c24,some (slice A24 l24 c24)=some r26∧
 (decide ((0:Int)≤n17∧(n17:Int)<(l18:Nat)))=true∧
 ((decide ((0:Int)≤n17∧(n17:Int)<(l18:Nat)))=true∧
 (Ix n17 l18∧∀cs25:Array Value,cs25=Sy.over cs22 (Int.toNat n17*8+1) ([slice A24 l24 c24])→
 ∀k28,Up k27 k28→∃m,m<m23∧I23 m k28 [int .i64 (wrap .i64 (n17+1)),tuple #[slice A18 l18 c18,agg cs25]]))))))))) (∀k29,Up k23 k29→Sy.RowAt k29 A18 cs19→
 ∀k30,Up k29 k30→Sy.RowAt k30 A10 cs13→
 ∀k31,Up k30 k31→Sy.RowAt k31 A15 cs16→
 Cl k31 26 #[S3 A18 l18 c18 A10 l10 c10 A15 l15 c15] fun k33 r32=>Gi r32 fun n20=>
 Br ((n20:Int) != 0) (Rt R k33 (tuple #[Z3,int .i64 n20])) (Rt R k33 (tuple #[S3 A18 l18 c18 A10 l10 c10 A15 l15 c15,int .i64 0]))))))))))))))))))) :
  CallsG Tryz.prog 22 #[slice A0 l0 c0,slice A1 l1 c1,agg cs2,agg cs3] k R:=
  qX { opq:=[40],loops:=[(0,[.tmp 33 false [.int .i64]]),(2,[.tmp 53 false [.int .i64],.rw 13 40 3,.rb 3 1 76 10]),(4,[.tmp 67 false [.int .i64],.rw 13 40 3,.rb 3 1 76 10]),(6,[.tmp 17 false [.int .i64],.rb 3 2 126 5]),(8,[.tmp 134 false [.int .i64],.rb 3 0 79 8])],adopt:=[56,58] } [.one (.var 0),.one (.var 1),.agg [.seg 2 3],.agg [.seg 3 3]] [slice A0 l0 c0,slice A1 l1 c1,agg cs2,agg cs3] [.slice,.slice,.seg 3,.seg 3] ⟨qS,qS,⟨cs2,rfl,hcs2⟩,⟨cs3,rfl,hcs3⟩,trivial⟩ h
end Go.Proofs.YtebaclefnpipfaaGreat

namespace Go.Proofs.YtebaclefnpipfaaGreat
open IntKind (wrap)
open Go.RowKit
open Value (agg slice int bool tuple)
open Sy (Up Sees CallsG Seg execFn_use)
set_option maxRecDepth 100000
variable {k:World}{R:World→Value→Prop}{n0 n1 n2 n3 n4 n5 n6:Int}{cs0 cs1 cs2 cs3:Array Value}{A0 A1 A2 A3 A4 A5:Option Addr}{c0 c1 c2 c3 c4 c5 l0 l1 l2 l3 l4 l5 p4:Nat}
theorem aSn 
 (h:Cl k 53 #[agg #[int .i64 n0,int .i64 n1]] fun k1 r0=>Gt 3 r0 fun cs2=>
 Rt R k1 (agg cs2)) :
  CallsG Tryz.prog 19 #[int .i64 n0,int .i64 n1] k R:=
  qY { opq:=[40] } h
theorem aKj 
 (h:Cl k 8 #[int .i64 100] fun k1 r0=>Gt 3 r0 fun cs2=>
 Cl k1 8 #[int .i64 (wrap .i64 (Int.tmod n0 4))] fun k3 r2=>Gt 3 r2 fun cs3=>
 Cl k3 8 #[int .i64 150] fun k5 r4=>Gt 3 r4 fun cs4=>
 Cl k5 8 #[int .i64 (wrap .i64 ((wrap .i64 (Int.tmod n0 4))+(wrap .i64 (Int.tmod n1 4))))] fun k7 r6=>Gt 3 r6 fun cs5=>
 ∀p6 k8,Up k7 k8→Sy.Blk k8 p6 83 (cs2.toList++(cs3.toList++(cs4.toList++(cs5.toList++([]))))).toArray→
 Rt R k8 (slice (some ⟨p6,0,none⟩) 2 2)) :
  CallsG Tryz.prog 21 #[int .u8 n0,int .u8 n1] k R:=
  qY { opq:=[40] } h
theorem aPj 
 (h:Cl k 21 #[int .u8 (wrap .u8 (BitVec.toNat (BitVec.ofInt (IntKind.bits .u8) n2 ||| BitVec.ofInt (IntKind.bits .u8) 1))),int .u8 n3] fun k1 r0=>∃A6 l6 c6,some (slice A6 l6 c6)=some r0∧
 Cl k1 21 #[int .u8 0,int .u8 n4] fun k3 r2=>∃A7 l7 c7,some (slice A7 l7 c7)=some r2∧
 Cl k3 8 #[int .i64 4] fun k5 r4=>Gt 3 r4 fun cs8=>
 Cl k5 8 #[int .i64 40] fun k7 r6=>Gt 3 r6 fun cs9=>
 Cl k7 21 #[int .u8 (wrap .u8 (BitVec.toNat (BitVec.ofInt (IntKind.bits .u8) n4 ||| BitVec.ofInt (IntKind.bits .u8) 1))),int .u8 n5] fun k9 r8=>∃A10 l10 c10,some (slice A10 l10 c10)=some r8∧
 Cl k9 21 #[int .u8 0,int .u8 n2] fun k11 r10=>∃A11 l11 c11,some (slice A11 l11 c11)=some r10∧
 Cl k11 8 #[int .i64 3] fun k13 r12=>Gt 3 r12 fun cs12=>
 Cl k13 8 #[int .i64 30] fun k15 r14=>Gt 3 r14 fun cs13=>
 Cl k15 8 #[int .i64 8] fun k17 r16=>Gt 3 r16 fun cs14=>
 Cl k17 8 #[int .i64 4] fun k19 r18=>Gt 3 r18 fun cs15=>
 Cl k19 8 #[int .i64 6] fun k21 r20=>Gt 3 r20 fun cs16=>
 Cl k21 8 #[int .i64 3] fun k23 r22=>Gt 3 r22 fun cs17=>
 Cl k23 8 #[int .i64 4] fun k25 r24=>Gt 3 r24 fun cs18=>
 Cl k25 8 #[int .i64 1] fun k27 r26=>Gt 3 r26 fun cs19=>
 ∀p20 k28,Up k27 k28→Sy.Blk k28 p20 79 ((slice A6 l6 c6) :: ((slice A7 l7 c7) :: (cs8.toList++(cs9.toList++((slice A10 l10 c10) :: ((slice A11 l11 c11) :: (cs12.toList++(cs13.toList++([]))))))))).toArray→
 ∀p21 k29,Up k28 k29→Sy.Blk k29 p21 86 ((int .i64 0) :: ((int .i64 (wrap .i64 (1+(wrap .i64 (Int.tmod n0 3))))) :: (cs14.toList++(cs15.toList++((int .i64 1) :: ((int .i64 (wrap .i64 (1+(wrap .i64 (Int.tmod n1 3))))) :: (cs16.toList++(cs17.toList++([]))))))))).toArray→
 Cl k29 22 #[slice (some ⟨p20,0,none⟩) 2 2,slice (some ⟨p21,0,none⟩) 2 2,agg cs18,agg cs19] fun k31 r30=>∃A22 l22 c22,∃A23 l23 c23,∃A24 l24 c24,∃n25,some (tuple #[S3 A22 l22 c22 A23 l23 c23 A24 l24 c24,int .i64 n25])=some r30∧
 Rt R k31 (tuple #[S3 A22 l22 c22 A23 l23 c23 A24 l24 c24,int .i64 n25])) :
  CallsG Tryz.prog 5 #[agg #[int .u8 n0,int .u8 n1],agg #[int .u8 n2,int .u8 n3,int .u8 n4,int .u8 n5]] k R:=
  qY { opq:=[40] } h
theorem aKk 
 (h:Cl k 8 #[int .i64 (wrap .i64 (170-(wrap .i64 (Int.tmod n0 16))))] fun k1 r0=>Gt 3 r0 fun cs2=>
 Cl k1 8 #[int .i64 (wrap .i64 (170+(wrap .i64 (Int.tmod n0 16))))] fun k3 r2=>Gt 3 r2 fun cs3=>
 Cl k3 8 #[int .i64 (wrap .i64 (20-(wrap .i64 (Int.tmod n1 8))))] fun k5 r4=>Gt 3 r4 fun cs4=>
 Cl k5 8 #[int .i64 (wrap .i64 (20+(wrap .i64 (Int.tmod n1 8))))] fun k7 r6=>Gt 3 r6 fun cs5=>
 Rt R k7 (Rg cs2 cs3 cs4 cs5)) :
  CallsG Tryz.prog 7 #[agg #[int .u8 n0,int .u8 n1]] k R:=
  qY { opq:=[40] } h
theorem aKg (hcs0:Seg 3 cs0) (hcs1:Seg 3 cs1) (hB4:Sy.Blk k p4 25 #[slice A3 l3 c3])
 (h:Tt∧(Br (decide (((l3:Nat):Int) > 0)) (Tt∧((decide (((l3:Nat):Int)≠0))=true∧
 (Ad A3∧((0:Int)≤(Int.tmod n2 (l3:Nat))∧((Int.tmod n2 (l3:Nat)):Int)<(l3:Nat))∧
 ∃n5,Sy.ReadAt k.cell? A3 (Int.toNat (Int.tmod n2 (l3:Nat))*1+0) 1 (int .u8 n5)∧
 Cl k 30 #[agg cs1,agg cs0] fun k1 r0=>Gt 3 r0 fun cs6=>
 Cl k1 19 #[int .i64 (wrap .i64 n5),int .i64 255] fun k3 r2=>Gt 3 r2 fun cs7=>
 Cl k3 31 #[agg cs6,agg cs7] fun k5 r4=>Gt 3 r4 fun cs8=>
 Cl k5 18 #[agg cs0,agg cs8] fun k7 r6=>Gt 3 r6 fun cs9=>
 Rt R k7 (agg cs9)))) (Cl k 30 #[agg cs1,agg cs0] fun k10 r9=>Gt 3 r9 fun cs5=>
 Cl k10 19 #[int .i64 0,int .i64 255] fun k12 r11=>Gt 3 r11 fun cs6=>
 Cl k12 31 #[agg cs5,agg cs6] fun k14 r13=>Gt 3 r13 fun cs7=>
 Cl k14 18 #[agg cs0,agg cs7] fun k16 r15=>Gt 3 r15 fun cs8=>
 Rt R k16 (agg cs8)))) :
  CallsG Tryz.prog 29 #[agg (cs0.toList++(cs1.toList++([]))).toArray,int .i64 n2,Value.pointer (some ⟨p4,0,none⟩)] k R:=
  Sy.execFn_use_heap (cfg:={ opq:=[40] }) (args:=[.agg [.seg 0 3,.seg 1 3],.one (.var 2),.one (.ptr 0 0)]) (vals:=[agg cs0,agg cs1,int .i64 n2,slice A3 l3 c3,(Value.pointer (some ⟨p4,0,none⟩))]) (kinds:=[.seg 3,.seg 3,.int .i64,.slice,.any]) (blks:=[p4]) (heap:=[{ ty:=25,cells:=[.var 3],pub:=true,pv:=4 }]) ox ⟨⟨cs0,rfl,hcs0⟩,⟨cs1,rfl,hcs1⟩,⟨_,rfl⟩,qS,⟨rfl,rfl⟩,trivial⟩ ox ⟨⟨rfl,⟨[slice A3 l3 c3],by kernel_rfl,hB4⟩,by kernel_rfl⟩,trivial⟩ ox h
theorem aPg (hcs0:Seg 3 cs0) (hcs1:Seg 3 cs1) (hcs2:Seg 3 cs2) (hcs3:Seg 3 cs3)
 (h:∀p6 k0,Up k k0→Sy.Blk k0 p6 25 #[slice A5 l5 c5]→
 ∃I1:Nat→World→List Value→Prop,(∃m1,∀k1,Up k0 k1→I1 m1 k1 [int .i64 0,tuple #[slice none 0 0,agg #[]],tuple #[slice none 0 0,agg #[]]])∧
 ∀m1 k1 vs1,Up k0 k1→I1 m1 k1 vs1→∃n7,∃A8 l8 c8,∃cs9,Sy.RowC cs9∧∃A10 l10 c10,∃cs11,Sy.RowC cs11∧some [int .i64 n7,tuple #[slice A8 l8 c8,agg cs9],tuple #[slice A10 l10 c10,agg cs11]]=some vs1∧
 Br (decide ((n7:Int)<n4)) (Cl k1 29 #[agg (cs0.toList++(cs1.toList++([]))).toArray,int .i64 (wrap .i64 (2*n7)),(Value.pointer (some ⟨p6,0,none⟩))] fun k3 r2=>Gt 3 r2 fun cs12=>
 (cs12.toList++([]):List Value).length=Int.toNat 1*3∧(0:Int)≤1∧Sy.sizeOk 56 (l8+Int.toNat 1)∧∀(A13:Option Addr) (l13 c13:Nat) (cs14:Array Value),l13=l8+Int.toNat 1→cs14=cs9++(cs12.toList++([]):List Value).toArray→l13≤c13→
 Cl k3 29 #[agg (cs2.toList++(cs3.toList++([]))).toArray,int .i64 (wrap .i64 ((wrap .i64 (2*n7))+1)),(Value.pointer (some ⟨p6,0,none⟩))] fun k5 r4=>Gt 3 r4 fun cs15=>
 (cs15.toList++([]):List Value).length=Int.toNat 1*3∧(0:Int)≤1∧Sy.sizeOk 56 (l10+Int.toNat 1)∧∀(A16:Option Addr) (l16 c16:Nat) (cs17:Array Value),l16=l10+Int.toNat 1→cs17=cs11++(cs15.toList++([]):List Value).toArray→l16≤c16→
 ∀k6,Up k5 k6→∃m,m<m1∧I1 m k6 [int .i64 (wrap .i64 (n7+1)),tuple #[slice A13 l13 c13,agg cs14],tuple #[slice A16 l16 c16,agg cs17]]) (∀k7,Up k1 k7→Sy.RowAt k7 A8 cs9→
 ∀k8,Up k7 k8→Sy.RowAt k8 A10 cs11→
 Rt R k8 (tuple #[slice A8 l8 c8,slice A10 l10 c10]))) :
  CallsG Tryz.prog 11 #[Rg cs0 cs1 cs2 cs3,int .i64 n4,slice A5 l5 c5] k R:=
  qX { opq:=[40],loops:=[(0,[.tmp 12 false [.int .i64],.rw 6 40 3,.rw 7 40 3])] } [.agg [.seg 0 3,.seg 1 3,.seg 2 3,.seg 3 3],.one (.var 4),.one (.var 5)] [agg cs0,agg cs1,agg cs2,agg cs3,int .i64 n4,slice A5 l5 c5] [.seg 3,.seg 3,.seg 3,.seg 3,.int .i64,.slice] ⟨⟨cs0,rfl,hcs0⟩,⟨cs1,rfl,hcs1⟩,⟨cs2,rfl,hcs2⟩,⟨cs3,rfl,hcs3⟩,⟨_,rfl⟩,qS,trivial⟩ h
theorem aKe
 (h:Cl k 5 #[agg #[int .u8 0,int .u8 0],agg #[int .u8 0,int .u8 0,int .u8 0,int .u8 0]] fun k1 r0=>∃A0 l0 c0,∃A1 l1 c1,∃A2 l2 c2,∃n3,some (tuple #[S3 A0 l0 c0 A1 l1 c1 A2 l2 c2,int .i64 n3])=some r0∧
 Cl k1 8 #[int .i64 20] fun k3 r2=>Gt 3 r2 fun cs4=>
 Cl k3 10 #[S3 A0 l0 c0 A1 l1 c1 A2 l2 c2,agg cs4] fun k5 r4=>∃A5 l5 c5,∃A6 l6 c6,∃A7 l7 c7,∃n8,some (tuple #[S3 A5 l5 c5 A6 l6 c6 A7 l7 c7,int .i64 n8])=some r4∧
 Cl k5 8 #[int .i64 180] fun k7 r6=>Gt 3 r6 fun cs9=>
 Cl k7 8 #[int .i64 20] fun k9 r8=>Gt 3 r8 fun cs10=>
 Cl k9 23 #[S3 A0 l0 c0 A1 l1 c1 A2 l2 c2,S3 A5 l5 c5 A6 l6 c6 A7 l7 c7,agg cs9,agg cs10] fun k11 r10=>∃A11 l11 c11,∃A12 l12 c12,∃A13 l13 c13,∃n14,some (tuple #[S3 A11 l11 c11 A12 l12 c12 A13 l13 c13,int .i64 n14])=some r10∧
 Br ((n3:Int) == 0) (Br ((n8:Int) == 0) (Br ((n14:Int) == 0) (Tt∧(Br (((l11:Nat):Int) == 2) (Ad A11∧((0:Int)≤0∧(0:Int)<(l11:Nat))∧
 ∃cs15,Seg 3 cs15∧Sy.ReadAt k11.cell? A11 (Int.toNat 0*3+0) 3 (agg cs15)∧
 Cl k11 24 #[agg cs15] fun k13 r12=>∃s16,some (Value.string s16)=some r12∧
 Rt R k13 (bool (ByteArray.toList s16 == ByteArray.toList ⟨#[49,48,48]⟩))) (Rt R k11 (bool false)))) (Rt R k11 (bool false))) (Rt R k11 (bool false))) (Rt R k11 (bool false))) :
  CallsG Tryz.prog 6 #[] k R:=
  qX { opq:=[40] } [] [] [] trivial h
theorem aEt 
 (h:Tt∧(∃I0:Nat→World→List Value→Prop,(∃m0,∀k0,Up k k0→I0 m0 k0 [int .i64 0,bool true,bool true])∧
 ∀m0 k0 vs0,Up k k0→I0 m0 k0 vs0→∃n7,∃b8,∃b9,some [int .i64 n7,bool b8,bool b9]=some vs0∧
 Br (decide ((n7:Int)<(l1:Nat))) (Ad A1∧Ix n7 l1∧
 ∃n10,∃cs11,Seg 3 cs11∧∃cs12,Seg 3 cs12∧∃cs13,Seg 3 cs13∧Sy.ReadAt k0.cell? A1 (Int.toNat n7*10+0) 10 (agg ((int .i64 n10) :: (cs11.toList++(cs12.toList++(cs13.toList++([]))))).toArray)∧
 Ad A0∧Ix n10 l0∧
 ∃A14 l14 c14,∃A15 l15 c15,∃cs16,Seg 3 cs16∧∃cs17,Seg 3 cs17∧Sy.ReadAt k0.cell? A0 (Int.toNat n10*8+0) 8 (agg ((slice A14 l14 c14) :: ((slice A15 l15 c15) :: (cs16.toList++(cs17.toList++([]))))).toArray)∧
 Br b8 (El k0 A4 n7 l4 3 fun cs18=>
 Cl k0 20 #[agg cs18,agg cs16] fun k2 r1=>Gi r1 fun n19=>
 Br b9 (El k2 A5 n7 l5 3 fun cs20=>
 Cl k2 20 #[agg cs20,agg cs17] fun k4 r3=>Gi r3 fun n21=>
 ∀k5,Up k4 k5→∃m,m<m0∧I0 m k5 [int .i64 (wrap .i64 (n7+1)),bool (decide ((n19:Int) ≥ 0)),bool (decide ((n21:Int)≤0))]) (∀k6,Up k2 k6→∃m,m<m0∧I0 m k6 [int .i64 (wrap .i64 (n7+1)),bool (decide ((n19:Int) ≥ 0)),bool false])) (Br b9 (El k0 A5 n7 l5 3 fun cs18=>
 Cl k0 20 #[agg cs18,agg cs17] fun k8 r7=>Gi r7 fun n19=>
 ∀k9,Up k8 k9→∃m,m<m0∧I0 m k9 [int .i64 (wrap .i64 (n7+1)),bool false,bool (decide ((n19:Int)≤0))]) (∀k10,Up k0 k10→∃m,m<m0∧I0 m k10 [int .i64 (wrap .i64 (n7+1)),bool false,bool false]))) (Br ((n6:Int) == 0) (Br b8 (Rt R k0 (bool b9)) (Rt R k0 (bool false))) (Br ((n6:Int) == 1) (Rt R k0 (bool b9)) (Br ((n6:Int) == 2) (Rt R k0 (bool (!b9))) (Rt R k0 (bool ((n6:Int) == 3)))))))) :
  CallsG Tryz.prog 16 #[S3 A0 l0 c0 A1 l1 c1 A2 l2 c2,S3 A3 l3 c3 A4 l4 c4 A5 l5 c5,int .i64 n6] k R:=
  qY { opq:=[40],loops:=[(0,[.tmp 15 false [.int .i64],.tmp 7 false [.bool],.tmp 8 false [.bool]])] } h
end Go.Proofs.YtebaclefnpipfaaGreat

namespace Go.Proofs.YtebaclefnpipfaaGreat
open IntKind (wrap)
open Go.RowKit
open Value (agg slice int bool tuple)
open Sy (Up Sees CallsG Seg execFn_use)
set_option maxRecDepth 100000
variable {k:World}{R:World→Value→Prop}{n0 n1 n2 n3 n4 n5 n6 n7 n8 n9 n10:Int}{A11:Option Addr}{c11 l11:Nat}
theorem aPh 
 (h:Cl k 5 #[agg #[int .u8 n0,int .u8 n1],agg #[int .u8 n2,int .u8 n3,int .u8 n4,int .u8 n5]] fun k1 r0=>∃A12 l12 c12,∃A13 l13 c13,∃A14 l14 c14,∃n15,some (tuple #[S3 A12 l12 c12 A13 l13 c13 A14 l14 c14,int .i64 n15])=some r0∧
 Br ((n15:Int) != 0) (Br ((n15:Int) == 0) (Cl k1 6 #[] fun k3 r2=>Gb r2 fun b16=>
 Rt R k3 (bool b16)) (Rt R k1 (bool false))) (Tt∧(Br (decide (((l11:Nat):Int) > 200)) (Br ((n15:Int) == 0) (Cl k1 6 #[] fun k7 r6=>Gb r6 fun b16=>
 Rt R k7 (bool b16)) (Rt R k1 (bool false))) (Cl k1 7 #[agg #[int .u8 n6,int .u8 n7]] fun k11 r10=>∃cs16,Seg 3 cs16∧∃cs17,Seg 3 cs17∧∃cs18,Seg 3 cs18∧∃cs19,Seg 3 cs19∧some (Rg cs16 cs17 cs18 cs19)=some r10∧
 Cl k11 8 #[int .i64 60] fun k13 r12=>Gt 3 r12 fun cs20=>
 Cl k13 8 #[int .i64 110] fun k15 r14=>Gt 3 r14 fun cs21=>
 Cl k15 8 #[int .i64 20] fun k17 r16=>Gt 3 r16 fun cs22=>
 Cl k17 8 #[int .i64 25] fun k19 r18=>Gt 3 r18 fun cs23=>
 Cl k19 9 #[S3 A12 l12 c12 A13 l13 c13 A14 l14 c14,agg cs22,agg cs23] fun k21 r20=>∃A24 l24 c24,∃A25 l25 c25,∃A26 l26 c26,∃A27 l27 c27,∃A28 l28 c28,∃A29 l29 c29,∃n30,some (tuple #[S6 A24 l24 c24 A25 l25 c25 A26 l26 c26 A27 l27 c27 A28 l28 c28 A29 l29 c29,int .i64 n30])=some r20∧
 Cl k21 8 #[int .i64 22] fun k23 r22=>Gt 3 r22 fun cs31=>
 Cl k23 10 #[S3 A12 l12 c12 A13 l13 c13 A14 l14 c14,agg cs31] fun k25 r24=>∃A32 l32 c32,∃A33 l33 c33,∃A34 l34 c34,∃n35,some (tuple #[S3 A32 l32 c32 A33 l33 c33 A34 l34 c34,int .i64 n35])=some r24∧
 Br ((n30:Int) != 0) (Rt R k25 (bool false)) (Br ((n35:Int) != 0) (Rt R k25 (bool false)) (Cl k25 11 #[Rg cs16 cs17 cs18 cs19,int .i64 (wrap .i64 (Int.tmod n8 8)),slice A11 l11 c11] fun k29 r28=>∃A36 l36 c36,∃A37 l37 c37,some (tuple #[slice A36 l36 c36,slice A37 l37 c37])=some r28∧
 Cl k29 12 #[S3 A12 l12 c12 A13 l13 c13 A14 l14 c14,S3 A32 l32 c32 A33 l33 c33 A34 l34 c34,slice A36 l36 c36,slice A37 l37 c37] fun k31 r30=>∃A38 l38 c38,∃A39 l39 c39,∃A40 l40 c40,∃n41,some (tuple #[S3 A38 l38 c38 A39 l39 c39 A40 l40 c40,int .i64 n41])=some r30∧
 Br ((n41:Int) != 0) (Rt R k31 (bool false)) (∀p42 k33,Up k31 k33→Sy.Blk k33 p42 47 ((int .i64 (wrap .i64 (Int.tmod n8 8))) :: (cs16.toList++(cs17.toList++(cs18.toList++(cs19.toList++((int .i64 (wrap .i64 (Int.tmod n9 8))) :: (cs20.toList++(cs21.toList++(cs18.toList++(cs19.toList++((int .i64 (wrap .i64 (Int.tmod n10 8))) :: (cs16.toList++(cs17.toList++(cs18.toList++(cs19.toList++([])))))))))))))))).toArray→
 ∃A43 l43 c43,Sy.slcD 13 (slice (some ⟨p42,0,none⟩) 3 3) (int .i64 0) (int .i64 1)=some (slice A43 l43 c43)∧
 Cl k33 13 #[S3 A12 l12 c12 A13 l13 c13 A14 l14 c14,S6 A24 l24 c24 A25 l25 c25 A26 l26 c26 A27 l27 c27 A28 l28 c28 A29 l29 c29,slice A43 l43 c43] fun k35 r34=>∃A44 l44 c44,∃A45 l45 c45,∃A46 l46 c46,∃A47 l47 c47,∃A48 l48 c48,∃A49 l49 c49,∃n50,some (tuple #[S6 A44 l44 c44 A45 l45 c45 A46 l46 c46 A47 l47 c47 A48 l48 c48 A49 l49 c49,int .i64 n50])=some r34∧
 Br ((n50:Int) != 0) (Rt R k35 (bool false)) (Cl k35 14 #[S6 A44 l44 c44 A45 l45 c45 A46 l46 c46 A47 l47 c47 A48 l48 c48 A49 l49 c49,S3 A38 l38 c38 A39 l39 c39 A40 l40 c40] fun k38 r37=>Gb r37 fun b51=>
 Br (!b51) (Rt R k38 (bool false)) (Cl k38 15 #[S3 A12 l12 c12 A13 l13 c13 A14 l14 c14,S6 A44 l44 c44 A45 l45 c45 A46 l46 c46 A47 l47 c47 A48 l48 c48 A49 l49 c49] fun k41 r40=>∃n52,∃n53,∃n54,∃n55,some (tuple #[agg #[int .i64 n52,int .i64 n53,int .i64 n54],int .i64 n55])=some r40∧
 Br ((n55:Int) != 0) (Rt R k41 (bool false)) (Cl k41 16 #[S3 A12 l12 c12 A13 l13 c13 A14 l14 c14,S3 A38 l38 c38 A39 l39 c39 A40 l40 c40,int .i64 n52] fun k44 r43=>Gb r43 fun b56=>
 Br (!b56) (Rt R k44 (bool false)) ((∃b o,(some (⟨p42,0,none⟩:Addr))=some ⟨b,o,none⟩)∧((0:Int)≤1∧(1:Int)<(3:Nat))∧
 ∃n57,∃cs58,Seg 3 cs58∧∃cs59,Seg 3 cs59∧∃cs60,Seg 3 cs60∧∃cs61,Seg 3 cs61∧Sy.ReadAt k44.cell? (some ⟨p42,0,none⟩) (Int.toNat 1*13+0) 13 (agg ((int .i64 n57) :: (cs58.toList++(cs59.toList++(cs60.toList++(cs61.toList++([])))))).toArray)∧
 Cl k44 11 #[Rg cs58 cs59 cs60 cs61,int .i64 n57,slice A11 l11 c11] fun k47 r46=>∃A62 l62 c62,∃A63 l63 c63,some (tuple #[slice A62 l62 c62,slice A63 l63 c63])=some r46∧
 Cl k47 12 #[S3 A12 l12 c12 A13 l13 c13 A14 l14 c14,S3 A38 l38 c38 A39 l39 c39 A40 l40 c40,slice A62 l62 c62,slice A63 l63 c63] fun k49 r48=>∃A64 l64 c64,∃A65 l65 c65,∃A66 l66 c66,∃n67,some (tuple #[S3 A64 l64 c64 A65 l65 c65 A66 l66 c66,int .i64 n67])=some r48∧
 Br ((n67:Int) != 0) (Rt R k49 (bool false)) (∃A68 l68 c68,Sy.slcD 13 (slice (some ⟨p42,0,none⟩) 3 3) (int .i64 1) (int .i64 2)=some (slice A68 l68 c68)∧
 Cl k49 13 #[S3 A12 l12 c12 A13 l13 c13 A14 l14 c14,S6 A44 l44 c44 A45 l45 c45 A46 l46 c46 A47 l47 c47 A48 l48 c48 A49 l49 c49,slice A68 l68 c68] fun k52 r51=>∃A69 l69 c69,∃A70 l70 c70,∃A71 l71 c71,∃A72 l72 c72,∃A73 l73 c73,∃A74 l74 c74,∃n75,some (tuple #[S6 A69 l69 c69 A70 l70 c70 A71 l71 c71 A72 l72 c72 A73 l73 c73 A74 l74 c74,int .i64 n75])=some r51∧
 Br ((n75:Int) != 0) (Rt R k52 (bool false)) (Cl k52 14 #[S6 A69 l69 c69 A70 l70 c70 A71 l71 c71 A72 l72 c72 A73 l73 c73 A74 l74 c74,S3 A64 l64 c64 A65 l65 c65 A66 l66 c66] fun k55 r54=>Gb r54 fun b76=>
 Br (!b76) (Rt R k55 (bool false)) (Cl k55 15 #[S3 A12 l12 c12 A13 l13 c13 A14 l14 c14,S6 A69 l69 c69 A70 l70 c70 A71 l71 c71 A72 l72 c72 A73 l73 c73 A74 l74 c74] fun k58 r57=>∃n77,∃n78,∃n79,∃n80,some (tuple #[agg #[int .i64 n77,int .i64 n78,int .i64 n79],int .i64 n80])=some r57∧
 Br ((n80:Int) != 0) (Rt R k58 (bool false)) (Cl k58 16 #[S3 A12 l12 c12 A13 l13 c13 A14 l14 c14,S3 A64 l64 c64 A65 l65 c65 A66 l66 c66,int .i64 n77] fun k61 r60=>Gb r60 fun b81=>
 Br (!b81) (Rt R k61 (bool false)) ((∃b o,(some (⟨p42,0,none⟩:Addr))=some ⟨b,o,none⟩)∧((0:Int)≤2∧(2:Int)<(3:Nat))∧
 ∃n82,∃cs83,Seg 3 cs83∧∃cs84,Seg 3 cs84∧∃cs85,Seg 3 cs85∧∃cs86,Seg 3 cs86∧Sy.ReadAt k61.cell? (some ⟨p42,0,none⟩) (Int.toNat 2*13+0) 13 (agg ((int .i64 n82) :: (cs83.toList++(cs84.toList++(cs85.toList++(cs86.toList++([])))))).toArray)∧
 Cl k61 11 #[Rg cs83 cs84 cs85 cs86,int .i64 n82,slice A11 l11 c11] fun k64 r63=>∃A87 l87 c87,∃A88 l88 c88,some (tuple #[slice A87 l87 c87,slice A88 l88 c88])=some r63∧
 Cl k64 12 #[S3 A12 l12 c12 A13 l13 c13 A14 l14 c14,S3 A64 l64 c64 A65 l65 c65 A66 l66 c66,slice A87 l87 c87,slice A88 l88 c88] fun k66 r65=>∃A89 l89 c89,∃A90 l90 c90,∃A91 l91 c91,∃n92,some (tuple #[S3 A89 l89 c89 A90 l90 c90 A91 l91 c91,int .i64 n92])=some r65∧
 Br ((n92:Int) != 0) (Rt R k66 (bool false)) (∃A93 l93 c93,Sy.slcD 13 (slice (some ⟨p42,0,none⟩) 3 3) (int .i64 2) (int .i64 3)=some (slice A93 l93 c93)∧
 Cl k66 13 #[S3 A12 l12 c12 A13 l13 c13 A14 l14 c14,S6 A69 l69 c69 A70 l70 c70 A71 l71 c71 A72 l72 c72 A73 l73 c73 A74 l74 c74,slice A93 l93 c93] fun k69 r68=>∃A94 l94 c94,∃A95 l95 c95,∃A96 l96 c96,∃A97 l97 c97,∃A98 l98 c98,∃A99 l99 c99,∃n100,some (tuple #[S6 A94 l94 c94 A95 l95 c95 A96 l96 c96 A97 l97 c97 A98 l98 c98 A99 l99 c99,int .i64 n100])=some r68∧
 Br ((n100:Int) != 0) (Rt R k69 (bool false)) (Cl k69 14 #[S6 A94 l94 c94 A95 l95 c95 A96 l96 c96 A97 l97 c97 A98 l98 c98 A99 l99 c99,S3 A89 l89 c89 A90 l90 c90 A91 l91 c91] fun k72 r71=>Gb r71 fun b101=>
 Br (!b101) (Rt R k72 (bool false)) (Cl k72 15 #[S3 A12 l12 c12 A13 l13 c13 A14 l14 c14,S6 A94 l94 c94 A95 l95 c95 A96 l96 c96 A97 l97 c97 A98 l98 c98 A99 l99 c99] fun k75 r74=>∃n102,∃n103,∃n104,∃n105,some (tuple #[agg #[int .i64 n102,int .i64 n103,int .i64 n104],int .i64 n105])=some r74∧
 Br ((n105:Int) != 0) (Rt R k75 (bool false)) (Cl k75 16 #[S3 A12 l12 c12 A13 l13 c13 A14 l14 c14,S3 A89 l89 c89 A90 l90 c90 A91 l91 c91,int .i64 n102] fun k78 r77=>Gb r77 fun b106=>
 Br (!b106) (Rt R k78 (bool false)) (Cl k78 6 #[] fun k81 r80=>Gb r80 fun b107=>
 Rt R k81 (bool b107)))))))))))))))))))))) :
  CallsG Tryz.prog 3 #[agg #[int .u8 n0,int .u8 n1],agg #[int .u8 n2,int .u8 n3,int .u8 n4,int .u8 n5],agg #[int .u8 n6,int .u8 n7],agg #[int .u8 n8,int .u8 n9,int .u8 n10],slice A11 l11 c11] k R:=
  qY { opq:=[40] } h
