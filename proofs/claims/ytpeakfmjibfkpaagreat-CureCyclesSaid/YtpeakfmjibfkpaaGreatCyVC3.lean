/- Several texts in one. (Printed by prep.py.) -/
import Derived.Test.YtpeakfmjibfkpaaGreatCyQ5
namespace Go.Proofs.YtpeakfmjibfkpaaGreat
open IntKind (wrap)
open Go.RowKit
open Value (agg slice int bool tuple)
open Sy (Up Sees CallsG Seg execFn_use)
set_option maxRecDepth 100000
variable {k:World}{R:World→Value→Prop}{A0 A1 A2 A3 A4 A5:Option Addr}{c0 c1 c2 c3 c4 c5 l0 l1 l2 l3 l4 l5:Nat}{n3:Int}
theorem aZe 
 (h:Tt∧(Br (decide (((l0:Nat):Int) > 10)) (Rt R k (bool false)) (Tt∧(Br (decide (((l1:Nat):Int) > n3)) (Rt R k (bool false)) (Tt∧(Br (decide (((l2:Nat):Int) > (wrap .i64 ((wrap .i64 (2*n3))+20)))) (Rt R k (bool false)) (Tt∧(∃I3:Nat→World→List Value→Prop,(∃m3,∀k3,Up k k3→I3 m3 k3 [int .i64 0])∧
 ∀m3 k3 vs3,Up k k3→I3 m3 k3 vs3→∃n4,some [int .i64 n4]=some vs3∧
 Br (decide ((n4:Int)<(l0:Nat))) (Ad A0∧Ix n4 l0∧
 ∃A5 l5 c5,∃A6 l6 c6,∃n7,∃n8,∃n9,∃n10,Sy.ReadAt k3.cell? A0 (Int.toNat n4*6+0) 6 (agg #[slice A5 l5 c5,slice A6 l6 c6,int .i64 n7,int .i64 n8,int .i64 n9,int .i64 n10])∧
 Tt∧(Br (decide (((l5:Nat):Int) > 20)) (Rt R k3 (bool false)) (Tt∧(Br (decide (((l6:Nat):Int) > 20)) (Rt R k3 (bool false)) (∀k6,Up k3 k6→∃m,m<m3∧I3 m k6 [int .i64 (wrap .i64 (n4+1))]))))) (Rt R k3 (bool true)))))))))) :
  CallsG Tryz.prog 10 #[S3 A0 l0 c0 A1 l1 c1 A2 l2 c2,int .i64 n3] k R:=
  qY { opq:=[],loops:=[(0,[.tmp 30 false [.int .i64]])] } h
theorem aLu 
 (h:Tt∧(∃I0:Nat→World→List Value→Prop,(∃m0,∀k0,Up k k0→I0 m0 k0 [int .i64 0,tuple #[slice none 0 0,agg #[]],tuple #[slice none 0 0,agg #[]]])∧
 ∀m0 k0 vs0,Up k k0→I0 m0 k0 vs0→∃n1,∃A2 l2 c2,∃cs3,Sy.RowC cs3∧∃A4 l4 c4,∃cs5,Sy.RowC cs5∧some [int .i64 n1,tuple #[slice A2 l2 c2,agg cs3],tuple #[slice A4 l4 c4,agg cs5]]=some vs0∧
 Br (decide ((n1:Int)<(l0:Nat))) (Ad A0∧Ix n1 l0∧
 ∃n6,∃n7,∃n8,∃n9,Sy.ReadAt k0.cell? A0 (Int.toNat n1*4+0) 4 (agg #[int .i64 n6,int .i64 n7,int .i64 n8,int .i64 n9])∧
 Cl k0 18 #[agg #[int .i64 n6,int .i64 n7]] fun k2 r1=>Gt 3 r1 fun cs10=>
 Cl k2 18 #[agg #[int .i64 n8,int .i64 n9]] fun k4 r3=>Gt 3 r3 fun cs11=>
 (cs10.toList++(cs11.toList++([])):List Value).length=Int.toNat 1*6∧(0:Int)≤1∧Sy.sizeOk 112 (l2+Int.toNat 1)∧∀(A12:Option Addr) (l12 c12:Nat) (cs13:Array Value),l12=l2+Int.toNat 1→cs13=cs3++(cs10.toList++(cs11.toList++([])):List Value).toArray→l12≤c12→
 Cl k4 20 #[agg #[int .i64 n6,int .i64 n7]] fun k6 r5=>Gt 3 r5 fun cs14=>
 Cl k6 20 #[agg #[int .i64 n8,int .i64 n9]] fun k8 r7=>Gt 3 r7 fun cs15=>
 (cs14.toList++(cs15.toList++([])):List Value).length=Int.toNat 1*6∧(0:Int)≤1∧Sy.sizeOk 112 (l4+Int.toNat 1)∧∀(A16:Option Addr) (l16 c16:Nat) (cs17:Array Value),l16=l4+Int.toNat 1→cs17=cs5++(cs14.toList++(cs15.toList++([])):List Value).toArray→l16≤c16→
 ∀k9,Up k8 k9→∃m,m<m0∧I0 m k9 [int .i64 (wrap .i64 (n1+1)),tuple #[slice A12 l12 c12,agg cs13],tuple #[slice A16 l16 c16,agg cs17]]) (∀k10,Up k0 k10→Sy.RowAt k10 A2 cs3→
 ∀k11,Up k10 k11→Sy.RowAt k11 A4 cs5→
 Rt R k11 (tuple #[slice A2 l2 c2,slice A4 l4 c4])))) :
  CallsG Tryz.prog 97 #[slice A0 l0 c0] k R:=
  qY { opq:=[75,81],loops:=[(0,[.tmp 10 false [.int .i64],.rw 4 157 6,.rw 5 271 6])] } h
theorem aRb 
 (h:Tt∧(∃I0:Nat→World→List Value→Prop,(∃m0,∀k0,Up k k0→I0 m0 k0 [int .i64 0,tuple #[slice none 0 0,agg #[]],tuple #[slice none 0 0,agg #[]]])∧
 ∀m0 k0 vs0,Up k k0→I0 m0 k0 vs0→∃n1,∃A2 l2 c2,∃cs3,Sy.RowC cs3∧∃A4 l4 c4,∃cs5,Sy.RowC cs5∧some [int .i64 n1,tuple #[slice A2 l2 c2,agg cs3],tuple #[slice A4 l4 c4,agg cs5]]=some vs0∧
 Br (decide ((n1:Int)<(l0:Nat))) (Ad A0∧Ix n1 l0∧
 ∃A6 l6 c6,∃A7 l7 c7,∃n8,∃n9,∃n10,∃n11,Sy.ReadAt k0.cell? A0 (Int.toNat n1*6+0) 6 (agg #[slice A6 l6 c6,slice A7 l7 c7,int .i64 n8,int .i64 n9,int .i64 n10,int .i64 n11])∧
 Cl k0 97 #[slice A6 l6 c6] fun k2 r1=>∃A12 l12 c12,∃A13 l13 c13,some (tuple #[slice A12 l12 c12,slice A13 l13 c13])=some r1∧
 Cl k2 97 #[slice A7 l7 c7] fun k4 r3=>∃A14 l14 c14,∃A15 l15 c15,some (tuple #[slice A14 l14 c14,slice A15 l15 c15])=some r3∧
 Cl k4 18 #[agg #[int .i64 n8,int .i64 n9]] fun k6 r5=>Gt 3 r5 fun cs16=>
 Cl k6 18 #[agg #[int .i64 n10,int .i64 n11]] fun k8 r7=>Gt 3 r7 fun cs17=>
 ((slice A12 l12 c12) :: ((slice A14 l14 c14) :: (cs16.toList++(cs17.toList++([])))):List Value).length=Int.toNat 1*8∧(0:Int)≤1∧Sy.sizeOk 160 (l2+Int.toNat 1)∧∀(A18:Option Addr) (l18 c18:Nat) (cs19:Array Value),l18=l2+Int.toNat 1→cs19=cs3++((slice A12 l12 c12) :: ((slice A14 l14 c14) :: (cs16.toList++(cs17.toList++([])))):List Value).toArray→l18≤c18→
 Cl k8 20 #[agg #[int .i64 n8,int .i64 n9]] fun k10 r9=>Gt 3 r9 fun cs20=>
 Cl k10 20 #[agg #[int .i64 n10,int .i64 n11]] fun k12 r11=>Gt 3 r11 fun cs21=>
 ((slice A13 l13 c13) :: ((slice A15 l15 c15) :: (cs20.toList++(cs21.toList++([])))):List Value).length=Int.toNat 1*8∧(0:Int)≤1∧Sy.sizeOk 160 (l4+Int.toNat 1)∧∀(A22:Option Addr) (l22 c22:Nat) (cs23:Array Value),l22=l4+Int.toNat 1→cs23=cs5++((slice A13 l13 c13) :: ((slice A15 l15 c15) :: (cs20.toList++(cs21.toList++([])))):List Value).toArray→l22≤c22→
 ∀k13,Up k12 k13→∃m,m<m0∧I0 m k13 [int .i64 (wrap .i64 (n1+1)),tuple #[slice A18 l18 c18,agg cs19],tuple #[slice A22 l22 c22,agg cs23]]) (∀k14,Up k0 k14→Sy.RowAt k14 A2 cs3→
 ∀k15,Up k14 k15→Sy.RowAt k15 A4 cs5→
 Rt R k15 (tuple #[slice A2 l2 c2,slice A4 l4 c4])))) :
  CallsG Tryz.prog 52 #[slice A0 l0 c0] k R:=
  qY { opq:=[75,81],loops:=[(0,[.tmp 14 false [.int .i64],.rw 4 149 8,.rw 5 223 8])] } h
theorem aRd 
 (h:Cl k 52 #[slice A0 l0 c0] fun k1 r0=>∃A3 l3 c3,∃A4 l4 c4,some (tuple #[slice A3 l3 c3,slice A4 l4 c4])=some r0∧
 Tt∧(∃I2:Nat→World→List Value→Prop,(∃m2,∀k2,Up k1 k2→I2 m2 k2 [int .i64 0,tuple #[slice none 0 0,agg #[]],tuple #[slice none 0 0,agg #[]]])∧
 ∀m2 k2 vs2,Up k1 k2→I2 m2 k2 vs2→∃n5,∃A6 l6 c6,∃cs7,Sy.RowC cs7∧∃A8 l8 c8,∃cs9,Sy.RowC cs9∧some [int .i64 n5,tuple #[slice A6 l6 c6,agg cs7],tuple #[slice A8 l8 c8,agg cs9]]=some vs2∧
 Br (decide ((n5:Int)<(l1:Nat))) (Ad A1∧Ix n5 l1∧
 ∃n10,∃n11,∃n12,∃n13,∃n14,∃n15,∃n16,Sy.ReadAt k2.cell? A1 (Int.toNat n5*7+0) 7 (agg #[int .i64 n10,int .i64 n11,int .i64 n12,int .i64 n13,int .i64 n14,int .i64 n15,int .i64 n16])∧
 Cl k2 18 #[agg #[int .i64 n11,int .i64 n12]] fun k4 r3=>Gt 3 r3 fun cs17=>
 Cl k4 18 #[agg #[int .i64 n13,int .i64 n14]] fun k6 r5=>Gt 3 r5 fun cs18=>
 Cl k6 18 #[agg #[int .i64 n15,int .i64 n16]] fun k8 r7=>Gt 3 r7 fun cs19=>
 ((int .i64 n10) :: (cs17.toList++(cs18.toList++(cs19.toList++([])))):List Value).length=Int.toNat 1*10∧(0:Int)≤1∧Sy.sizeOk 176 (l6+Int.toNat 1)∧∀(A20:Option Addr) (l20 c20:Nat) (cs21:Array Value),l20=l6+Int.toNat 1→cs21=cs7++((int .i64 n10) :: (cs17.toList++(cs18.toList++(cs19.toList++([])))):List Value).toArray→l20≤c20→
 Cl k8 20 #[agg #[int .i64 n11,int .i64 n12]] fun k10 r9=>Gt 3 r9 fun cs22=>
 Cl k10 20 #[agg #[int .i64 n13,int .i64 n14]] fun k12 r11=>Gt 3 r11 fun cs23=>
 Cl k12 20 #[agg #[int .i64 n15,int .i64 n16]] fun k14 r13=>Gt 3 r13 fun cs24=>
 ((int .i64 n10) :: (cs22.toList++(cs23.toList++(cs24.toList++([])))):List Value).length=Int.toNat 1*10∧(0:Int)≤1∧Sy.sizeOk 176 (l8+Int.toNat 1)∧∀(A25:Option Addr) (l25 c25:Nat) (cs26:Array Value),l25=l8+Int.toNat 1→cs26=cs9++((int .i64 n10) :: (cs22.toList++(cs23.toList++(cs24.toList++([])))):List Value).toArray→l25≤c25→
 ∀k15,Up k14 k15→∃m,m<m2∧I2 m k15 [int .i64 (wrap .i64 (n5+1)),tuple #[slice A20 l20 c20,agg cs21],tuple #[slice A25 l25 c25,agg cs26]]) (Tt∧(∃I16:Nat→World→List Value→Prop,(∃m16,∀k16,Up k2 k16→I16 m16 k16 [int .i64 0,tuple #[slice none 0 0,agg #[]],tuple #[slice none 0 0,agg #[]]])∧
 ∀m16 k16 vs16,Up k2 k16→I16 m16 k16 vs16→∃n10,∃A11 l11 c11,∃cs12,Sy.RowC cs12∧∃A13 l13 c13,∃cs14,Sy.RowC cs14∧some [int .i64 n10,tuple #[slice A11 l11 c11,agg cs12],tuple #[slice A13 l13 c13,agg cs14]]=some vs16∧
 Br (decide ((n10:Int)<(l2:Nat))) (Ad A2∧Ix n10 l2∧
 ∃n15,∃n16,∃n17,∃n18,Sy.ReadAt k16.cell? A2 (Int.toNat n10*4+0) 4 (agg #[int .i64 n15,int .i64 n16,int .i64 n17,int .i64 n18])∧
 Cl k16 18 #[agg #[int .i64 n17,int .i64 n18]] fun k18 r17=>Gt 3 r17 fun cs19=>
 ((int .i64 n15) :: ((int .i64 n16) :: (cs19.toList++([]))):List Value).length=Int.toNat 1*5∧(0:Int)≤1∧Sy.sizeOk 72 (l11+Int.toNat 1)∧∀(A20:Option Addr) (l20 c20:Nat) (cs21:Array Value),l20=l11+Int.toNat 1→cs21=cs12++((int .i64 n15) :: ((int .i64 n16) :: (cs19.toList++([]))):List Value).toArray→l20≤c20→
 Cl k18 20 #[agg #[int .i64 n17,int .i64 n18]] fun k20 r19=>Gt 3 r19 fun cs22=>
 ((int .i64 n15) :: ((int .i64 n16) :: (cs22.toList++([]))):List Value).length=Int.toNat 1*5∧(0:Int)≤1∧Sy.sizeOk 72 (l13+Int.toNat 1)∧∀(A23:Option Addr) (l23 c23:Nat) (cs24:Array Value),l23=l13+Int.toNat 1→cs24=cs14++((int .i64 n15) :: ((int .i64 n16) :: (cs22.toList++([]))):List Value).toArray→l23≤c23→
 ∀k21,Up k20 k21→∃m,m<m16∧I16 m k21 [int .i64 (wrap .i64 (n10+1)),tuple #[slice A20 l20 c20,agg cs21],tuple #[slice A23 l23 c23,agg cs24]]) (∀k22,Up k16 k22→Sy.RowAt k22 A6 cs7→
 ∀k23,Up k22 k23→Sy.RowAt k23 A11 cs12→
 ∀k24,Up k23 k24→Sy.RowAt k24 A8 cs9→
 ∀k25,Up k24 k25→Sy.RowAt k25 A13 cs14→
 Rt R k25 (tuple #[S3 A3 l3 c3 A6 l6 c6 A11 l11 c11,S3 A4 l4 c4 A8 l8 c8 A13 l13 c13])))))) :
  CallsG Tryz.prog 14 #[S3 A0 l0 c0 A1 l1 c1 A2 l2 c2] k R:=
  qY { opq:=[75,81],loops:=[(0,[.tmp 21 false [.int .i64],.rb 3 1 151 10,.rb 4 1 166 10]),(2,[.tmp 63 false [.int .i64],.rb 3 2 159 5,.rb 4 2 170 5])] } h
theorem aLx 
 (h:Tt∧(Tt∧(Br (((l3:Nat):Int) == (l1:Nat)) (Tt∧(Br (((l4:Nat):Int) == (l1:Nat)) (Tt∧(Rt R k (bool (((l5:Nat):Int) == (l1:Nat))))) (Rt R k (bool false)))) (Rt R k (bool false))))) :
 CallsG Tryz.prog 42 #[S3 A0 l0 c0 A1 l1 c1 A2 l2 c2,S3 A3 l3 c3 A4 l4 c4 A5 l5 c5] k R:=
 qY { opq:=[75,81] } h
theorem aLn
 (h:Cl k 41 #[int .i64 60] fun k1 r0=>Gt 3 r0 fun cs0=>
 Cl k1 41 #[int .i64 1] fun k3 r2=>Gt 3 r2 fun cs1=>
 Cl k3 41 #[int .i64 1] fun k5 r4=>Gt 3 r4 fun cs2=>
 Cl k5 41 #[int .i64 1] fun k7 r6=>Gt 3 r6 fun cs3=>
 Cl k7 41 #[int .i64 4] fun k9 r8=>Gt 3 r8 fun cs4=>
 Cl k9 41 #[int .i64 1] fun k11 r10=>Gt 3 r10 fun cs5=>
 Cl k11 41 #[int .i64 1] fun k13 r12=>Gt 3 r12 fun cs6=>
 ∀p7 k14,Up k13 k14→Sy.Blk k14 p7 157 ((bool false) :: ((slice none 0 0) :: ((slice none 0 0) :: ((bool false) :: ((slice none 0 0) :: ((slice none 0 0) :: (cs0.toList++(cs1.toList++([]))))))))).toArray→
 ∀p8 k15,Up k14 k15→Sy.Blk k15 p8 157 #[bool false,slice none 0 0,slice none 0 0,bool false,slice none 0 0,slice none 0 0]→
 ∀p9 k16,Up k15 k16→Sy.Blk k16 p9 149 ((slice (some ⟨p7,0,none⟩) 2 2) :: ((slice (some ⟨p8,0,none⟩) 1 1) :: (cs2.toList++(cs3.toList++([]))))).toArray→
 ∀p10 k17,Up k16 k17→Sy.Blk k17 p10 151 ((int .i64 0) :: (cs4.toList++(cs5.toList++((bool false) :: ((slice none 0 0) :: ((slice none 0 0) :: ((int .i64 0) :: (cs4.toList++((bool false) :: ((slice none 0 0) :: ((slice none 0 0) :: ((bool false) :: ((slice none 0 0) :: ((slice none 0 0) :: ([]))))))))))))))).toArray→
 ∀p11 k18,Up k17 k18→Sy.Blk k18 p11 159 ((int .i64 0) :: ((int .i64 1) :: (cs6.toList++([])))).toArray→
 Cl k18 41 #[int .i64 20] fun k20 r19=>Gt 3 r19 fun cs12=>
 Cl k20 40 #[agg #[slice (some ⟨p9,0,none⟩) 1 1,slice (some ⟨p10,0,none⟩) 2 2,slice (some ⟨p11,0,none⟩) 1 1],agg cs12] fun k22 r21=>∃A13 l13 c13,∃A14 l14 c14,∃A15 l15 c15,∃n16,some (tuple #[S3 A13 l13 c13 A14 l14 c14 A15 l15 c15,int .i64 n16])=some r21∧
 Cl k22 41 #[int .i64 180] fun k24 r23=>Gt 3 r23 fun cs17=>
 Cl k24 41 #[int .i64 180] fun k26 r25=>Gt 3 r25 fun cs18=>
 ∀p19 k27,Up k26 k27→Sy.Blk k27 p19 75 (cs17.toList++(cs18.toList++([]))).toArray→
 Cl k27 46 #[agg #[slice (some ⟨p9,0,none⟩) 1 1,slice (some ⟨p10,0,none⟩) 2 2,slice (some ⟨p11,0,none⟩) 1 1],S3 A13 l13 c13 A14 l14 c14 A15 l15 c15,slice (some ⟨p19,0,none⟩) 2 2,slice (some ⟨p19,0,none⟩) 2 2] fun k29 r28=>∃A20 l20 c20,∃A21 l21 c21,∃A22 l22 c22,∃n23,some (tuple #[S3 A20 l20 c20 A21 l21 c21 A22 l22 c22,int .i64 n23])=some r28∧
 Br ((n16:Int) == 0) (Br ((n23:Int) == 0) (Tt∧(Br (((l20:Nat):Int) == 2) (Tt∧(Br (((l21:Nat):Int) == 2) (Ad A20∧((0:Int)≤0∧(0:Int)<(l20:Nat))∧
 ∃cs24,Seg 3 cs24∧Sy.ReadAt k29.cell? A20 (Int.toNat 0*3+0) 3 (agg cs24)∧
 Cl k29 51 #[agg cs24] fun k31 r30=>∃s25,some (Value.string s25)=some r30∧
 Br (ByteArray.toList s25 == ByteArray.toList ⟨#[56,48]⟩) (Ad A20∧((0:Int)≤1∧(1:Int)<(l20:Nat))∧
 ∃cs26,Seg 3 cs26∧Sy.ReadAt k31.cell? A20 (Int.toNat 1*3+0) 3 (agg cs26)∧
 Cl k31 51 #[agg cs26] fun k33 r32=>∃s27,some (Value.string s27)=some r32∧
 Br (ByteArray.toList s27 == ByteArray.toList ⟨#[51,48]⟩) (Ad A21∧((0:Int)≤0∧(0:Int)<(l21:Nat))∧
 ∃cs28,Seg 3 cs28∧Sy.ReadAt k33.cell? A21 (Int.toNat 0*3+0) 3 (agg cs28)∧
 Cl k33 51 #[agg cs28] fun k35 r34=>∃s29,some (Value.string s29)=some r34∧
 Rt R k35 (bool (ByteArray.toList s29 == ByteArray.toList ⟨#[49]⟩))) (Rt R k33 (bool false))) (Rt R k31 (bool false))) (Rt R k29 (bool false)))) (Rt R k29 (bool false)))) (Rt R k29 (bool false))) (Rt R k29 (bool false))) :
  CallsG Tryz.prog 13 #[] k R:=
  qX { opq:=[75] } [] [] [] trivial h
end Go.Proofs.YtpeakfmjibfkpaaGreat

namespace Go.Proofs.YtpeakfmjibfkpaaGreat
open Go.RowKit
open Value (agg slice int bool tuple)
open Sy (Up Sees CallsG Seg execFn_use)
set_option maxRecDepth 100000
variable {k:World}{R:World→Value→Prop}{n0 n1:Int}
theorem bBe 
 (h:Br ((n1:Int) == 0) (Cl k 41 #[int .i64 n0] fun k1 r0=>Gt 3 r0 fun cs2=>
 Rt R k1 (agg cs2)) (Cl k 57 #[int .i64 n0,int .i64 n1] fun k4 r3=>∃cs2,Seg 3 cs2∧∃n3,some (tuple #[agg cs2,int .i64 n3])=some r3∧
 Rt R k4 (agg cs2))) :
  CallsG Tryz.prog 18 #[agg #[int .i64 n0,int .i64 n1]] k R:=
  qY { opq:=[75] } h
end Go.Proofs.YtpeakfmjibfkpaaGreat

namespace Go.Proofs.YtpeakfmjibfkpaaGreat
open Go.RowKit Num W32
open Sy (Up Sees CallsG)
section
variable {k k':World}{R:World→Value→Prop}{x y q:Rat}{K L:Nat}{cs cs':Array Value}{g:Bool}{A A':Option Addr}{l c l' c':Nat}
theorem oS {n d:Int}(hn:In64 n) (hd:In64 d) (C:∀k' ds,Up k k'→RatV k' ds (ofQ n d) 1→R k' (.agg ds)):Cl k 18 #[.agg #[.int .i64 n,.int .i64 d]] R:=by
 intro k0 u0;refine bBe ⟨fun hb=>?_,fun hb=>?_⟩
 ·have e:d=0:=eq_of_beq hb;refine fV hn.1 hn.2 ?_;intro k1 c1 u1 h1;refine⟨c1,h1.seg,rfl,?_⟩;intro k2 u2;refine C k2 c1 (u0.trans (u1.trans u2)) ?_;unfold ofQ;rw [og e];exact h1.up u2
 ·have e:¬ d=0:=by simpa using hb
  refine aOo hn.1 hn.2 hd.1 hd.2 ?_;intro k1 c1 u1 h1;refine⟨c1,h1.seg,_,rfl,?_⟩;intro k2 u2;refine C k2 c1 (u0.trans (u1.trans u2)) ?_;unfold ofQ;rw [oh e];exact h1.up u2
end
open IntKind (wrap)
open Value (agg slice int bool tuple)
open Sy (Up Sees CallsG Seg execFn_use)
set_option maxRecDepth 100000
variable {k:World}{R:World→Value→Prop}{cs0 cs1 cs2 cs3 cs4 cs5 cs6 cs7 cs8:Array Value}{A0 A1 A2 A3 A4 A5 A6 A7:Option Addr}{M3 c0 c1 c2 c3 c4 c5 c6 c7 l0 l1 l2 l3 l4 l5 l6 l7:Nat}{n0 n1 n3:Int}
theorem aJu (hcs0:Seg 3 cs0) (hcs1:Seg 3 cs1)
 (h:Cl k 50 #[agg cs0,agg cs1] fun k1 r0=>Gi r0 fun n2=>
 Rt R k1 (bool (decide ((n2:Int)<0)))) :
  CallsG Tryz.prog 55 #[agg cs0,agg cs1] k R:=
  qX { opq:=[75] } [.agg [.seg 0 3],.agg [.seg 1 3]] [agg cs0,agg cs1] [.seg 3,.seg 3] ⟨⟨cs0,rfl,hcs0⟩,⟨cs1,rfl,hcs1⟩,trivial⟩ h
theorem aUy (hcs0:Seg 3 cs0)
 (h:Cl k 95 #[agg cs0] fun k1 r0=>Gi r0 fun n1=>
 Rt R k1 (bool (decide ((n1:Int)<0)))) :
  CallsG Tryz.prog 147 #[agg cs0] k R:=
  qX { opq:=[75] } [.agg [.seg 0 3]] [agg cs0] [.seg 3] ⟨⟨cs0,rfl,hcs0⟩,trivial⟩ h
theorem aVb (hcs0:Seg 3 cs0)
 (h:Cl k 95 #[agg cs0] fun k1 r0=>Gi r0 fun n1=>
 Rt R k1 (bool (decide ((n1:Int) > 0)))) :
  CallsG Tryz.prog 146 #[agg cs0] k R:=
  qX { opq:=[75] } [.agg [.seg 0 3]] [agg cs0] [.seg 3] ⟨⟨cs0,rfl,hcs0⟩,trivial⟩ h
theorem aVc (hcs0:Seg 3 cs0) (hcs1:Seg 3 cs1)
 (h:Cl k 178 #[agg cs0,agg cs1] fun k1 r0=>∃cs2,Seg 3 cs2∧∃n3,some (tuple #[agg cs2,int .i64 n3])=some r0∧
 Rt R k1 (agg cs2)) :
  CallsG Tryz.prog 136 #[agg cs0,agg cs1] k R:=
  qX { opq:=[75] } [.agg [.seg 0 3],.agg [.seg 1 3]] [agg cs0,agg cs1] [.seg 3,.seg 3] ⟨⟨cs0,rfl,hcs0⟩,⟨cs1,rfl,hcs1⟩,trivial⟩ h
theorem aKk 
 (h:Tt∧(Br (decide (((l0:Nat):Int)<1)) (Rt R k (int .i64 4)) (Tt∧(Br (decide (((l0:Nat):Int) > 16)) (Rt R k (int .i64 4)) (Tt∧(∃I2:Nat→World→List Value→Prop,(∃m2,∀k2,Up k k2→I2 m2 k2 [int .i64 0])∧
 ∀m2 k2 vs2,Up k k2→I2 m2 k2 vs2→∃n1,some [int .i64 n1]=some vs2∧
 Br (decide ((n1:Int)<(l0:Nat))) (Ad A0∧Ix n1 l0∧
 ∃cs2,Seg 3 cs2∧∃cs3,Seg 3 cs3∧Sy.ReadAt k2.cell? A0 (Int.toNat n1*6+0) 6 (agg (cs2.toList++(cs3.toList++([]))).toArray)∧
 Br (decide ((n1:Int) > 0)) (Ad A0∧((0:Int)≤(wrap .i64 (n1-1))∧((wrap .i64 (n1-1)):Int)<(l0:Nat))∧
 Ad A0∧((0:Int)≤(wrap .i64 (n1-1))∧((wrap .i64 (n1-1)):Int)<(l0:Nat))∧
 ∃cs4,Seg 3 cs4∧Sy.ReadAt k2.cell? A0 (Int.toNat (wrap .i64 (n1-1))*6+0) 3 (agg cs4)∧
 Cl k2 55 #[agg cs4,agg cs2] fun k4 r3=>Gb r3 fun b5=>
 Br (!b5) (Rt R k4 (int .i64 7)) (Cl k4 147 #[agg cs3] fun k7 r6=>Gb r6 fun b6=>
 Br b6 (Rt R k7 (int .i64 1)) (Br (decide ((n1:Int) > 0)) (Ad A0∧((0:Int)≤(wrap .i64 (n1-1))∧((wrap .i64 (n1-1)):Int)<(l0:Nat))∧
 Ad A0∧((0:Int)≤(wrap .i64 (n1-1))∧((wrap .i64 (n1-1)):Int)<(l0:Nat))∧
 ∃cs7,Seg 3 cs7∧Sy.ReadAt k7.cell? A0 (Int.toNat (wrap .i64 (n1-1))*6+3) 3 (agg cs7)∧
 Cl k7 55 #[agg cs3,agg cs7] fun k10 r9=>Gb r9 fun b8=>
 Br b8 (Rt R k10 (int .i64 7)) (∀k12,Up k10 k12→∃m,m<m2∧I2 m k12 [int .i64 (wrap .i64 (n1+1))])) (∀k13,Up k7 k13→∃m,m<m2∧I2 m k13 [int .i64 (wrap .i64 (n1+1))])))) (Cl k2 147 #[agg cs3] fun k15 r14=>Gb r14 fun b4=>
 Br b4 (Rt R k15 (int .i64 1)) (Br (decide ((n1:Int) > 0)) (Ad A0∧((0:Int)≤(wrap .i64 (n1-1))∧((wrap .i64 (n1-1)):Int)<(l0:Nat))∧
 Ad A0∧((0:Int)≤(wrap .i64 (n1-1))∧((wrap .i64 (n1-1)):Int)<(l0:Nat))∧
 ∃cs5,Seg 3 cs5∧Sy.ReadAt k15.cell? A0 (Int.toNat (wrap .i64 (n1-1))*6+3) 3 (agg cs5)∧
 Cl k15 55 #[agg cs3,agg cs5] fun k18 r17=>Gb r17 fun b6=>
 Br b6 (Rt R k18 (int .i64 7)) (∀k20,Up k18 k20→∃m,m<m2∧I2 m k20 [int .i64 (wrap .i64 (n1+1))])) (∀k21,Up k15 k21→∃m,m<m2∧I2 m k21 [int .i64 (wrap .i64 (n1+1))])))) (Rt R k2 (int .i64 0)))))))) :
  CallsG Tryz.prog 145 #[slice A0 l0 c0] k R:=
  qY { opq:=[75],loops:=[(0,[.tmp 15 false [.int .i64]])] } h
theorem aUx (hcs2:Seg 3 cs2) (hcs3:Seg 3 cs3)
 (h:Cl k 145 #[slice A0 l0 c0] fun k1 r0=>Gi r0 fun n4=>
 Br ((n4:Int) != 0) (Rt R k1 (int .i64 n4)) (Cl k1 145 #[slice A1 l1 c1] fun k4 r3=>Gi r3 fun n5=>
 Br ((n5:Int) != 0) (Rt R k4 (int .i64 n5)) (Cl k4 146 #[agg cs2] fun k7 r6=>Gb r6 fun b6=>
 Br (!b6) (Rt R k7 (int .i64 1)) (Cl k7 146 #[agg cs3] fun k10 r9=>Gb r9 fun b7=>
 Br (!b7) (Rt R k10 (int .i64 1)) (Rt R k10 (int .i64 0)))))) :
  CallsG Tryz.prog 98 #[agg ((slice A0 l0 c0) :: ((slice A1 l1 c1) :: (cs2.toList++(cs3.toList++([]))))).toArray] k R:=
  qX { opq:=[75] } [.agg [.var 0,.var 1,.seg 2 3,.seg 3 3]] [slice A0 l0 c0,slice A1 l1 c1,agg cs2,agg cs3] [.slice,.slice,.seg 3,.seg 3] ⟨qS,qS,⟨cs2,rfl,hcs2⟩,⟨cs3,rfl,hcs3⟩,trivial⟩ h
theorem aPe (hcs4:Seg 3 cs4) (hcs5:Seg 3 cs5) (hcs6:Seg 3 cs6)
 (h:Br (decide ((n3:Int)<0)) (Rt R k (int .i64 1)) (Tt∧(Br (decide ((n3:Int) ≥ (l0:Nat))) (Rt R k (int .i64 1)) (Cl k 146 #[agg cs4] fun k3 r2=>Gb r2 fun b7=>
 Br (!b7) (Rt R k3 (int .i64 1)) (Cl k3 147 #[agg cs5] fun k6 r5=>Gb r5 fun b8=>
 Br b8 (Rt R k6 (int .i64 1)) (Cl k6 147 #[agg cs6] fun k9 r8=>Gb r8 fun b9=>
 Br b9 (Rt R k9 (int .i64 1)) (Rt R k9 (int .i64 0)))))))) :
  CallsG Tryz.prog 99 #[S3 A0 l0 c0 A1 l1 c1 A2 l2 c2,agg ((int .i64 n3) :: (cs4.toList++(cs5.toList++(cs6.toList++([]))))).toArray] k R:=
  qX { opq:=[75] } [.agg (qV 0 3),.agg [.var 3,.seg 4 3,.seg 5 3,.seg 6 3]] [slice A0 l0 c0,slice A1 l1 c1,slice A2 l2 c2,int .i64 n3,agg cs4,agg cs5,agg cs6] [.slice,.slice,.slice,.int .i64,.seg 3,.seg 3,.seg 3] ⟨qS,qS,qS,⟨_,rfl⟩,⟨cs4,rfl,hcs4⟩,⟨cs5,rfl,hcs5⟩,⟨cs6,rfl,hcs6⟩,trivial⟩ h
theorem aKm (hcs1:Seg 3 cs1)
 (h:Tt∧(∃I0:Nat→World→List Value→Prop,(∃m0,∀k0,Up k k0→I0 m0 k0 [int .i64 0,agg #[bool false,slice none 0 0,slice none 0 0]])∧
 ∀m0 k0 vs0,Up k k0→I0 m0 k0 vs0→∃n2,∃cs3,Seg 3 cs3∧some [int .i64 n2,agg cs3]=some vs0∧
 Br (decide ((n2:Int)<(l0:Nat))) (Ad A0∧Ix n2 l0∧
 ∃cs4,Seg 3 cs4∧∃cs5,Seg 3 cs5∧Sy.ReadAt k0.cell? A0 (Int.toNat n2*6+0) 6 (agg (cs4.toList++(cs5.toList++([]))).toArray)∧
 Cl k0 55 #[agg cs1,agg cs4] fun k2 r1=>Gb r1 fun b6=>
 Br b6 (Rt R k2 (agg cs3)) (∀k4,Up k2 k4→∃m,m<m0∧I0 m k4 [int .i64 (wrap .i64 (n2+1)),agg cs5])) (Rt R k0 (agg cs3)))) :
  CallsG Tryz.prog 137 #[slice A0 l0 c0,agg cs1] k R:=
  qX { opq:=[75],loops:=[(0,[.tmp 10 false [.int .i64],.blk 2 [.seg 3]])] } [.one (.var 0),.agg [.seg 1 3]] [slice A0 l0 c0,agg cs1] [.slice,.seg 3] ⟨qS,⟨cs1,rfl,hcs1⟩,trivial⟩ h
theorem aKs 
 (h:Tt∧(Br (decide (((l0:Nat):Int)<1)) (Rt R k (int .i64 4)) (Tt∧(Br (decide (((l0:Nat):Int) > 8)) (Rt R k (int .i64 4)) (Tt∧(Br (decide (((l1:Nat):Int)<1)) (Rt R k (int .i64 4)) (Tt∧(Br (decide (((l1:Nat):Int) > 24)) (Rt R k (int .i64 4)) (Tt∧(Br (decide (((l2:Nat):Int) > 64)) (Rt R k (int .i64 4)) (Tt∧(∃I5:Nat→World→List Value→Prop,(∃m5,∀k5,Up k k5→I5 m5 k5 [int .i64 0])∧
 ∀m5 k5 vs5,Up k k5→I5 m5 k5 vs5→∃n3,some [int .i64 n3]=some vs5∧
 Br (decide ((n3:Int)<(l0:Nat))) (Ad A0∧Ix n3 l0∧
 ∃A4 l4 c4,∃A5 l5 c5,∃cs6,Seg 3 cs6∧∃cs7,Seg 3 cs7∧Sy.ReadAt k5.cell? A0 (Int.toNat n3*8+0) 8 (agg ((slice A4 l4 c4) :: ((slice A5 l5 c5) :: (cs6.toList++(cs7.toList++([]))))).toArray)∧
 Cl k5 98 #[agg ((slice A4 l4 c4) :: ((slice A5 l5 c5) :: (cs6.toList++(cs7.toList++([]))))).toArray] fun k7 r6=>Gi r6 fun n8=>
 Br ((n8:Int) != 0) (Rt R k7 (int .i64 n8)) (∀k9,Up k7 k9→∃m,m<m5∧I5 m k9 [int .i64 (wrap .i64 (n3+1))])) (Tt∧(∃I10:Nat→World→List Value→Prop,(∃m10,∀k10,Up k5 k10→I10 m10 k10 [int .i64 0])∧
 ∀m10 k10 vs10,Up k5 k10→I10 m10 k10 vs10→∃n4,some [int .i64 n4]=some vs10∧
 Br (decide ((n4:Int)<(l1:Nat))) (Ad A1∧Ix n4 l1∧
 ∃n5,∃cs6,Seg 3 cs6∧∃cs7,Seg 3 cs7∧∃cs8,Seg 3 cs8∧Sy.ReadAt k10.cell? A1 (Int.toNat n4*10+0) 10 (agg ((int .i64 n5) :: (cs6.toList++(cs7.toList++(cs8.toList++([]))))).toArray)∧
 Cl k10 99 #[S3 A0 l0 c0 A1 l1 c1 A2 l2 c2,agg ((int .i64 n5) :: (cs6.toList++(cs7.toList++(cs8.toList++([]))))).toArray] fun k12 r11=>Gi r11 fun n9=>
 Br ((n9:Int) != 0) (Rt R k12 (int .i64 n9)) (∀k14,Up k12 k14→∃m,m<m10∧I10 m k14 [int .i64 (wrap .i64 (n4+1))])) (Cl k10 100 #[S3 A0 l0 c0 A1 l1 c1 A2 l2 c2] fun k16 r15=>Gi r15 fun n5=>
 Br ((n5:Int) != 0) (Rt R k16 (int .i64 n5)) (Cl k16 101 #[S3 A0 l0 c0 A1 l1 c1 A2 l2 c2] fun k19 r18=>∃M6:Nat,some (Value.map (some M6))=some r18∧
 Tt∧(∃I20:Nat→World→List Value→Prop,(∃m20,∀k20,Up k19 k20→I20 m20 k20 [int .i64 0])∧
 ∀m20 k20 vs20,Up k19 k20→I20 m20 k20 vs20→∃n7,some [int .i64 n7]=some vs20∧
 Br (decide ((n7:Int)<(l1:Nat))) (Ad A1∧Ix n7 l1∧
 ∃n8,∃cs9,Seg 3 cs9∧∃cs10,Seg 3 cs10∧∃cs11,Seg 3 cs11∧Sy.ReadAt k20.cell? A1 (Int.toNat n7*10+0) 10 (agg ((int .i64 n8) :: (cs9.toList++(cs10.toList++(cs11.toList++([]))))).toArray)∧
 Cl k20 88 #[agg cs10,agg cs11] fun k22 r21=>Gt 3 r21 fun cs12=>
 ∃A13 l13 c13,Sy.LookAt Tryz.prog k22 189 M6 (int .i64 n7) (slice A13 l13 c13)∧
 Tt∧(∃I23:Nat→World→List Value→Prop,(∃m23,∀k23,Up k22 k23→I23 m23 k23 [int .i64 0,agg cs12])∧
 ∀m23 k23 vs23,Up k22 k23→I23 m23 k23 vs23→∃n14,∃cs15,Seg 3 cs15∧some [int .i64 n14,agg cs15]=some vs23∧
 Br (decide ((n14:Int)<(l13:Nat))) (Ad A13∧Ix n14 l13∧
 ∃n16,∃n17,∃cs18,Seg 3 cs18∧Sy.ReadAt k23.cell? A13 (Int.toNat n14*5+0) 5 (agg ((int .i64 n16) :: ((int .i64 n17) :: (cs18.toList++([])))).toArray)∧
 Cl k23 88 #[agg cs15,agg cs18] fun k25 r24=>Gt 3 r24 fun cs19=>
 ∀k26,Up k25 k26→∃m,m<m23∧I23 m k26 [int .i64 (wrap .i64 (n14+1)),agg cs19]) (Cl k23 55 #[agg cs9,agg cs15] fun k28 r27=>Gb r27 fun b16=>
 Br b16 (Rt R k28 (int .i64 60)) (∀k30,Up k28 k30→∃m,m<m20∧I20 m k30 [int .i64 (wrap .i64 (n7+1))])))) (Rt R k20 (int .i64 0))))))))))))))))))) :
  CallsG Tryz.prog 54 #[S3 A0 l0 c0 A1 l1 c1 A2 l2 c2] k R:=
  qY { opq:=[75],loops:=[(0,[.tmp 47 false [.int .i64]]),(2,[.tmp 60 false [.int .i64]]),(4,[.tmp 81 false [.int .i64]]),(6,[.tmp 95 false [.int .i64],.blk 2 [.seg 3]])] } h
theorem aKo 
 (h:Tt∧(Tt∧(Br (((l3:Nat):Int) != (l1:Nat)) (Rt R k (int .i64 4)) (Tt∧(Br (((l4:Nat):Int) != (l1:Nat)) (Rt R k (int .i64 4)) (Tt∧(Br (((l5:Nat):Int) != (l1:Nat)) (Rt R k (int .i64 4)) (Rt R k (int .i64 0))))))))) :
 CallsG Tryz.prog 114 #[S3 A0 l0 c0 A1 l1 c1 A2 l2 c2,S3 A3 l3 c3 A4 l4 c4 A5 l5 c5] k R:=
 qY { opq:=[75] } h
theorem aPc 
 (h:Cl k 54 #[S3 A0 l0 c0 A1 l1 c1 A2 l2 c2] fun k1 r0=>Gi r0 fun n6=>
 Br ((n6:Int) != 0) (Rt R k1 (int .i64 n6)) (Cl k1 114 #[S3 A0 l0 c0 A1 l1 c1 A2 l2 c2,S3 A3 l3 c3 A4 l4 c4 A5 l5 c5] fun k4 r3=>Gi r3 fun n7=>
 Rt R k4 (int .i64 n7))) :
  CallsG Tryz.prog 91 #[S3 A0 l0 c0 A1 l1 c1 A2 l2 c2,S3 A3 l3 c3 A4 l4 c4 A5 l5 c5] k R:=
  qY { opq:=[75] } h
theorem aUz 
 (h:Cl k 101 #[S3 A0 l0 c0 A1 l1 c1 A2 l2 c2] fun k1 r0=>∃M3:Nat,some (Value.map (some M3))=some r0∧
 Rt R k1 (agg #[slice A0 l0 c0,slice A1 l1 c1,slice A2 l2 c2,Value.map (some M3)])) :
  CallsG Tryz.prog 68 #[S3 A0 l0 c0 A1 l1 c1 A2 l2 c2] k R:=
  qY { opq:=[75] } h
theorem aKi (hcs2:Seg 3 cs2)
 (h:Rt R k (int .i64 (wrap .i64 ((wrap .i64 (n0+n1))-n3)))) :
 CallsG Tryz.prog 135 #[agg ((int .i64 n0) :: ((int .i64 n1) :: (cs2.toList++([])))).toArray,int .i64 n3] k R:=
 qX { opq:=[75] } [.agg [.var 0,.var 1,.seg 2 3],.one (.var 3)] [int .i64 n0,int .i64 n1,agg cs2,int .i64 n3] [.int .i64,.int .i64,.seg 3,.int .i64] ⟨⟨_,rfl⟩,⟨_,rfl⟩,⟨cs2,rfl,hcs2⟩,⟨_,rfl⟩,trivial⟩ h
theorem aPr (hcs0:Seg 3 cs0)
 (h:Rt R k (agg cs0)) :
 CallsG Tryz.prog 93 #[agg cs0] k R:=
 qX { opq:=[75] } [.agg [.seg 0 3]] [agg cs0] [.seg 3] ⟨⟨cs0,rfl,hcs0⟩,trivial⟩ h
theorem aPw (hcs7:Seg 3 cs7) (hcs8:Seg 3 cs8)
 (h:Tt∧(∃I0:Nat→World→List Value→Prop,(∃m0,∀k0,Up k k0→I0 m0 k0 [int .i64 0,tuple #[slice none 0 0,agg #[]],tuple #[slice none 0 0,agg #[]],tuple #[slice none 0 0,agg #[]]])∧
 ∀m0 k0 vs0,Up k k0→I0 m0 k0 vs0→∃n9,∃A10 l10 c10,∃cs11,Sy.RowC cs11∧∃A12 l12 c12,∃cs13,Sy.RowC cs13∧∃A14 l14 c14,∃cs15,Sy.RowC cs15∧some [int .i64 n9,tuple #[slice A10 l10 c10,agg cs11],tuple #[slice A12 l12 c12,agg cs13],tuple #[slice A14 l14 c14,agg cs15]]=some vs0∧
 Br (decide ((n9:Int)<(l1:Nat))) (Ad A1∧Ix n9 l1∧
 ∃n16,∃cs17,Seg 3 cs17∧∃cs18,Seg 3 cs18∧∃cs19,Seg 3 cs19∧Sy.ReadAt k0.cell? A1 (Int.toNat n9*10+0) 10 (agg ((int .i64 n16) :: (cs17.toList++(cs18.toList++(cs19.toList++([]))))).toArray)∧
 El k0 A4 n9 l4 3 fun cs20=>
 Cl k0 89 #[agg cs7,agg cs20] fun k2 r1=>Gt 3 r1 fun cs21=>
 Cl k2 90 #[agg cs18,agg cs21] fun k4 r3=>Gt 3 r3 fun cs22=>
 Cl k4 89 #[agg cs8,agg cs20] fun k6 r5=>Gt 3 r5 fun cs23=>
 Cl k6 90 #[agg cs19,agg cs23] fun k8 r7=>Gt 3 r7 fun cs24=>
 Cl k8 88 #[agg cs22,agg cs24] fun k10 r9=>Gt 3 r9 fun cs25=>
 ∃A26 l26 c26,Sy.LookAt Tryz.prog k10 189 M3 (int .i64 n9) (slice A26 l26 c26)∧
 Tt∧(∃I11:Nat→World→List Value→Prop,(∃m11,∀k11,Up k10 k11→I11 m11 k11 [int .i64 0,agg cs25])∧
 ∀m11 k11 vs11,Up k10 k11→I11 m11 k11 vs11→∃n27,∃cs28,Seg 3 cs28∧some [int .i64 n27,agg cs28]=some vs11∧
 Br (decide ((n27:Int)<(l26:Nat))) (Ad A26∧Ix n27 l26∧
 ∃n29,∃n30,∃cs31,Seg 3 cs31∧Sy.ReadAt k11.cell? A26 (Int.toNat n27*5+0) 5 (agg ((int .i64 n29) :: ((int .i64 n30) :: (cs31.toList++([])))).toArray)∧
 Cl k11 135 #[agg ((int .i64 n29) :: ((int .i64 n30) :: (cs31.toList++([])))).toArray,int .i64 n9] fun k13 r12=>Gi r12 fun n32=>
 El k13 A4 n32 l4 3 fun cs33=>
 Cl k13 89 #[agg cs33,agg cs20] fun k15 r14=>Gt 3 r14 fun cs34=>
 Cl k15 90 #[agg cs31,agg cs34] fun k17 r16=>Gt 3 r16 fun cs35=>
 Cl k17 88 #[agg cs28,agg cs35] fun k19 r18=>Gt 3 r18 fun cs36=>
 ∀k20,Up k19 k20→∃m,m<m11∧I11 m k20 [int .i64 (wrap .i64 (n27+1)),agg cs36]) (Ad A0∧Ix n16 l0∧
 ∃A29 l29 c29,∃A30 l30 c30,∃cs31,Seg 3 cs31∧∃cs32,Seg 3 cs32∧Sy.ReadAt k11.cell? A0 (Int.toNat n16*8+0) 8 (agg ((slice A29 l29 c29) :: ((slice A30 l30 c30) :: (cs31.toList++(cs32.toList++([]))))).toArray)∧
 Cl k11 136 #[agg cs28,agg cs17] fun k22 r21=>Gt 3 r21 fun cs33=>
 Cl k22 88 #[agg cs20,agg cs33] fun k24 r23=>Gt 3 r23 fun cs34=>
 Cl k24 93 #[agg cs34] fun k26 r25=>Gt 3 r25 fun cs35=>
 (cs35.toList++([]):List Value).length=Int.toNat 1*3∧(0:Int)≤1∧Sy.sizeOk 56 (l10+Int.toNat 1)∧∀(A36:Option Addr) (l36 c36:Nat) (cs37:Array Value),l36=l10+Int.toNat 1→cs37=cs11++(cs35.toList++([]):List Value).toArray→l36≤c36→
 El k26 A5 n9 l5 3 fun cs38=>
 Cl k26 137 #[slice A29 l29 c29,agg cs20] fun k28 r27=>Gt 3 r27 fun cs39=>
 Cl k28 88 #[agg cs38,agg cs39] fun k30 r29=>Gt 3 r29 fun cs40=>
 (cs40.toList++([]):List Value).length=Int.toNat 1*3∧(0:Int)≤1∧Sy.sizeOk 56 (l12+Int.toNat 1)∧∀(A41:Option Addr) (l41 c41:Nat) (cs42:Array Value),l41=l12+Int.toNat 1→cs42=cs13++(cs40.toList++([]):List Value).toArray→l41≤c41→
 El k30 A6 n9 l6 3 fun cs43=>
 Cl k30 137 #[slice A30 l30 c30,agg cs20] fun k32 r31=>Gt 3 r31 fun cs44=>
 Cl k32 88 #[agg cs43,agg cs44] fun k34 r33=>Gt 3 r33 fun cs45=>
 (cs45.toList++([]):List Value).length=Int.toNat 1*3∧(0:Int)≤1∧Sy.sizeOk 56 (l14+Int.toNat 1)∧∀(A46:Option Addr) (l46 c46:Nat) (cs47:Array Value),l46=l14+Int.toNat 1→cs47=cs15++(cs45.toList++([]):List Value).toArray→l46≤c46→
 ∀k35,Up k34 k35→∃m,m<m0∧I0 m k35 [int .i64 (wrap .i64 (n9+1)),tuple #[slice A36 l36 c36,agg cs37],tuple #[slice A41 l41 c41,agg cs42],tuple #[slice A46 l46 c46,agg cs47]]))) (∀k36,Up k0 k36→Sy.RowAt k36 A10 cs11→
 ∀k37,Up k36 k37→Sy.RowAt k37 A12 cs13→
 ∀k38,Up k37 k38→Sy.RowAt k38 A14 cs15→
 Rt R k38 (S3 A10 l10 c10 A12 l12 c12 A14 l14 c14)))) :
  CallsG Tryz.prog 92 #[agg #[slice A0 l0 c0,slice A1 l1 c1,slice A2 l2 c2,Value.map (some M3)],S3 A4 l4 c4 A5 l5 c5 A6 l6 c6,agg cs7,agg cs8,Value.func (.func 93) #[] #[]] k R:=
  Sy.execFn_use_heap (cfg:={ opq:=[75],loops:=[(0,[.tmp 23 false [.int .i64],.rb 5 0 75 3,.rb 5 1 75 3,.rb 5 2 75 3]),(2,[.tmp 51 false [.int .i64],.blk 8 [.seg 3]])] }) (args:=[.agg (qV 0 4),.agg (qV 4 3),.agg [.seg 7 3],.agg [.seg 8 3],.one (.fn 93 [])]) (vals:=[slice A0 l0 c0,slice A1 l1 c1,slice A2 l2 c2,Value.map (some M3),slice A4 l4 c4,slice A5 l5 c5,slice A6 l6 c6,agg cs7,agg cs8]) (kinds:=[.slice,.slice,.slice,.map,.slice,.slice,.slice,.seg 3,.seg 3]) (blks:=[]) (heap:=[]) ox ⟨qS,qS,qS,⟨_,rfl⟩,qS,qS,qS,⟨cs7,rfl,hcs7⟩,⟨cs8,rfl,hcs8⟩,trivial⟩ ox trivial ox h
theorem aFe (hcs6:Seg 3 cs6) (hcs7:Seg 3 cs7)
 (h:Cl k 91 #[S3 A0 l0 c0 A1 l1 c1 A2 l2 c2,S3 A3 l3 c3 A4 l4 c4 A5 l5 c5] fun k1 r0=>Gi r0 fun n8=>
 Br ((n8:Int) != 0) (Rt R k1 (tuple #[Z3,int .i64 n8])) (Cl k1 68 #[S3 A0 l0 c0 A1 l1 c1 A2 l2 c2] fun k4 r3=>∃A9 l9 c9,∃A10 l10 c10,∃A11 l11 c11,∃M12:Nat,some (agg #[slice A9 l9 c9,slice A10 l10 c10,slice A11 l11 c11,Value.map (some M12)])=some r3∧
 Cl k4 92 #[agg #[slice A9 l9 c9,slice A10 l10 c10,slice A11 l11 c11,Value.map (some M12)],S3 A3 l3 c3 A4 l4 c4 A5 l5 c5,agg cs6,agg cs7,Value.func (.func 93) #[] #[]] fun k6 r5=>∃A13 l13 c13,∃A14 l14 c14,∃A15 l15 c15,some (S3 A13 l13 c13 A14 l14 c14 A15 l15 c15)=some r5∧
 Rt R k6 (tuple #[S3 A13 l13 c13 A14 l14 c14 A15 l15 c15,int .i64 0]))) :
  CallsG Tryz.prog 45 #[S3 A0 l0 c0 A1 l1 c1 A2 l2 c2,S3 A3 l3 c3 A4 l4 c4 A5 l5 c5,agg cs6,agg cs7] k R:=
  qX { opq:=[75] } [.agg (qV 0 3),.agg (qV 3 3),.agg [.seg 6 3],.agg [.seg 7 3]] [slice A0 l0 c0,slice A1 l1 c1,slice A2 l2 c2,slice A3 l3 c3,slice A4 l4 c4,slice A5 l5 c5,agg cs6,agg cs7] [.slice,.slice,.slice,.slice,.slice,.slice,.seg 3,.seg 3] ⟨qS,qS,qS,qS,qS,qS,⟨cs6,rfl,hcs6⟩,⟨cs7,rfl,hcs7⟩,trivial⟩ h
theorem aFb 
 (h:Cl k 138 #[slice A0 l0 c0] fun k1 r0=>∃A3 l3 c3,some (slice A3 l3 c3)=some r0∧
 Cl k1 138 #[slice A1 l1 c1] fun k3 r2=>∃A4 l4 c4,some (slice A4 l4 c4)=some r2∧
 Cl k3 138 #[slice A2 l2 c2] fun k5 r4=>∃A5 l5 c5,some (slice A5 l5 c5)=some r4∧
 Rt R k5 (S3 A3 l3 c3 A4 l4 c4 A5 l5 c5)) :
  CallsG Tryz.prog 94 #[S3 A0 l0 c0 A1 l1 c1 A2 l2 c2] k R:=
  qY { opq:=[75] } h
theorem aVd 
 (h:Cl k 91 #[S3 A0 l0 c0 A1 l1 c1 A2 l2 c2,S3 A3 l3 c3 A4 l4 c4 A5 l5 c5] fun k1 r0=>Gi r0 fun n8=>
 Br ((n8:Int) != 0) (Rt R k1 (tuple #[Z3,int .i64 n8])) (Tt∧(Tt∧(Br (((l6:Nat):Int) != (l7:Nat)) (Rt R k1 (tuple #[Z3,int .i64 4])) (Tt∧(Br (decide (((l6:Nat):Int) > 2000)) (Rt R k1 (tuple #[Z3,int .i64 4])) (Cl k1 68 #[S3 A0 l0 c0 A1 l1 c1 A2 l2 c2] fun k6 r5=>∃A9 l9 c9,∃A10 l10 c10,∃A11 l11 c11,∃M12:Nat,some (agg #[slice A9 l9 c9,slice A10 l10 c10,slice A11 l11 c11,Value.map (some M12)])=some r5∧
 Cl k6 94 #[S3 A3 l3 c3 A4 l4 c4 A5 l5 c5] fun k8 r7=>∃A13 l13 c13,∃A14 l14 c14,∃A15 l15 c15,some (S3 A13 l13 c13 A14 l14 c14 A15 l15 c15)=some r7∧
 Tt∧(∃I9:Nat→World→List Value→Prop,(∃m9,∀k9,Up k8 k9→I9 m9 k9 [int .i64 0,S3 A13 l13 c13 A14 l14 c14 A15 l15 c15])∧
 ∀m9 k9 vs9,Up k8 k9→I9 m9 k9 vs9→∃n16,∃A17 l17 c17,∃A18 l18 c18,∃A19 l19 c19,some [int .i64 n16,S3 A17 l17 c17 A18 l18 c18 A19 l19 c19]=some vs9∧
 Br (decide ((n16:Int)<(l6:Nat))) (El k9 A6 n16 l6 3 fun cs20=>
 El k9 A7 n16 l7 3 fun cs21=>
 Cl k9 92 #[agg #[slice A9 l9 c9,slice A10 l10 c10,slice A11 l11 c11,Value.map (some M12)],S3 A17 l17 c17 A18 l18 c18 A19 l19 c19,agg cs20,agg cs21,Value.func (.func 93) #[] #[]] fun k11 r10=>∃A22 l22 c22,∃A23 l23 c23,∃A24 l24 c24,some (S3 A22 l22 c22 A23 l23 c23 A24 l24 c24)=some r10∧
 ∀k12,Up k11 k12→∃m,m<m9∧I9 m k12 [int .i64 (wrap .i64 (n16+1)),S3 A22 l22 c22 A23 l23 c23 A24 l24 c24]) (Rt R k9 (tuple #[S3 A17 l17 c17 A18 l18 c18 A19 l19 c19,int .i64 0])))))))))) :
  CallsG Tryz.prog 46 #[S3 A0 l0 c0 A1 l1 c1 A2 l2 c2,S3 A3 l3 c3 A4 l4 c4 A5 l5 c5,slice A6 l6 c6,slice A7 l7 c7] k R:=
  qY { opq:=[75],loops:=[(0,[.tmp 39 false [.int .i64],.blk 4 [.slice,.slice,.slice]])] } h
theorem aKn (hcs3:Seg 3 cs3)
 (h:Tt∧(∃I0:Nat→World→List Value→Prop,(∃m0,∀k0,Up k k0→I0 m0 k0 [int .i64 0,tuple #[slice none 0 0,agg #[]],tuple #[slice none 0 0,agg #[]],tuple #[slice none 0 0,agg #[]]])∧
 ∀m0 k0 vs0,Up k k0→I0 m0 k0 vs0→∃n4,∃A5 l5 c5,∃cs6,Sy.RowC cs6∧∃A7 l7 c7,∃cs8,Sy.RowC cs8∧∃A9 l9 c9,∃cs10,Sy.RowC cs10∧some [int .i64 n4,tuple #[slice A5 l5 c5,agg cs6],tuple #[slice A7 l7 c7,agg cs8],tuple #[slice A9 l9 c9,agg cs10]]=some vs0∧
 Br (decide ((n4:Int)<(l1:Nat))) ((cs3.toList++([]):List Value).length=Int.toNat 1*3∧(0:Int)≤1∧Sy.sizeOk 56 (l5+Int.toNat 1)∧∀(A11:Option Addr) (l11 c11:Nat) (cs12:Array Value),l11=l5+Int.toNat 1→cs12=cs6++(cs3.toList++([]):List Value).toArray→l11≤c11→
 ([bool false,slice none 0 0,slice none 0 0]:List Value).length=Int.toNat 1*3∧(0:Int)≤1∧Sy.sizeOk 56 (l7+Int.toNat 1)∧∀(A13:Option Addr) (l13 c13:Nat) (cs14:Array Value),l13=l7+Int.toNat 1→cs14=cs8++([bool false,slice none 0 0,slice none 0 0]:List Value).toArray→l13≤c13→
 ([bool false,slice none 0 0,slice none 0 0]:List Value).length=Int.toNat 1*3∧(0:Int)≤1∧Sy.sizeOk 56 (l9+Int.toNat 1)∧∀(A15:Option Addr) (l15 c15:Nat) (cs16:Array Value),l15=l9+Int.toNat 1→cs16=cs10++([bool false,slice none 0 0,slice none 0 0]:List Value).toArray→l15≤c15→
 ∀k1,Up k0 k1→∃m,m<m0∧I0 m k1 [int .i64 (wrap .i64 (n4+1)),tuple #[slice A11 l11 c11,agg cs12],tuple #[slice A13 l13 c13,agg cs14],tuple #[slice A15 l15 c15,agg cs16]]) (∀k2,Up k0 k2→Sy.RowAt k2 A5 cs6→
 ∀k3,Up k2 k3→Sy.RowAt k3 A7 cs8→
 ∀k4,Up k3 k4→Sy.RowAt k4 A9 cs10→
 Rt R k4 (S3 A5 l5 c5 A7 l7 c7 A9 l9 c9)))) :
  CallsG Tryz.prog 56 #[S3 A0 l0 c0 A1 l1 c1 A2 l2 c2,agg cs3] k R:=
  qX { opq:=[75],loops:=[(0,[.tmp 9 false [.int .i64],.rb 3 0 75 3,.rb 3 1 75 3,.rb 3 2 75 3])] } [.agg (qV 0 3),.agg [.seg 3 3]] [slice A0 l0 c0,slice A1 l1 c1,slice A2 l2 c2,agg cs3] [.slice,.slice,.slice,.seg 3] ⟨qS,qS,qS,⟨cs3,rfl,hcs3⟩,trivial⟩ h
end Go.Proofs.YtpeakfmjibfkpaaGreat

namespace Go.Proofs.YtpeakfmjibfkpaaGreat
open IntKind (wrap)
open Go.RowKit
open Value (agg slice int bool tuple)
open Sy (Up Sees CallsG Seg execFn_use)
set_option maxRecDepth 100000
variable {k:World}{R:World→Value→Prop}{A0 A1 A2 A3 A4 A5:Option Addr}{c0 c1 c2 c3 c4 c5 l0 l1 l2 l3 l4 l5:Nat}{cs0 cs1 cs7 cs8:Array Value}{n0 n1 n3 n6:Int}
theorem aNk 
 (h:Tt∧(Br (((l0:Nat):Int) == 0) (Rt R k (int .i64 4)) (Tt∧(Br (decide (((l0:Nat):Int) > 16)) (Rt R k (int .i64 4)) (∃I2:Nat→World→List Value→Prop,(∃m2,∀k2,Up k k2→I2 m2 k2 [int .i64 0])∧
 ∀m2 k2 vs2,Up k k2→I2 m2 k2 vs2→∃n1,some [int .i64 n1]=some vs2∧
 Tt∧(Br (decide ((n1:Int)<(l0:Nat))) (Br (decide ((n1:Int) > 0)) (Ad A0∧Ix n1 l0∧
 Ad A0∧Ix n1 l0∧
 ∃cs2,Seg 3 cs2∧Sy.ReadAt k2.cell? A0 (Int.toNat n1*6+0) 3 (agg cs2)∧
 Ad A0∧((0:Int)≤(wrap .i64 (n1-1))∧((wrap .i64 (n1-1)):Int)<(l0:Nat))∧
 Ad A0∧((0:Int)≤(wrap .i64 (n1-1))∧((wrap .i64 (n1-1)):Int)<(l0:Nat))∧
 ∃cs3,Seg 3 cs3∧Sy.ReadAt k2.cell? A0 (Int.toNat (wrap .i64 (n1-1))*6+0) 3 (agg cs3)∧
 Cl k2 59 #[agg cs2,agg cs3] fun k4 r3=>Gi r3 fun n4=>
 Br (decide ((n4:Int)≤0)) (Rt R k4 (int .i64 7)) (Ad A0∧Ix n1 l0∧
 Ad A0∧Ix n1 l0∧
 ∃cs5,Seg 3 cs5∧Sy.ReadAt k4.cell? A0 (Int.toNat n1*6+3) 3 (agg cs5)∧
 Cl k4 105 #[agg cs5] fun k7 r6=>Gi r6 fun n6=>
 Br (decide ((n6:Int)<0)) (Rt R k7 (int .i64 1)) (Br (decide ((n1:Int) > 0)) (Ad A0∧Ix n1 l0∧
 Ad A0∧Ix n1 l0∧
 ∃cs7,Seg 3 cs7∧Sy.ReadAt k7.cell? A0 (Int.toNat n1*6+3) 3 (agg cs7)∧
 Ad A0∧((0:Int)≤(wrap .i64 (n1-1))∧((wrap .i64 (n1-1)):Int)<(l0:Nat))∧
 Ad A0∧((0:Int)≤(wrap .i64 (n1-1))∧((wrap .i64 (n1-1)):Int)<(l0:Nat))∧
 ∃cs8,Seg 3 cs8∧Sy.ReadAt k7.cell? A0 (Int.toNat (wrap .i64 (n1-1))*6+3) 3 (agg cs8)∧
 Cl k7 59 #[agg cs7,agg cs8] fun k10 r9=>Gi r9 fun n9=>
 Br (decide ((n9:Int)<0)) (Rt R k10 (int .i64 7)) (∀k12,Up k10 k12→∃m,m<m2∧I2 m k12 [int .i64 (wrap .i64 (n1+1))])) (∀k13,Up k7 k13→∃m,m<m2∧I2 m k13 [int .i64 (wrap .i64 (n1+1))])))) (Ad A0∧Ix n1 l0∧
 Ad A0∧Ix n1 l0∧
 ∃cs2,Seg 3 cs2∧Sy.ReadAt k2.cell? A0 (Int.toNat n1*6+3) 3 (agg cs2)∧
 Cl k2 105 #[agg cs2] fun k15 r14=>Gi r14 fun n3=>
 Br (decide ((n3:Int)<0)) (Rt R k15 (int .i64 1)) (Br (decide ((n1:Int) > 0)) (Ad A0∧Ix n1 l0∧
 Ad A0∧Ix n1 l0∧
 ∃cs4,Seg 3 cs4∧Sy.ReadAt k15.cell? A0 (Int.toNat n1*6+3) 3 (agg cs4)∧
 Ad A0∧((0:Int)≤(wrap .i64 (n1-1))∧((wrap .i64 (n1-1)):Int)<(l0:Nat))∧
 Ad A0∧((0:Int)≤(wrap .i64 (n1-1))∧((wrap .i64 (n1-1)):Int)<(l0:Nat))∧
 ∃cs5,Seg 3 cs5∧Sy.ReadAt k15.cell? A0 (Int.toNat (wrap .i64 (n1-1))*6+3) 3 (agg cs5)∧
 Cl k15 59 #[agg cs4,agg cs5] fun k18 r17=>Gi r17 fun n6=>
 Br (decide ((n6:Int)<0)) (Rt R k18 (int .i64 7)) (∀k20,Up k18 k20→∃m,m<m2∧I2 m k20 [int .i64 (wrap .i64 (n1+1))])) (∀k21,Up k15 k21→∃m,m<m2∧I2 m k21 [int .i64 (wrap .i64 (n1+1))])))) (Rt R k2 (int .i64 0)))))))) :
  CallsG Tryz.prog 104 #[slice A0 l0 c0] k R:=
  qY { opq:=[81],loops:=[(0,[.tmp 3 false [.int .i64]])] } h
theorem aNm (hcs1:Seg 3 cs1)
 (h:Tt∧(∃I0:Nat→World→List Value→Prop,(∃m0,∀k0,Up k k0→I0 m0 k0 [int .i64 (wrap .i64 ((l0:Nat)-1))])∧
 ∀m0 k0 vs0,Up k k0→I0 m0 k0 vs0→∃n2,some [int .i64 n2]=some vs0∧
 Br (decide ((n2:Int) ≥ 0)) (Ad A0∧Ix n2 l0∧
 Ad A0∧Ix n2 l0∧
 ∃cs3,Seg 3 cs3∧Sy.ReadAt k0.cell? A0 (Int.toNat n2*6+0) 3 (agg cs3)∧
 Cl k0 59 #[agg cs3,agg cs1] fun k2 r1=>Gi r1 fun n4=>
 Br (decide ((n4:Int)≤0)) (Ad A0∧Ix n2 l0∧
 Ad A0∧Ix n2 l0∧
 ∃cs5,Seg 3 cs5∧Sy.ReadAt k2.cell? A0 (Int.toNat n2*6+3) 3 (agg cs5)∧
 Rt R k2 (agg cs5)) (∀k4,Up k2 k4→∃m,m<m0∧I0 m k4 [int .i64 (wrap .i64 (n2-1))])) (Cl k0 61 #[int .i64 0] fun k6 r5=>Gt 3 r5 fun cs3=>
 Rt R k6 (agg cs3)))) :
  CallsG Tryz.prog 163 #[slice A0 l0 c0,agg cs1] k R:=
  qX { opq:=[81],loops:=[(0,[.tmp 5 false [.int .i64]])] } [.one (.var 0),.agg [.seg 1 3]] [slice A0 l0 c0,agg cs1] [.slice,.seg 3] ⟨qS,⟨cs1,rfl,hcs1⟩,trivial⟩ h
theorem aHe 
 (h:Br (decide ((n0:Int) ≥ 0)) (Rt R k (bool (decide ((n0:Int)<n1)))) (Rt R k (bool false))) :
 CallsG Tryz.prog 106 #[int .i64 n0,int .i64 n1] k R:=
 qY { opq:=[81] } h
theorem aNp 
 (h:Ad A1∧Ix n3 l1∧
 Ad A1∧Ix n3 l1∧
 ∃cs4,Seg 3 cs4∧Sy.ReadAt k.cell? A1 (Int.toNat n3*10+4) 3 (agg cs4)∧
 Ad A1∧Ix n3 l1∧
 Ad A1∧Ix n3 l1∧
 ∃cs5,Seg 3 cs5∧Sy.ReadAt k.cell? A1 (Int.toNat n3*10+7) 3 (agg cs5)∧
 Cl k 153 #[agg cs4,agg cs5] fun k1 r0=>Gt 3 r0 fun cs6=>
 ∃I2:Nat→World→List Value→Prop,(∃m2,∀k2,Up k1 k2→I2 m2 k2 [int .i64 0,agg cs6])∧
 ∀m2 k2 vs2,Up k1 k2→I2 m2 k2 vs2→∃n7,∃cs8,Seg 3 cs8∧some [int .i64 n7,agg cs8]=some vs2∧
 Tt∧(Br (decide ((n7:Int)<(l2:Nat))) (Ad A2∧Ix n7 l2∧
 Ad A2∧Ix n7 l2∧
 ∃n9,Sy.ReadAt k2.cell? A2 (Int.toNat n7*5+0) 1 (int .i64 n9)∧
 Br ((n9:Int) == n3) (Ad A2∧Ix n7 l2∧
 Ad A2∧Ix n7 l2∧
 ∃cs10,Seg 3 cs10∧Sy.ReadAt k2.cell? A2 (Int.toNat n7*5+2) 3 (agg cs10)∧
 Cl k2 153 #[agg cs8,agg cs10] fun k4 r3=>Gt 3 r3 fun cs11=>
 ∀k5,Up k4 k5→∃m,m<m2∧I2 m k5 [int .i64 (wrap .i64 (n7+1)),agg cs11]) (Ad A2∧Ix n7 l2∧
 Ad A2∧Ix n7 l2∧
 ∃n10,Sy.ReadAt k2.cell? A2 (Int.toNat n7*5+1) 1 (int .i64 n10)∧
 Br ((n10:Int) == n3) (Ad A2∧Ix n7 l2∧
 Ad A2∧Ix n7 l2∧
 ∃cs11,Seg 3 cs11∧Sy.ReadAt k2.cell? A2 (Int.toNat n7*5+2) 3 (agg cs11)∧
 Cl k2 153 #[agg cs8,agg cs11] fun k7 r6=>Gt 3 r6 fun cs12=>
 ∀k8,Up k7 k8→∃m,m<m2∧I2 m k8 [int .i64 (wrap .i64 (n7+1)),agg cs12]) (∀k9,Up k2 k9→∃m,m<m2∧I2 m k9 [int .i64 (wrap .i64 (n7+1)),agg cs8]))) (Rt R k2 (agg cs8)))) :
  CallsG Tryz.prog 107 #[S3 A0 l0 c0 A1 l1 c1 A2 l2 c2,int .i64 n3] k R:=
  qY { opq:=[81],loops:=[(0,[.tmp 6 false [.int .i64],.blk 2 [.seg 3]])] } h
theorem aNt 
 (h:Tt∧(Br (((l0:Nat):Int) == 0) (Rt R k (int .i64 4)) (Tt∧(Br (decide (((l0:Nat):Int) > 8)) (Rt R k (int .i64 4)) (Tt∧(Br (((l1:Nat):Int) == 0) (Rt R k (int .i64 4)) (Tt∧(Br (decide (((l1:Nat):Int) > 24)) (Rt R k (int .i64 4)) (Tt∧(Br (decide (((l2:Nat):Int) > 64)) (Rt R k (int .i64 4)) (∃I5:Nat→World→List Value→Prop,(∃m5,∀k5,Up k k5→I5 m5 k5 [int .i64 0])∧
 ∀m5 k5 vs5,Up k k5→I5 m5 k5 vs5→∃n3,some [int .i64 n3]=some vs5∧
 Tt∧(Br (decide ((n3:Int)<(l0:Nat))) (Ad A0∧Ix n3 l0∧
 ∃A4 l4 c4,∃A5 l5 c5,∃cs6,Seg 3 cs6∧∃cs7,Seg 3 cs7∧Sy.ReadAt k5.cell? A0 (Int.toNat n3*8+0) 8 (agg ((slice A4 l4 c4) :: ((slice A5 l5 c5) :: (cs6.toList++(cs7.toList++([]))))).toArray)∧
 Cl k5 104 #[slice A4 l4 c4] fun k7 r6=>Gi r6 fun n8=>
 Br ((n8:Int) != 0) (Rt R k7 (int .i64 n8)) (Cl k7 104 #[slice A5 l5 c5] fun k10 r9=>Gi r9 fun n9=>
 Br ((n9:Int) != 0) (Rt R k10 (int .i64 n9)) (Cl k10 105 #[agg cs6] fun k13 r12=>Gi r12 fun n10=>
 Br (decide ((n10:Int)≤0)) (Rt R k13 (int .i64 1)) (Cl k13 105 #[agg cs7] fun k16 r15=>Gi r15 fun n11=>
 Br (decide ((n11:Int)≤0)) (Rt R k16 (int .i64 1)) (∀k18,Up k16 k18→∃m,m<m5∧I5 m k18 [int .i64 (wrap .i64 (n3+1))]))))) (∃I19:Nat→World→List Value→Prop,(∃m19,∀k19,Up k5 k19→I19 m19 k19 [int .i64 0])∧
 ∀m19 k19 vs19,Up k5 k19→I19 m19 k19 vs19→∃n4,some [int .i64 n4]=some vs19∧
 Tt∧(Br (decide ((n4:Int)<(l1:Nat))) (Ad A1∧Ix n4 l1∧
 ∃n5,∃cs6,Seg 3 cs6∧∃cs7,Seg 3 cs7∧∃cs8,Seg 3 cs8∧Sy.ReadAt k19.cell? A1 (Int.toNat n4*10+0) 10 (agg ((int .i64 n5) :: (cs6.toList++(cs7.toList++(cs8.toList++([]))))).toArray)∧
 Tt∧(Cl k19 106 #[int .i64 n5,int .i64 (l0:Nat)] fun k21 r20=>Gb r20 fun b9=>
 Br (!b9) (Rt R k21 (int .i64 1)) (Cl k21 105 #[agg cs6] fun k24 r23=>Gi r23 fun n10=>
 Br (decide ((n10:Int)≤0)) (Rt R k24 (int .i64 1)) (Cl k24 105 #[agg cs7] fun k27 r26=>Gi r26 fun n11=>
 Br (decide ((n11:Int)<0)) (Rt R k27 (int .i64 1)) (Cl k27 105 #[agg cs8] fun k30 r29=>Gi r29 fun n12=>
 Br (decide ((n12:Int)<0)) (Rt R k30 (int .i64 1)) (∀k32,Up k30 k32→∃m,m<m19∧I19 m k32 [int .i64 (wrap .i64 (n4+1))])))))) (∃I33:Nat→World→List Value→Prop,(∃m33,∀k33,Up k19 k33→I33 m33 k33 [int .i64 0])∧
 ∀m33 k33 vs33,Up k19 k33→I33 m33 k33 vs33→∃n5,some [int .i64 n5]=some vs33∧
 Tt∧(Br (decide ((n5:Int)<(l2:Nat))) (Ad A2∧Ix n5 l2∧
 ∃n6,∃n7,∃cs8,Seg 3 cs8∧Sy.ReadAt k33.cell? A2 (Int.toNat n5*5+0) 5 (agg ((int .i64 n6) :: ((int .i64 n7) :: (cs8.toList++([])))).toArray)∧
 Tt∧(Cl k33 106 #[int .i64 n6,int .i64 (l1:Nat)] fun k35 r34=>Gb r34 fun b9=>
 Br (!b9) (Rt R k35 (int .i64 1)) (Tt∧(Cl k35 106 #[int .i64 n7,int .i64 (l1:Nat)] fun k38 r37=>Gb r37 fun b10=>
 Br (!b10) (Rt R k38 (int .i64 1)) (Br ((n6:Int) == n7) (Rt R k38 (int .i64 1)) (Cl k38 105 #[agg cs8] fun k42 r41=>Gi r41 fun n11=>
 Br (decide ((n11:Int)<0)) (Rt R k42 (int .i64 1)) (∃I44:Nat→World→List Value→Prop,(∃m44,∀k44,Up k42 k44→I44 m44 k44 [int .i64 0])∧
 ∀m44 k44 vs44,Up k42 k44→I44 m44 k44 vs44→∃n12,some [int .i64 n12]=some vs44∧
 Br (decide ((n12:Int)<n5)) (Ad A2∧Ix n12 l2∧
 ∃n13,∃n14,∃cs15,Seg 3 cs15∧Sy.ReadAt k44.cell? A2 (Int.toNat n12*5+0) 5 (agg ((int .i64 n13) :: ((int .i64 n14) :: (cs15.toList++([])))).toArray)∧
 Br ((n13:Int) == n6) (Br ((n14:Int) == n7) (Rt R k44 (int .i64 8)) (Br ((n13:Int) == n7) (Br ((n14:Int) == n6) (Rt R k44 (int .i64 8)) (∀k47,Up k44 k47→∃m,m<m44∧I44 m k47 [int .i64 (wrap .i64 (n12+1))])) (∀k48,Up k44 k48→∃m,m<m44∧I44 m k48 [int .i64 (wrap .i64 (n12+1))]))) (Br ((n13:Int) == n7) (Br ((n14:Int) == n6) (Rt R k44 (int .i64 8)) (∀k50,Up k44 k50→∃m,m<m44∧I44 m k50 [int .i64 (wrap .i64 (n12+1))])) (∀k51,Up k44 k51→∃m,m<m44∧I44 m k51 [int .i64 (wrap .i64 (n12+1))]))) (∀k52,Up k44 k52→∃m,m<m33∧I33 m k52 [int .i64 (wrap .i64 (n5+1))])))))))) (∃I53:Nat→World→List Value→Prop,(∃m53,∀k53,Up k33 k53→I53 m53 k53 [int .i64 0])∧
 ∀m53 k53 vs53,Up k33 k53→I53 m53 k53 vs53→∃n6,some [int .i64 n6]=some vs53∧
 Tt∧(Br (decide ((n6:Int)<(l1:Nat))) (Ad A1∧Ix n6 l1∧
 Ad A1∧Ix n6 l1∧
 ∃cs7,Seg 3 cs7∧Sy.ReadAt k53.cell? A1 (Int.toNat n6*10+1) 3 (agg cs7)∧
 Cl k53 107 #[S3 A0 l0 c0 A1 l1 c1 A2 l2 c2,int .i64 n6] fun k55 r54=>Gt 3 r54 fun cs8=>
 Cl k55 59 #[agg cs8,agg cs7] fun k57 r56=>Gi r56 fun n9=>
 Br (decide ((n9:Int) > 0)) (Rt R k57 (int .i64 60)) (∀k59,Up k57 k59→∃m,m<m53∧I53 m k59 [int .i64 (wrap .i64 (n6+1))])) (Rt R k53 (int .i64 0)))))))))))))))))))) :
  CallsG Tryz.prog 58 #[S3 A0 l0 c0 A1 l1 c1 A2 l2 c2] k R:=
  qY { opq:=[81],loops:=[(0,[.tmp 3 false [.int .i64]]),(2,[.tmp 7 false [.int .i64]]),(4,[.tmp 9 false [.int .i64]]),(6,[.tmp 11 false [.int .i64]]),(8,[.tmp 13 false [.int .i64]])] } h
theorem aNl 
 (h:Tt∧(Tt∧(Br (((l3:Nat):Int) == (l1:Nat)) (Tt∧(Br (((l4:Nat):Int) == (l1:Nat)) (Tt∧(Rt R k (bool (((l5:Nat):Int) == (l1:Nat))))) (Rt R k (bool false)))) (Rt R k (bool false))))) :
 CallsG Tryz.prog 117 #[S3 A0 l0 c0 A1 l1 c1 A2 l2 c2,S3 A3 l3 c3 A4 l4 c4 A5 l5 c5] k R:=
 qY { opq:=[81] } h
theorem bAc (hcs0:Seg 3 cs0) (hcs1:Seg 3 cs1)
 (h:Cl k 199 #[agg cs0,agg cs1] fun k1 r0=>∃cs2,Seg 3 cs2∧∃n3,some (tuple #[agg cs2,int .i64 n3])=some r0∧
 Rt R k1 (agg cs2)) :
  CallsG Tryz.prog 161 #[agg cs0,agg cs1] k R:=
  qX { opq:=[81] } [.agg [.seg 0 3],.agg [.seg 1 3]] [agg cs0,agg cs1] [.seg 3,.seg 3] ⟨⟨cs0,rfl,hcs0⟩,⟨cs1,rfl,hcs1⟩,trivial⟩ h
theorem aTg (hcs7:Seg 3 cs7) (hcs8:Seg 3 cs8)
 (h:Ad A1∧Ix n6 l1∧
 ∃n9,∃cs10,Seg 3 cs10∧∃cs11,Seg 3 cs11∧∃cs12,Seg 3 cs12∧Sy.ReadAt k.cell? A1 (Int.toNat n6*10+0) 10 (agg ((int .i64 n9) :: (cs10.toList++(cs11.toList++(cs12.toList++([]))))).toArray)∧
 Ad A3∧Ix n6 l3∧
 ∃cs13,Seg 3 cs13∧Sy.ReadAt k.cell? A3 (Int.toNat n6*3+0) 3 (agg cs13)∧
 Cl k 108 #[agg cs7,agg cs13] fun k1 r0=>Gt 3 r0 fun cs14=>
 Cl k1 125 #[agg cs11,agg cs14] fun k3 r2=>Gt 3 r2 fun cs15=>
 Cl k3 108 #[agg cs8,agg cs13] fun k5 r4=>Gt 3 r4 fun cs16=>
 Cl k5 125 #[agg cs12,agg cs16] fun k7 r6=>Gt 3 r6 fun cs17=>
 Cl k7 153 #[agg cs15,agg cs17] fun k9 r8=>Gt 3 r8 fun cs18=>
 ∃I10:Nat→World→List Value→Prop,(∃m10,∀k10,Up k9 k10→I10 m10 k10 [int .i64 0,agg cs18])∧
 ∀m10 k10 vs10,Up k9 k10→I10 m10 k10 vs10→∃n19,∃cs20,Seg 3 cs20∧some [int .i64 n19,agg cs20]=some vs10∧
 Tt∧(Br (decide ((n19:Int)<(l2:Nat))) (Ad A2∧Ix n19 l2∧
 ∃n21,∃n22,∃cs23,Seg 3 cs23∧Sy.ReadAt k10.cell? A2 (Int.toNat n19*5+0) 5 (agg ((int .i64 n21) :: ((int .i64 n22) :: (cs23.toList++([])))).toArray)∧
 Br ((n21:Int) == n6) (El k10 A3 n22 l3 3 fun cs24=>
 Cl k10 108 #[agg cs24,agg cs13] fun k12 r11=>Gt 3 r11 fun cs25=>
 Cl k12 125 #[agg cs23,agg cs25] fun k14 r13=>Gt 3 r13 fun cs26=>
 Cl k14 153 #[agg cs20,agg cs26] fun k16 r15=>Gt 3 r15 fun cs27=>
 Br ((n22:Int) == n6) (El k16 A3 n21 l3 3 fun cs28=>
 Cl k16 108 #[agg cs28,agg cs13] fun k18 r17=>Gt 3 r17 fun cs29=>
 Cl k18 125 #[agg cs23,agg cs29] fun k20 r19=>Gt 3 r19 fun cs30=>
 Cl k20 153 #[agg cs27,agg cs30] fun k22 r21=>Gt 3 r21 fun cs31=>
 ∀k23,Up k22 k23→∃m,m<m10∧I10 m k23 [int .i64 (wrap .i64 (n19+1)),agg cs31]) (∀k24,Up k16 k24→∃m,m<m10∧I10 m k24 [int .i64 (wrap .i64 (n19+1)),agg cs27])) (Br ((n22:Int) == n6) (El k10 A3 n21 l3 3 fun cs24=>
 Cl k10 108 #[agg cs24,agg cs13] fun k26 r25=>Gt 3 r25 fun cs25=>
 Cl k26 125 #[agg cs23,agg cs25] fun k28 r27=>Gt 3 r27 fun cs26=>
 Cl k28 153 #[agg cs20,agg cs26] fun k30 r29=>Gt 3 r29 fun cs27=>
 ∀k31,Up k30 k31→∃m,m<m10∧I10 m k31 [int .i64 (wrap .i64 (n19+1)),agg cs27]) (∀k32,Up k10 k32→∃m,m<m10∧I10 m k32 [int .i64 (wrap .i64 (n19+1)),agg cs20]))) (Rt R k10 (agg cs20)))) :
  CallsG Tryz.prog 162 #[S3 A0 l0 c0 A1 l1 c1 A2 l2 c2,S3 A3 l3 c3 A4 l4 c4 A5 l5 c5,int .i64 n6,agg cs7,agg cs8] k R:=
  qX { opq:=[81],loops:=[(0,[.tmp 14 false [.int .i64],.blk 7 [.seg 3]])] } [.agg (qV 0 3),.agg (qV 3 3),.one (.var 6),.agg [.seg 7 3],.agg [.seg 8 3]] [slice A0 l0 c0,slice A1 l1 c1,slice A2 l2 c2,slice A3 l3 c3,slice A4 l4 c4,slice A5 l5 c5,int .i64 n6,agg cs7,agg cs8] [.slice,.slice,.slice,.slice,.slice,.slice,.int .i64,.seg 3,.seg 3] ⟨qS,qS,qS,qS,qS,qS,⟨_,rfl⟩,⟨cs7,rfl,hcs7⟩,⟨cs8,rfl,hcs8⟩,trivial⟩ h
end Go.Proofs.YtpeakfmjibfkpaaGreat

namespace Go.Proofs.YtpeakfmjibfkpaaGreat
open Go.RowKit
open Value (agg slice int bool tuple)
open Sy (Up Sees CallsG Seg execFn_use)
set_option maxRecDepth 100000
variable {k:World}{R:World→Value→Prop}{A0 A1 A2:Option Addr}{c0 c1 c2 l0 l1 l2:Nat}{cs3:Array Value}
theorem aBv (hcs3:Seg 3 cs3)
 (h:Cl k 54 #[S3 A0 l0 c0 A1 l1 c1 A2 l2 c2] fun k1 r0=>Gi r0 fun n4=>
 Br ((n4:Int) != 0) (Rt R k1 (tuple #[Z3,int .i64 n4])) (Cl k1 56 #[S3 A0 l0 c0 A1 l1 c1 A2 l2 c2,agg cs3] fun k4 r3=>∃A5 l5 c5,∃A6 l6 c6,∃A7 l7 c7,some (S3 A5 l5 c5 A6 l6 c6 A7 l7 c7)=some r3∧
 Rt R k4 (tuple #[S3 A5 l5 c5 A6 l6 c6 A7 l7 c7,int .i64 0]))) :
  CallsG Tryz.prog 40 #[S3 A0 l0 c0 A1 l1 c1 A2 l2 c2,agg cs3] k R:=
  qX { opq:=[75] } [.agg (qV 0 3),.agg [.seg 3 3]] [slice A0 l0 c0,slice A1 l1 c1,slice A2 l2 c2,agg cs3] [.slice,.slice,.slice,.seg 3] ⟨qS,qS,qS,⟨cs3,rfl,hcs3⟩,trivial⟩ h
end Go.Proofs.YtpeakfmjibfkpaaGreat

namespace Go.Proofs.YtpeakfmjibfkpaaGreat
open IntKind (wrap)
open Go.RowKit
open Value (agg slice int bool tuple)
open Sy (Up Sees CallsG Seg execFn_use)
set_option maxRecDepth 100000
variable {k:World}{R:World→Value→Prop}{n0:Int}{A0 A1 A2:Option Addr}{c0 c1 c2 l0 l1 l2:Nat}{cs3:Array Value}
theorem aHf 
 (h:∃I0:Nat→World→List Value→Prop,(∃m0,∀k0,Up k k0→I0 m0 k0 [int .i64 0,tuple #[slice none 0 0,agg #[]]])∧
 ∀m0 k0 vs0,Up k k0→I0 m0 k0 vs0→∃n1,∃A2 l2 c2,∃cs3,Sy.RowC cs3∧some [int .i64 n1,tuple #[slice A2 l2 c2,agg cs3]]=some vs0∧
 Br (decide ((n1:Int)<n0)) (Cl k0 61 #[int .i64 0] fun k2 r1=>Gt 3 r1 fun cs4=>
 (cs4.toList++([]):List Value).length=Int.toNat 1*3∧(0:Int)≤1∧Sy.sizeOk 56 (l2+Int.toNat 1)∧∀(A5:Option Addr) (l5 c5:Nat) (cs6:Array Value),l5=l2+Int.toNat 1→cs6=cs3++(cs4.toList++([]):List Value).toArray→l5≤c5→
 ∀k3,Up k2 k3→∃m,m<m0∧I0 m k3 [int .i64 (wrap .i64 (n1+1)),tuple #[slice A5 l5 c5,agg cs6]]) (Rt R k0 (tuple #[slice A2 l2 c2,agg cs3]))) :
  Sy.CallsR Tryz.prog 109 #[int .i64 n0] k 81 3 R:=
  Sy.execFnR_use (cfg:={ opq:=[81],loops:=[(0,[.tmp 4 false [.int .i64],.rw 3 81 3])],gift:=some (81,3) }) (args:=[.one (.var 0)]) (vals:=[int .i64 n0]) (kinds:=[.int .i64]) ox ⟨⟨_,rfl⟩,trivial⟩ ox ox h
theorem aNn (hcs3:Seg 3 cs3)
 (h:Tt∧(∀k0,Up k k0→Sy.CallsR Tryz.prog 109 #[int .i64 (l1:Nat)] k0 81 3 fun k1 r0=>∃A4 l4 c4,∃cs5,r0=tuple #[slice A4 l4 c4,agg cs5]∧
 ∀k2,Up k1 k2→Sy.CallsR Tryz.prog 109 #[int .i64 (l1:Nat)] k2 81 3 fun k3 r2=>∃A6 l6 c6,∃cs7,r2=tuple #[slice A6 l6 c6,agg cs7]∧
 ∀k4,Up k3 k4→Sy.CallsR Tryz.prog 109 #[int .i64 (l1:Nat)] k4 81 3 fun k5 r4=>∃A8 l8 c8,∃cs9,r4=tuple #[slice A8 l8 c8,agg cs9]∧
 ∃I6:Nat→World→List Value→Prop,(∃m6,∀k6,Up k5 k6→I6 m6 k6 [int .i64 0,tuple #[slice A4 l4 c4,agg cs5]])∧
 ∀m6 k6 vs6,Up k5 k6→I6 m6 k6 vs6→∃n10,∃A11 l11 c11,∃cs12,Sy.RowC cs12∧some [int .i64 n10,tuple #[slice A11 l11 c11,agg cs12]]=some vs6∧
 Br (decide ((n10:Int)<(l1:Nat))) ((decide ((0:Int)≤n10∧(n10:Int)<(l11:Nat)))=true∧
 (Ix n10 l11∧∀cs13:Array Value,cs13=Sy.over cs12 (Int.toNat n10*3+0) (cs3.toList++([]))→
 ∀k7,Up k6 k7→∃m,m<m6∧I6 m k7 [int .i64 (wrap .i64 (n10+1)),tuple #[slice A11 l11 c11,agg cs13]])) (∀k8,Up k6 k8→Sy.RowAt k8 A11 cs12→
 ∀k9,Up k8 k9→Sy.RowAt k9 A6 cs7→
 ∀k10,Up k9 k10→Sy.RowAt k10 A8 cs9→
 Rt R k10 (S3 A11 l11 c11 A6 l6 c6 A8 l8 c8)))) :
  CallsG Tryz.prog 60 #[S3 A0 l0 c0 A1 l1 c1 A2 l2 c2,agg cs3] k R:=
  qX { opq:=[81],loops:=[(0,[.tmp 7 false [.int .i64],.rb 3 0 81 3])],adopt:=[109] } [.agg (qV 0 3),.agg [.seg 3 3]] [slice A0 l0 c0,slice A1 l1 c1,slice A2 l2 c2,agg cs3] [.slice,.slice,.slice,.seg 3] ⟨qS,qS,qS,⟨cs3,rfl,hcs3⟩,trivial⟩ h
