/- Several texts in one. (Printed by prep.py.) -/
import Derived.Test.YtebaclefnpipfaaGreatTeQ5
namespace Go.Proofs.YtebaclefnpipfaaGreat
open Go.RowKit
open Value (agg slice int bool tuple)
open Sy (Up Sees CallsG Seg execFn_use)
set_option maxRecDepth 100000
variable {k:World}{R:World→Value→Prop}
end Go.Proofs.YtebaclefnpipfaaGreat

namespace Go.Proofs.YtebaclefnpipfaaGreat
open Go.RowKit
open Value (agg slice int bool tuple)
open Sy (Up Sees CallsG Seg execFn_use)
set_option maxRecDepth 100000
variable {k:World}{R:World→Value→Prop}{n0 n1:Int}
theorem aVx 
 (h:Br ((n1:Int) == 0) (Cl k 8 #[int .i64 n0] fun k1 r0=>Gt 3 r0 fun cs2=>
 Rt R k1 (agg cs2)) (Cl k 90 #[int .i64 n0,int .i64 n1] fun k4 r3=>∃cs2,Seg 3 cs2∧∃n3,some (tuple #[agg cs2,int .i64 n3])=some r3∧
 Rt R k4 (agg cs2))) :
  CallsG Tryz.prog 53 #[agg #[int .i64 n0,int .i64 n1]] k R:=
  qY { opq:=[40] } h
end Go.Proofs.YtebaclefnpipfaaGreat

namespace Go.Proofs.YtebaclefnpipfaaGreat
open Go.RowKit Num W32
open Sy (Up Sees CallsG)
section
variable {k k':World}{R:World→Value→Prop}{x y q:Rat}{K L:Nat}{cs cs':Array Value}{g:Bool}{A A':Option Addr}{l c l' c':Nat}
theorem aWt {n d:Int}(hn:In64 n) (hd:In64 d) (C:∀k' ds,Up k k'→RatV k' ds (ofQ n d) 1→R k' (.agg ds)):Cl k 53 #[.agg #[.int .i64 n,.int .i64 d]] R:=by
 intro k0 u0;refine aVx ⟨fun hb=>?_,fun hb=>?_⟩
 ·have e:d=0:=eq_of_beq hb;refine bK hn.1 hn.2 ?_;intro k1 c1 u1 h1;refine⟨c1,h1.seg,rfl,?_⟩;intro k2 u2;refine C k2 c1 (u0.trans (u1.trans u2)) ?_;unfold ofQ;rw [og e];exact h1.up u2
 ·have e:¬ d=0:=by simpa using hb
  refine aTv hn.1 hn.2 hd.1 hd.2 ?_;intro k1 c1 u1 h1;refine⟨c1,h1.seg,_,rfl,?_⟩;intro k2 u2;refine C k2 c1 (u0.trans (u1.trans u2)) ?_;unfold ofQ;rw [oh e];exact h1.up u2
end
open IntKind (wrap)
open Value (agg slice int bool tuple)
open Sy (Up Sees CallsG Seg execFn_use)
set_option maxRecDepth 100000
variable {k:World}{R:World→Value→Prop}{cs0 cs1 cs2 cs3 cs4 cs5 cs6 cs7 cs8:Array Value}{A0 A1 A2 A3 A4 A5 A6 A7:Option Addr}{M3 c0 c1 c2 c3 c4 c5 c6 c7 l0 l1 l2 l3 l4 l5 l6 l7:Nat}{n0 n1 n3:Int}
theorem aGu (hcs0:Seg 3 cs0) (hcs1:Seg 3 cs1)
 (h:Cl k 20 #[agg cs0,agg cs1] fun k1 r0=>Gi r0 fun n2=>
 Rt R k1 (bool (decide ((n2:Int)<0)))) :
  CallsG Tryz.prog 27 #[agg cs0,agg cs1] k R:=
  qX { opq:=[40] } [.agg [.seg 0 3],.agg [.seg 1 3]] [agg cs0,agg cs1] [.seg 3,.seg 3] ⟨⟨cs0,rfl,hcs0⟩,⟨cs1,rfl,hcs1⟩,trivial⟩ h
theorem aQo (hcs0:Seg 3 cs0)
 (h:Cl k 54 #[agg cs0] fun k1 r0=>Gi r0 fun n1=>
 Rt R k1 (bool (decide ((n1:Int)<0)))) :
  CallsG Tryz.prog 99 #[agg cs0] k R:=
  qX { opq:=[40] } [.agg [.seg 0 3]] [agg cs0] [.seg 3] ⟨⟨cs0,rfl,hcs0⟩,trivial⟩ h
theorem aQs (hcs0:Seg 3 cs0)
 (h:Cl k 54 #[agg cs0] fun k1 r0=>Gi r0 fun n1=>
 Rt R k1 (bool (decide ((n1:Int) > 0)))) :
  CallsG Tryz.prog 55 #[agg cs0] k R:=
  qX { opq:=[40] } [.agg [.seg 0 3]] [agg cs0] [.seg 3] ⟨⟨cs0,rfl,hcs0⟩,trivial⟩ h
theorem aQt (hcs0:Seg 3 cs0) (hcs1:Seg 3 cs1)
 (h:Cl k 92 #[agg cs0,agg cs1] fun k1 r0=>∃cs2,Seg 3 cs2∧∃n3,some (tuple #[agg cs2,int .i64 n3])=some r0∧
 Rt R k1 (agg cs2)) :
  CallsG Tryz.prog 57 #[agg cs0,agg cs1] k R:=
  qX { opq:=[40] } [.agg [.seg 0 3],.agg [.seg 1 3]] [agg cs0,agg cs1] [.seg 3,.seg 3] ⟨⟨cs0,rfl,hcs0⟩,⟨cs1,rfl,hcs1⟩,trivial⟩ h
theorem aHk 
 (h:Tt∧(Br (decide (((l0:Nat):Int)<1)) (Rt R k (int .i64 4)) (Tt∧(Br (decide (((l0:Nat):Int) > 16)) (Rt R k (int .i64 4)) (Tt∧(∃I2:Nat→World→List Value→Prop,(∃m2,∀k2,Up k k2→I2 m2 k2 [int .i64 0])∧
 ∀m2 k2 vs2,Up k k2→I2 m2 k2 vs2→∃n1,some [int .i64 n1]=some vs2∧
 Br (decide ((n1:Int)<(l0:Nat))) (Ad A0∧Ix n1 l0∧
 ∃cs2,Seg 3 cs2∧∃cs3,Seg 3 cs3∧Sy.ReadAt k2.cell? A0 (Int.toNat n1*6+0) 6 (agg (cs2.toList++(cs3.toList++([]))).toArray)∧
 Br (decide ((n1:Int) > 0)) (Ad A0∧((0:Int)≤(wrap .i64 (n1-1))∧((wrap .i64 (n1-1)):Int)<(l0:Nat))∧
 Ad A0∧((0:Int)≤(wrap .i64 (n1-1))∧((wrap .i64 (n1-1)):Int)<(l0:Nat))∧
 ∃cs4,Seg 3 cs4∧Sy.ReadAt k2.cell? A0 (Int.toNat (wrap .i64 (n1-1))*6+0) 3 (agg cs4)∧
 Cl k2 27 #[agg cs4,agg cs2] fun k4 r3=>Gb r3 fun b5=>
 Br (!b5) (Rt R k4 (int .i64 7)) (Cl k4 99 #[agg cs3] fun k7 r6=>Gb r6 fun b6=>
 Br b6 (Rt R k7 (int .i64 1)) (Br (decide ((n1:Int) > 0)) (Ad A0∧((0:Int)≤(wrap .i64 (n1-1))∧((wrap .i64 (n1-1)):Int)<(l0:Nat))∧
 Ad A0∧((0:Int)≤(wrap .i64 (n1-1))∧((wrap .i64 (n1-1)):Int)<(l0:Nat))∧
 ∃cs7,Seg 3 cs7∧Sy.ReadAt k7.cell? A0 (Int.toNat (wrap .i64 (n1-1))*6+3) 3 (agg cs7)∧
 Cl k7 27 #[agg cs3,agg cs7] fun k10 r9=>Gb r9 fun b8=>
 Br b8 (Rt R k10 (int .i64 7)) (∀k12,Up k10 k12→∃m,m<m2∧I2 m k12 [int .i64 (wrap .i64 (n1+1))])) (∀k13,Up k7 k13→∃m,m<m2∧I2 m k13 [int .i64 (wrap .i64 (n1+1))])))) (Cl k2 99 #[agg cs3] fun k15 r14=>Gb r14 fun b4=>
 Br b4 (Rt R k15 (int .i64 1)) (Br (decide ((n1:Int) > 0)) (Ad A0∧((0:Int)≤(wrap .i64 (n1-1))∧((wrap .i64 (n1-1)):Int)<(l0:Nat))∧
 Ad A0∧((0:Int)≤(wrap .i64 (n1-1))∧((wrap .i64 (n1-1)):Int)<(l0:Nat))∧
 ∃cs5,Seg 3 cs5∧Sy.ReadAt k15.cell? A0 (Int.toNat (wrap .i64 (n1-1))*6+3) 3 (agg cs5)∧
 Cl k15 27 #[agg cs3,agg cs5] fun k18 r17=>Gb r17 fun b6=>
 Br b6 (Rt R k18 (int .i64 7)) (∀k20,Up k18 k20→∃m,m<m2∧I2 m k20 [int .i64 (wrap .i64 (n1+1))])) (∀k21,Up k15 k21→∃m,m<m2∧I2 m k21 [int .i64 (wrap .i64 (n1+1))])))) (Rt R k2 (int .i64 0)))))))) :
  CallsG Tryz.prog 98 #[slice A0 l0 c0] k R:=
  qY { opq:=[40],loops:=[(0,[.tmp 15 false [.int .i64]])] } h
theorem aQn (hcs2:Seg 3 cs2) (hcs3:Seg 3 cs3)
 (h:Cl k 98 #[slice A0 l0 c0] fun k1 r0=>Gi r0 fun n4=>
 Br ((n4:Int) != 0) (Rt R k1 (int .i64 n4)) (Cl k1 98 #[slice A1 l1 c1] fun k4 r3=>Gi r3 fun n5=>
 Br ((n5:Int) != 0) (Rt R k4 (int .i64 n5)) (Cl k4 55 #[agg cs2] fun k7 r6=>Gb r6 fun b6=>
 Br (!b6) (Rt R k7 (int .i64 1)) (Cl k7 55 #[agg cs3] fun k10 r9=>Gb r9 fun b7=>
 Br (!b7) (Rt R k10 (int .i64 1)) (Rt R k10 (int .i64 0)))))) :
  CallsG Tryz.prog 61 #[agg ((slice A0 l0 c0) :: ((slice A1 l1 c1) :: (cs2.toList++(cs3.toList++([]))))).toArray] k R:=
  qX { opq:=[40] } [.agg [.var 0,.var 1,.seg 2 3,.seg 3 3]] [slice A0 l0 c0,slice A1 l1 c1,agg cs2,agg cs3] [.slice,.slice,.seg 3,.seg 3] ⟨qS,qS,⟨cs2,rfl,hcs2⟩,⟨cs3,rfl,hcs3⟩,trivial⟩ h
theorem aLn (hcs4:Seg 3 cs4) (hcs5:Seg 3 cs5) (hcs6:Seg 3 cs6)
 (h:Br (decide ((n3:Int)<0)) (Rt R k (int .i64 1)) (Tt∧(Br (decide ((n3:Int) ≥ (l0:Nat))) (Rt R k (int .i64 1)) (Cl k 55 #[agg cs4] fun k3 r2=>Gb r2 fun b7=>
 Br (!b7) (Rt R k3 (int .i64 1)) (Cl k3 99 #[agg cs5] fun k6 r5=>Gb r5 fun b8=>
 Br b8 (Rt R k6 (int .i64 1)) (Cl k6 99 #[agg cs6] fun k9 r8=>Gb r8 fun b9=>
 Br b9 (Rt R k9 (int .i64 1)) (Rt R k9 (int .i64 0)))))))) :
  CallsG Tryz.prog 62 #[S3 A0 l0 c0 A1 l1 c1 A2 l2 c2,agg ((int .i64 n3) :: (cs4.toList++(cs5.toList++(cs6.toList++([]))))).toArray] k R:=
  qX { opq:=[40] } [.agg (qV 0 3),.agg [.var 3,.seg 4 3,.seg 5 3,.seg 6 3]] [slice A0 l0 c0,slice A1 l1 c1,slice A2 l2 c2,int .i64 n3,agg cs4,agg cs5,agg cs6] [.slice,.slice,.slice,.int .i64,.seg 3,.seg 3,.seg 3] ⟨qS,qS,qS,⟨_,rfl⟩,⟨cs4,rfl,hcs4⟩,⟨cs5,rfl,hcs5⟩,⟨cs6,rfl,hcs6⟩,trivial⟩ h
theorem aHm (hcs1:Seg 3 cs1)
 (h:Tt∧(∃I0:Nat→World→List Value→Prop,(∃m0,∀k0,Up k k0→I0 m0 k0 [int .i64 0,agg #[bool false,slice none 0 0,slice none 0 0]])∧
 ∀m0 k0 vs0,Up k k0→I0 m0 k0 vs0→∃n2,∃cs3,Seg 3 cs3∧some [int .i64 n2,agg cs3]=some vs0∧
 Br (decide ((n2:Int)<(l0:Nat))) (Ad A0∧Ix n2 l0∧
 ∃cs4,Seg 3 cs4∧∃cs5,Seg 3 cs5∧Sy.ReadAt k0.cell? A0 (Int.toNat n2*6+0) 6 (agg (cs4.toList++(cs5.toList++([]))).toArray)∧
 Cl k0 27 #[agg cs1,agg cs4] fun k2 r1=>Gb r1 fun b6=>
 Br b6 (Rt R k2 (agg cs3)) (∀k4,Up k2 k4→∃m,m<m0∧I0 m k4 [int .i64 (wrap .i64 (n2+1)),agg cs5])) (Rt R k0 (agg cs3)))) :
  CallsG Tryz.prog 70 #[slice A0 l0 c0,agg cs1] k R:=
  qX { opq:=[40],loops:=[(0,[.tmp 10 false [.int .i64],.blk 2 [.seg 3]])] } [.one (.var 0),.agg [.seg 1 3]] [slice A0 l0 c0,agg cs1] [.slice,.seg 3] ⟨qS,⟨cs1,rfl,hcs1⟩,trivial⟩ h
theorem aHt 
 (h:Tt∧(Br (decide (((l0:Nat):Int)<1)) (Rt R k (int .i64 4)) (Tt∧(Br (decide (((l0:Nat):Int) > 8)) (Rt R k (int .i64 4)) (Tt∧(Br (decide (((l1:Nat):Int)<1)) (Rt R k (int .i64 4)) (Tt∧(Br (decide (((l1:Nat):Int) > 24)) (Rt R k (int .i64 4)) (Tt∧(Br (decide (((l2:Nat):Int) > 64)) (Rt R k (int .i64 4)) (Tt∧(∃I5:Nat→World→List Value→Prop,(∃m5,∀k5,Up k k5→I5 m5 k5 [int .i64 0])∧
 ∀m5 k5 vs5,Up k k5→I5 m5 k5 vs5→∃n3,some [int .i64 n3]=some vs5∧
 Br (decide ((n3:Int)<(l0:Nat))) (Ad A0∧Ix n3 l0∧
 ∃A4 l4 c4,∃A5 l5 c5,∃cs6,Seg 3 cs6∧∃cs7,Seg 3 cs7∧Sy.ReadAt k5.cell? A0 (Int.toNat n3*8+0) 8 (agg ((slice A4 l4 c4) :: ((slice A5 l5 c5) :: (cs6.toList++(cs7.toList++([]))))).toArray)∧
 Cl k5 61 #[agg ((slice A4 l4 c4) :: ((slice A5 l5 c5) :: (cs6.toList++(cs7.toList++([]))))).toArray] fun k7 r6=>Gi r6 fun n8=>
 Br ((n8:Int) != 0) (Rt R k7 (int .i64 n8)) (∀k9,Up k7 k9→∃m,m<m5∧I5 m k9 [int .i64 (wrap .i64 (n3+1))])) (Tt∧(∃I10:Nat→World→List Value→Prop,(∃m10,∀k10,Up k5 k10→I10 m10 k10 [int .i64 0])∧
 ∀m10 k10 vs10,Up k5 k10→I10 m10 k10 vs10→∃n4,some [int .i64 n4]=some vs10∧
 Br (decide ((n4:Int)<(l1:Nat))) (Ad A1∧Ix n4 l1∧
 ∃n5,∃cs6,Seg 3 cs6∧∃cs7,Seg 3 cs7∧∃cs8,Seg 3 cs8∧Sy.ReadAt k10.cell? A1 (Int.toNat n4*10+0) 10 (agg ((int .i64 n5) :: (cs6.toList++(cs7.toList++(cs8.toList++([]))))).toArray)∧
 Cl k10 62 #[S3 A0 l0 c0 A1 l1 c1 A2 l2 c2,agg ((int .i64 n5) :: (cs6.toList++(cs7.toList++(cs8.toList++([]))))).toArray] fun k12 r11=>Gi r11 fun n9=>
 Br ((n9:Int) != 0) (Rt R k12 (int .i64 n9)) (∀k14,Up k12 k14→∃m,m<m10∧I10 m k14 [int .i64 (wrap .i64 (n4+1))])) (Cl k10 63 #[S3 A0 l0 c0 A1 l1 c1 A2 l2 c2] fun k16 r15=>Gi r15 fun n5=>
 Br ((n5:Int) != 0) (Rt R k16 (int .i64 n5)) (Cl k16 64 #[S3 A0 l0 c0 A1 l1 c1 A2 l2 c2] fun k19 r18=>∃M6:Nat,some (Value.map (some M6))=some r18∧
 Tt∧(∃I20:Nat→World→List Value→Prop,(∃m20,∀k20,Up k19 k20→I20 m20 k20 [int .i64 0])∧
 ∀m20 k20 vs20,Up k19 k20→I20 m20 k20 vs20→∃n7,some [int .i64 n7]=some vs20∧
 Br (decide ((n7:Int)<(l1:Nat))) (Ad A1∧Ix n7 l1∧
 ∃n8,∃cs9,Seg 3 cs9∧∃cs10,Seg 3 cs10∧∃cs11,Seg 3 cs11∧Sy.ReadAt k20.cell? A1 (Int.toNat n7*10+0) 10 (agg ((int .i64 n8) :: (cs9.toList++(cs10.toList++(cs11.toList++([]))))).toArray)∧
 Cl k20 18 #[agg cs10,agg cs11] fun k22 r21=>Gt 3 r21 fun cs12=>
 ∃A13 l13 c13,Sy.LookAt Tryz.prog k22 97 M6 (int .i64 n7) (slice A13 l13 c13)∧
 Tt∧(∃I23:Nat→World→List Value→Prop,(∃m23,∀k23,Up k22 k23→I23 m23 k23 [int .i64 0,agg cs12])∧
 ∀m23 k23 vs23,Up k22 k23→I23 m23 k23 vs23→∃n14,∃cs15,Seg 3 cs15∧some [int .i64 n14,agg cs15]=some vs23∧
 Br (decide ((n14:Int)<(l13:Nat))) (Ad A13∧Ix n14 l13∧
 ∃n16,∃n17,∃cs18,Seg 3 cs18∧Sy.ReadAt k23.cell? A13 (Int.toNat n14*5+0) 5 (agg ((int .i64 n16) :: ((int .i64 n17) :: (cs18.toList++([])))).toArray)∧
 Cl k23 18 #[agg cs15,agg cs18] fun k25 r24=>Gt 3 r24 fun cs19=>
 ∀k26,Up k25 k26→∃m,m<m23∧I23 m k26 [int .i64 (wrap .i64 (n14+1)),agg cs19]) (Cl k23 27 #[agg cs9,agg cs15] fun k28 r27=>Gb r27 fun b16=>
 Br b16 (Rt R k28 (int .i64 60)) (∀k30,Up k28 k30→∃m,m<m20∧I20 m k30 [int .i64 (wrap .i64 (n7+1))])))) (Rt R k20 (int .i64 0))))))))))))))))))) :
  CallsG Tryz.prog 26 #[S3 A0 l0 c0 A1 l1 c1 A2 l2 c2] k R:=
  qY { opq:=[40],loops:=[(0,[.tmp 47 false [.int .i64]]),(2,[.tmp 60 false [.int .i64]]),(4,[.tmp 81 false [.int .i64]]),(6,[.tmp 95 false [.int .i64],.blk 2 [.seg 3]])] } h
theorem aHp 
 (h:Tt∧(Tt∧(Br (((l3:Nat):Int) != (l1:Nat)) (Rt R k (int .i64 4)) (Tt∧(Br (((l4:Nat):Int) != (l1:Nat)) (Rt R k (int .i64 4)) (Tt∧(Br (((l5:Nat):Int) != (l1:Nat)) (Rt R k (int .i64 4)) (Rt R k (int .i64 0))))))))) :
 CallsG Tryz.prog 67 #[S3 A0 l0 c0 A1 l1 c1 A2 l2 c2,S3 A3 l3 c3 A4 l4 c4 A5 l5 c5] k R:=
 qY { opq:=[40] } h
theorem aLl 
 (h:Cl k 26 #[S3 A0 l0 c0 A1 l1 c1 A2 l2 c2] fun k1 r0=>Gi r0 fun n6=>
 Br ((n6:Int) != 0) (Rt R k1 (int .i64 n6)) (Cl k1 67 #[S3 A0 l0 c0 A1 l1 c1 A2 l2 c2,S3 A3 l3 c3 A4 l4 c4 A5 l5 c5] fun k4 r3=>Gi r3 fun n7=>
 Rt R k4 (int .i64 n7))) :
  CallsG Tryz.prog 32 #[S3 A0 l0 c0 A1 l1 c1 A2 l2 c2,S3 A3 l3 c3 A4 l4 c4 A5 l5 c5] k R:=
  qY { opq:=[40] } h
theorem aQp 
 (h:Cl k 64 #[S3 A0 l0 c0 A1 l1 c1 A2 l2 c2] fun k1 r0=>∃M3:Nat,some (Value.map (some M3))=some r0∧
 Rt R k1 (agg #[slice A0 l0 c0,slice A1 l1 c1,slice A2 l2 c2,Value.map (some M3)])) :
  CallsG Tryz.prog 33 #[S3 A0 l0 c0 A1 l1 c1 A2 l2 c2] k R:=
  qY { opq:=[40] } h
theorem aHi (hcs2:Seg 3 cs2)
 (h:Rt R k (int .i64 (wrap .i64 ((wrap .i64 (n0+n1))-n3)))) :
 CallsG Tryz.prog 69 #[agg ((int .i64 n0) :: ((int .i64 n1) :: (cs2.toList++([])))).toArray,int .i64 n3] k R:=
 qX { opq:=[40] } [.agg [.var 0,.var 1,.seg 2 3],.one (.var 3)] [int .i64 n0,int .i64 n1,agg cs2,int .i64 n3] [.int .i64,.int .i64,.seg 3,.int .i64] ⟨⟨_,rfl⟩,⟨_,rfl⟩,⟨cs2,rfl,hcs2⟩,⟨_,rfl⟩,trivial⟩ h
theorem aMb (hcs0:Seg 3 cs0)
 (h:Rt R k (agg cs0)) :
 CallsG Tryz.prog 36 #[agg cs0] k R:=
 qX { opq:=[40] } [.agg [.seg 0 3]] [agg cs0] [.seg 3] ⟨⟨cs0,rfl,hcs0⟩,trivial⟩ h
theorem aMh (hcs7:Seg 3 cs7) (hcs8:Seg 3 cs8)
 (h:Tt∧(∃I0:Nat→World→List Value→Prop,(∃m0,∀k0,Up k k0→I0 m0 k0 [int .i64 0,tuple #[slice none 0 0,agg #[]],tuple #[slice none 0 0,agg #[]],tuple #[slice none 0 0,agg #[]]])∧
 ∀m0 k0 vs0,Up k k0→I0 m0 k0 vs0→∃n9,∃A10 l10 c10,∃cs11,Sy.RowC cs11∧∃A12 l12 c12,∃cs13,Sy.RowC cs13∧∃A14 l14 c14,∃cs15,Sy.RowC cs15∧some [int .i64 n9,tuple #[slice A10 l10 c10,agg cs11],tuple #[slice A12 l12 c12,agg cs13],tuple #[slice A14 l14 c14,agg cs15]]=some vs0∧
 Br (decide ((n9:Int)<(l1:Nat))) (Ad A1∧Ix n9 l1∧
 ∃n16,∃cs17,Seg 3 cs17∧∃cs18,Seg 3 cs18∧∃cs19,Seg 3 cs19∧Sy.ReadAt k0.cell? A1 (Int.toNat n9*10+0) 10 (agg ((int .i64 n16) :: (cs17.toList++(cs18.toList++(cs19.toList++([]))))).toArray)∧
 El k0 A4 n9 l4 3 fun cs20=>
 Cl k0 30 #[agg cs7,agg cs20] fun k2 r1=>Gt 3 r1 fun cs21=>
 Cl k2 31 #[agg cs18,agg cs21] fun k4 r3=>Gt 3 r3 fun cs22=>
 Cl k4 30 #[agg cs8,agg cs20] fun k6 r5=>Gt 3 r5 fun cs23=>
 Cl k6 31 #[agg cs19,agg cs23] fun k8 r7=>Gt 3 r7 fun cs24=>
 Cl k8 18 #[agg cs22,agg cs24] fun k10 r9=>Gt 3 r9 fun cs25=>
 ∃A26 l26 c26,Sy.LookAt Tryz.prog k10 97 M3 (int .i64 n9) (slice A26 l26 c26)∧
 Tt∧(∃I11:Nat→World→List Value→Prop,(∃m11,∀k11,Up k10 k11→I11 m11 k11 [int .i64 0,agg cs25])∧
 ∀m11 k11 vs11,Up k10 k11→I11 m11 k11 vs11→∃n27,∃cs28,Seg 3 cs28∧some [int .i64 n27,agg cs28]=some vs11∧
 Br (decide ((n27:Int)<(l26:Nat))) (Ad A26∧Ix n27 l26∧
 ∃n29,∃n30,∃cs31,Seg 3 cs31∧Sy.ReadAt k11.cell? A26 (Int.toNat n27*5+0) 5 (agg ((int .i64 n29) :: ((int .i64 n30) :: (cs31.toList++([])))).toArray)∧
 Cl k11 69 #[agg ((int .i64 n29) :: ((int .i64 n30) :: (cs31.toList++([])))).toArray,int .i64 n9] fun k13 r12=>Gi r12 fun n32=>
 El k13 A4 n32 l4 3 fun cs33=>
 Cl k13 30 #[agg cs33,agg cs20] fun k15 r14=>Gt 3 r14 fun cs34=>
 Cl k15 31 #[agg cs31,agg cs34] fun k17 r16=>Gt 3 r16 fun cs35=>
 Cl k17 18 #[agg cs28,agg cs35] fun k19 r18=>Gt 3 r18 fun cs36=>
 ∀k20,Up k19 k20→∃m,m<m11∧I11 m k20 [int .i64 (wrap .i64 (n27+1)),agg cs36]) (Ad A0∧Ix n16 l0∧
 ∃A29 l29 c29,∃A30 l30 c30,∃cs31,Seg 3 cs31∧∃cs32,Seg 3 cs32∧Sy.ReadAt k11.cell? A0 (Int.toNat n16*8+0) 8 (agg ((slice A29 l29 c29) :: ((slice A30 l30 c30) :: (cs31.toList++(cs32.toList++([]))))).toArray)∧
 Cl k11 57 #[agg cs28,agg cs17] fun k22 r21=>Gt 3 r21 fun cs33=>
 Cl k22 18 #[agg cs20,agg cs33] fun k24 r23=>Gt 3 r23 fun cs34=>
 Cl k24 36 #[agg cs34] fun k26 r25=>Gt 3 r25 fun cs35=>
 (cs35.toList++([]):List Value).length=Int.toNat 1*3∧(0:Int)≤1∧Sy.sizeOk 56 (l10+Int.toNat 1)∧∀(A36:Option Addr) (l36 c36:Nat) (cs37:Array Value),l36=l10+Int.toNat 1→cs37=cs11++(cs35.toList++([]):List Value).toArray→l36≤c36→
 El k26 A5 n9 l5 3 fun cs38=>
 Cl k26 70 #[slice A29 l29 c29,agg cs20] fun k28 r27=>Gt 3 r27 fun cs39=>
 Cl k28 18 #[agg cs38,agg cs39] fun k30 r29=>Gt 3 r29 fun cs40=>
 (cs40.toList++([]):List Value).length=Int.toNat 1*3∧(0:Int)≤1∧Sy.sizeOk 56 (l12+Int.toNat 1)∧∀(A41:Option Addr) (l41 c41:Nat) (cs42:Array Value),l41=l12+Int.toNat 1→cs42=cs13++(cs40.toList++([]):List Value).toArray→l41≤c41→
 El k30 A6 n9 l6 3 fun cs43=>
 Cl k30 70 #[slice A30 l30 c30,agg cs20] fun k32 r31=>Gt 3 r31 fun cs44=>
 Cl k32 18 #[agg cs43,agg cs44] fun k34 r33=>Gt 3 r33 fun cs45=>
 (cs45.toList++([]):List Value).length=Int.toNat 1*3∧(0:Int)≤1∧Sy.sizeOk 56 (l14+Int.toNat 1)∧∀(A46:Option Addr) (l46 c46:Nat) (cs47:Array Value),l46=l14+Int.toNat 1→cs47=cs15++(cs45.toList++([]):List Value).toArray→l46≤c46→
 ∀k35,Up k34 k35→∃m,m<m0∧I0 m k35 [int .i64 (wrap .i64 (n9+1)),tuple #[slice A36 l36 c36,agg cs37],tuple #[slice A41 l41 c41,agg cs42],tuple #[slice A46 l46 c46,agg cs47]]))) (∀k36,Up k0 k36→Sy.RowAt k36 A10 cs11→
 ∀k37,Up k36 k37→Sy.RowAt k37 A12 cs13→
 ∀k38,Up k37 k38→Sy.RowAt k38 A14 cs15→
 Rt R k38 (S3 A10 l10 c10 A12 l12 c12 A14 l14 c14)))) :
  CallsG Tryz.prog 35 #[agg #[slice A0 l0 c0,slice A1 l1 c1,slice A2 l2 c2,Value.map (some M3)],S3 A4 l4 c4 A5 l5 c5 A6 l6 c6,agg cs7,agg cs8,Value.func (.func 36) #[] #[]] k R:=
  Sy.execFn_use_heap (cfg:={ opq:=[40],loops:=[(0,[.tmp 23 false [.int .i64],.rb 5 0 40 3,.rb 5 1 40 3,.rb 5 2 40 3]),(2,[.tmp 51 false [.int .i64],.blk 8 [.seg 3]])] }) (args:=[.agg (qV 0 4),.agg (qV 4 3),.agg [.seg 7 3],.agg [.seg 8 3],.one (.fn 36 [])]) (vals:=[slice A0 l0 c0,slice A1 l1 c1,slice A2 l2 c2,Value.map (some M3),slice A4 l4 c4,slice A5 l5 c5,slice A6 l6 c6,agg cs7,agg cs8]) (kinds:=[.slice,.slice,.slice,.map,.slice,.slice,.slice,.seg 3,.seg 3]) (blks:=[]) (heap:=[]) ox ⟨qS,qS,qS,⟨_,rfl⟩,qS,qS,qS,⟨cs7,rfl,hcs7⟩,⟨cs8,rfl,hcs8⟩,trivial⟩ ox trivial ox h
theorem aCq (hcs6:Seg 3 cs6) (hcs7:Seg 3 cs7)
 (h:Cl k 32 #[S3 A0 l0 c0 A1 l1 c1 A2 l2 c2,S3 A3 l3 c3 A4 l4 c4 A5 l5 c5] fun k1 r0=>Gi r0 fun n8=>
 Br ((n8:Int) != 0) (Rt R k1 (tuple #[Z3,int .i64 n8])) (Cl k1 33 #[S3 A0 l0 c0 A1 l1 c1 A2 l2 c2] fun k4 r3=>∃A9 l9 c9,∃A10 l10 c10,∃A11 l11 c11,∃M12:Nat,some (agg #[slice A9 l9 c9,slice A10 l10 c10,slice A11 l11 c11,Value.map (some M12)])=some r3∧
 Cl k4 35 #[agg #[slice A9 l9 c9,slice A10 l10 c10,slice A11 l11 c11,Value.map (some M12)],S3 A3 l3 c3 A4 l4 c4 A5 l5 c5,agg cs6,agg cs7,Value.func (.func 36) #[] #[]] fun k6 r5=>∃A13 l13 c13,∃A14 l14 c14,∃A15 l15 c15,some (S3 A13 l13 c13 A14 l14 c14 A15 l15 c15)=some r5∧
 Rt R k6 (tuple #[S3 A13 l13 c13 A14 l14 c14 A15 l15 c15,int .i64 0]))) :
  CallsG Tryz.prog 23 #[S3 A0 l0 c0 A1 l1 c1 A2 l2 c2,S3 A3 l3 c3 A4 l4 c4 A5 l5 c5,agg cs6,agg cs7] k R:=
  qX { opq:=[40] } [.agg (qV 0 3),.agg (qV 3 3),.agg [.seg 6 3],.agg [.seg 7 3]] [slice A0 l0 c0,slice A1 l1 c1,slice A2 l2 c2,slice A3 l3 c3,slice A4 l4 c4,slice A5 l5 c5,agg cs6,agg cs7] [.slice,.slice,.slice,.slice,.slice,.slice,.seg 3,.seg 3] ⟨qS,qS,qS,qS,qS,qS,⟨cs6,rfl,hcs6⟩,⟨cs7,rfl,hcs7⟩,trivial⟩ h
theorem aCo 
 (h:Cl k 68 #[slice A0 l0 c0] fun k1 r0=>∃A3 l3 c3,some (slice A3 l3 c3)=some r0∧
 Cl k1 68 #[slice A1 l1 c1] fun k3 r2=>∃A4 l4 c4,some (slice A4 l4 c4)=some r2∧
 Cl k3 68 #[slice A2 l2 c2] fun k5 r4=>∃A5 l5 c5,some (slice A5 l5 c5)=some r4∧
 Rt R k5 (S3 A3 l3 c3 A4 l4 c4 A5 l5 c5)) :
  CallsG Tryz.prog 34 #[S3 A0 l0 c0 A1 l1 c1 A2 l2 c2] k R:=
  qY { opq:=[40] } h
theorem aQv 
 (h:Cl k 32 #[S3 A0 l0 c0 A1 l1 c1 A2 l2 c2,S3 A3 l3 c3 A4 l4 c4 A5 l5 c5] fun k1 r0=>Gi r0 fun n8=>
 Br ((n8:Int) != 0) (Rt R k1 (tuple #[Z3,int .i64 n8])) (Tt∧(Tt∧(Br (((l6:Nat):Int) != (l7:Nat)) (Rt R k1 (tuple #[Z3,int .i64 4])) (Tt∧(Br (decide (((l6:Nat):Int) > 2000)) (Rt R k1 (tuple #[Z3,int .i64 4])) (Cl k1 33 #[S3 A0 l0 c0 A1 l1 c1 A2 l2 c2] fun k6 r5=>∃A9 l9 c9,∃A10 l10 c10,∃A11 l11 c11,∃M12:Nat,some (agg #[slice A9 l9 c9,slice A10 l10 c10,slice A11 l11 c11,Value.map (some M12)])=some r5∧
 Cl k6 34 #[S3 A3 l3 c3 A4 l4 c4 A5 l5 c5] fun k8 r7=>∃A13 l13 c13,∃A14 l14 c14,∃A15 l15 c15,some (S3 A13 l13 c13 A14 l14 c14 A15 l15 c15)=some r7∧
 Tt∧(∃I9:Nat→World→List Value→Prop,(∃m9,∀k9,Up k8 k9→I9 m9 k9 [int .i64 0,S3 A13 l13 c13 A14 l14 c14 A15 l15 c15])∧
 ∀m9 k9 vs9,Up k8 k9→I9 m9 k9 vs9→∃n16,∃A17 l17 c17,∃A18 l18 c18,∃A19 l19 c19,some [int .i64 n16,S3 A17 l17 c17 A18 l18 c18 A19 l19 c19]=some vs9∧
 Br (decide ((n16:Int)<(l6:Nat))) (El k9 A6 n16 l6 3 fun cs20=>
 El k9 A7 n16 l7 3 fun cs21=>
 Cl k9 35 #[agg #[slice A9 l9 c9,slice A10 l10 c10,slice A11 l11 c11,Value.map (some M12)],S3 A17 l17 c17 A18 l18 c18 A19 l19 c19,agg cs20,agg cs21,Value.func (.func 36) #[] #[]] fun k11 r10=>∃A22 l22 c22,∃A23 l23 c23,∃A24 l24 c24,some (S3 A22 l22 c22 A23 l23 c23 A24 l24 c24)=some r10∧
 ∀k12,Up k11 k12→∃m,m<m9∧I9 m k12 [int .i64 (wrap .i64 (n16+1)),S3 A22 l22 c22 A23 l23 c23 A24 l24 c24]) (Rt R k9 (tuple #[S3 A17 l17 c17 A18 l18 c18 A19 l19 c19,int .i64 0])))))))))) :
  CallsG Tryz.prog 12 #[S3 A0 l0 c0 A1 l1 c1 A2 l2 c2,S3 A3 l3 c3 A4 l4 c4 A5 l5 c5,slice A6 l6 c6,slice A7 l7 c7] k R:=
  qY { opq:=[40],loops:=[(0,[.tmp 39 false [.int .i64],.blk 4 [.slice,.slice,.slice]])] } h
theorem aHo (hcs3:Seg 3 cs3)
 (h:Tt∧(∃I0:Nat→World→List Value→Prop,(∃m0,∀k0,Up k k0→I0 m0 k0 [int .i64 0,tuple #[slice none 0 0,agg #[]],tuple #[slice none 0 0,agg #[]],tuple #[slice none 0 0,agg #[]]])∧
 ∀m0 k0 vs0,Up k k0→I0 m0 k0 vs0→∃n4,∃A5 l5 c5,∃cs6,Sy.RowC cs6∧∃A7 l7 c7,∃cs8,Sy.RowC cs8∧∃A9 l9 c9,∃cs10,Sy.RowC cs10∧some [int .i64 n4,tuple #[slice A5 l5 c5,agg cs6],tuple #[slice A7 l7 c7,agg cs8],tuple #[slice A9 l9 c9,agg cs10]]=some vs0∧
 Br (decide ((n4:Int)<(l1:Nat))) ((cs3.toList++([]):List Value).length=Int.toNat 1*3∧(0:Int)≤1∧Sy.sizeOk 56 (l5+Int.toNat 1)∧∀(A11:Option Addr) (l11 c11:Nat) (cs12:Array Value),l11=l5+Int.toNat 1→cs12=cs6++(cs3.toList++([]):List Value).toArray→l11≤c11→
 ([bool false,slice none 0 0,slice none 0 0]:List Value).length=Int.toNat 1*3∧(0:Int)≤1∧Sy.sizeOk 56 (l7+Int.toNat 1)∧∀(A13:Option Addr) (l13 c13:Nat) (cs14:Array Value),l13=l7+Int.toNat 1→cs14=cs8++([bool false,slice none 0 0,slice none 0 0]:List Value).toArray→l13≤c13→
 ([bool false,slice none 0 0,slice none 0 0]:List Value).length=Int.toNat 1*3∧(0:Int)≤1∧Sy.sizeOk 56 (l9+Int.toNat 1)∧∀(A15:Option Addr) (l15 c15:Nat) (cs16:Array Value),l15=l9+Int.toNat 1→cs16=cs10++([bool false,slice none 0 0,slice none 0 0]:List Value).toArray→l15≤c15→
 ∀k1,Up k0 k1→∃m,m<m0∧I0 m k1 [int .i64 (wrap .i64 (n4+1)),tuple #[slice A11 l11 c11,agg cs12],tuple #[slice A13 l13 c13,agg cs14],tuple #[slice A15 l15 c15,agg cs16]]) (∀k2,Up k0 k2→Sy.RowAt k2 A5 cs6→
 ∀k3,Up k2 k3→Sy.RowAt k3 A7 cs8→
 ∀k4,Up k3 k4→Sy.RowAt k4 A9 cs10→
 Rt R k4 (S3 A5 l5 c5 A7 l7 c7 A9 l9 c9)))) :
  CallsG Tryz.prog 28 #[S3 A0 l0 c0 A1 l1 c1 A2 l2 c2,agg cs3] k R:=
  qX { opq:=[40],loops:=[(0,[.tmp 9 false [.int .i64],.rb 3 0 40 3,.rb 3 1 40 3,.rb 3 2 40 3])] } [.agg (qV 0 3),.agg [.seg 3 3]] [slice A0 l0 c0,slice A1 l1 c1,slice A2 l2 c2,agg cs3] [.slice,.slice,.slice,.seg 3] ⟨qS,qS,qS,⟨cs3,rfl,hcs3⟩,trivial⟩ h
end Go.Proofs.YtebaclefnpipfaaGreat

namespace Go.Proofs.YtebaclefnpipfaaGreat
open Go.RowKit
open Value (agg slice int bool tuple)
open Sy (Up Sees CallsG Seg execFn_use)
set_option maxRecDepth 100000
variable {k:World}{R:World→Value→Prop}
end Go.Proofs.YtebaclefnpipfaaGreat

namespace Go.Proofs.YtebaclefnpipfaaGreat
open Go.RowKit
open Value (agg slice int bool tuple)
open Sy (Up Sees CallsG Seg execFn_use)
set_option maxRecDepth 100000
variable {k:World}{R:World→Value→Prop}{A0 A1 A2:Option Addr}{c0 c1 c2 l0 l1 l2:Nat}{cs3:Array Value}
theorem zJ (hcs3:Seg 3 cs3)
 (h:Cl k 26 #[S3 A0 l0 c0 A1 l1 c1 A2 l2 c2] fun k1 r0=>Gi r0 fun n4=>
 Br ((n4:Int) != 0) (Rt R k1 (tuple #[Z3,int .i64 n4])) (Cl k1 28 #[S3 A0 l0 c0 A1 l1 c1 A2 l2 c2,agg cs3] fun k4 r3=>∃A5 l5 c5,∃A6 l6 c6,∃A7 l7 c7,some (S3 A5 l5 c5 A6 l6 c6 A7 l7 c7)=some r3∧
 Rt R k4 (tuple #[S3 A5 l5 c5 A6 l6 c6 A7 l7 c7,int .i64 0]))) :
  CallsG Tryz.prog 10 #[S3 A0 l0 c0 A1 l1 c1 A2 l2 c2,agg cs3] k R:=
  qX { opq:=[40] } [.agg (qV 0 3),.agg [.seg 3 3]] [slice A0 l0 c0,slice A1 l1 c1,slice A2 l2 c2,agg cs3] [.slice,.slice,.slice,.seg 3] ⟨qS,qS,qS,⟨cs3,rfl,hcs3⟩,trivial⟩ h
end Go.Proofs.YtebaclefnpipfaaGreat

namespace Go.Proofs.YtebaclefnpipfaaGreat
open Go.RowKit
open Value (agg slice int bool tuple)
open Sy (Up Sees CallsG Seg execFn_use)
set_option maxRecDepth 100000
variable {k:World}{R:World→Value→Prop}
