/- Several texts in one. (Printed by prep.py.) -/
import Derived.Test.YtampehijkiencaaGreatSlVS
import Derived.Test.YtampehijkiencaaGreatProg
import Derived.Test.YtampehijkiencaaGreatSlSy14
import Derived.Test.YtampehijkiencaaGreatSlQ5
import Derived.Test.YtampehijkiencaaGreatSlG2
namespace Go.Proofs.YtampehijkiencaaGreat
open Go.RowKit
open Value (agg slice int bool tuple)
open Sy (Up Sees CallsG Seg aA)
set_option maxRecDepth 100000
variable {k : World} {R : World→Value→Prop}
theorem aOi {A0 : Option Addr} {l0 c0 : Nat} {A1 : Option Addr} {l1 c1 : Nat} {A2 : Option Addr} {l2 c2 : Nat} {n3 : Int}
 (h : true = true∧(((decide (((l0 : Nat) : Int) > 10)) = true →
 (∀ k0,Up k k0→R k0 (bool false))) ∧
 ((decide (((l0 : Nat) : Int) > 10)) = false →
 (true = true∧(((decide (((l1 : Nat) : Int) > n3)) = true →
 (∀ k1,Up k k1→R k1 (bool false))) ∧
 ((decide (((l1 : Nat) : Int) > n3)) = false →
 (true = true∧(((decide (((l2 : Nat) : Int) > (IntKind.wrap .i64 ((IntKind.wrap .i64 (2*n3))+20)))) = true →
 (∀ k2,Up k k2→R k2 (bool false))) ∧
 ((decide (((l2 : Nat) : Int) > (IntKind.wrap .i64 ((IntKind.wrap .i64 (2*n3))+20)))) = false →
 (true = true∧(∃ I3 : Nat→World→List Value→Prop,(∃ m3,∀ k3,Up k k3→I3 m3 k3 [int .i64 0]) ∧
 ∀ m3 k3 vs3,Up k k3→I3 m3 k3 vs3→∃ n4,some [int .i64 n4] = some vs3 ∧
 ((decide ((n4 : Int) < (l0 : Nat))) = true →
 ((∃ b o,A0 = some ⟨b,o,none⟩)∧((0 : Int)≤n4∧(n4 : Int) < (l0 : Nat)) ∧
 ∃ A5 l5 c5,∃ A6 l6 c6,∃ n7,∃ n8,∃ n9,∃ n10,Sy.ReadAt k3.cell? A0 (Int.toNat n4*6+0) 6 (agg #[slice A5 l5 c5,slice A6 l6 c6,int .i64 n7,int .i64 n8,int .i64 n9,int .i64 n10]) ∧
 true = true∧(((decide (((l5 : Nat) : Int) > 20)) = true →
 (∀ k4,Up k3 k4→R k4 (bool false))) ∧
 ((decide (((l5 : Nat) : Int) > 20)) = false →
 (true = true∧(((decide (((l6 : Nat) : Int) > 20)) = true →
 (∀ k5,Up k3 k5→R k5 (bool false))) ∧
 ((decide (((l6 : Nat) : Int) > 20)) = false →
 (∀ k6,Up k3 k6→∃ m,m < m3∧I3 m k6 [int .i64 (IntKind.wrap .i64 (n4+1))])))))))) ∧
 ((decide ((n4 : Int) < (l0 : Nat))) = false →
 (∀ k7,Up k3 k7→R k7 (bool true)))))))))))))) :
   CallsG Tryz.prog 9 #[agg #[slice A0 l0 c0,slice A1 l1 c1,slice A2 l2 c2],int .i64 n3] k R :=
  aA (cfg:={ opq:=[],loops:=[(0,[.tmp 30 false [.int .i64]])] }) (args:=[.agg [.var 0,.var 1,.var 2],.one (.var 3)]) (vals:=[slice A0 l0 c0,slice A1 l1 c1,slice A2 l2 c2,int .i64 n3]) (kinds:=[.slice,.slice,.slice,.int .i64]) (by kernel_rfl) ⟨⟨_,_,_,rfl⟩,⟨⟨_,_,_,rfl⟩,⟨⟨_,_,_,rfl⟩,⟨⟨_,rfl⟩,trivial⟩⟩⟩⟩ (by kernel_rfl) (by kernel_rfl) h
theorem aEp {A0 : Option Addr} {l0 c0 : Nat}
 (h : true = true∧(∃ I0 : Nat→World→List Value→Prop,(∃ m0,∀ k0,Up k k0→I0 m0 k0 [int .i64 0,tuple #[slice none 0 0,agg #[]],tuple #[slice none 0 0,agg #[]]]) ∧
 ∀ m0 k0 vs0,Up k k0→I0 m0 k0 vs0→∃ n1,∃ A2 l2 c2,∃ cs3,Sy.RowC cs3∧∃ A4 l4 c4,∃ cs5,Sy.RowC cs5∧some [int .i64 n1,tuple #[slice A2 l2 c2,agg cs3],tuple #[slice A4 l4 c4,agg cs5]] = some vs0 ∧
 ((decide ((n1 : Int) < (l0 : Nat))) = true →
 ((∃ b o,A0 = some ⟨b,o,none⟩)∧((0 : Int)≤n1∧(n1 : Int) < (l0 : Nat)) ∧
 ∃ n6,∃ n7,∃ n8,∃ n9,Sy.ReadAt k0.cell? A0 (Int.toNat n1*4+0) 4 (agg #[int .i64 n6,int .i64 n7,int .i64 n8,int .i64 n9]) ∧
 Cl k0 19 #[agg #[int .i64 n6,int .i64 n7]] fun k2 r1=>Gt 3 r1 fun cs10 =>
 Cl k2 19 #[agg #[int .i64 n8,int .i64 n9]] fun k4 r3=>Gt 3 r3 fun cs11 =>
 (cs10.toList ++ (cs11.toList ++ ([])) : List Value).length = Int.toNat 1*6∧(0 : Int)≤1∧Sy.sizeOk 112 (l2+Int.toNat 1)∧∀ (A12 : Option Addr) (l12 c12 : Nat) (cs13 : Array Value),l12 = l2+Int.toNat 1→cs13 = cs3 ++ (cs10.toList ++ (cs11.toList ++ ([])) : List Value).toArray→l12≤c12 →
 Cl k4 28 #[agg #[int .i64 n6,int .i64 n7]] fun k6 r5=>Gt 3 r5 fun cs14 =>
 Cl k6 28 #[agg #[int .i64 n8,int .i64 n9]] fun k8 r7=>Gt 3 r7 fun cs15 =>
 (cs14.toList ++ (cs15.toList ++ ([])) : List Value).length = Int.toNat 1*6∧(0 : Int)≤1∧Sy.sizeOk 112 (l4+Int.toNat 1)∧∀ (A16 : Option Addr) (l16 c16 : Nat) (cs17 : Array Value),l16 = l4+Int.toNat 1→cs17 = cs5 ++ (cs14.toList ++ (cs15.toList ++ ([])) : List Value).toArray→l16≤c16 →
 ∀ k9,Up k8 k9→∃ m,m < m0∧I0 m k9 [int .i64 (IntKind.wrap .i64 (n1+1)),tuple #[slice A12 l12 c12,agg cs13],tuple #[slice A16 l16 c16,agg cs17]])) ∧
 ((decide ((n1 : Int) < (l0 : Nat))) = false →
 (∀ k10,Up k0 k10→Sy.RowAt k10 A2 cs3 →
 ∀ k11,Up k10 k11→Sy.RowAt k11 A4 cs5 →
 ∀ k12,Up k11 k12→R k12 (tuple #[slice A2 l2 c2,slice A4 l4 c4]))))) :
  CallsG Tryz.prog 25 #[slice A0 l0 c0] k R :=
  aA (cfg:={ opq:=[71,89],loops:=[(0,[.tmp 10 false [.int .i64],.rw 4 131 6,.rw 5 158 6])] }) (args:=[.one (.var 0)]) (vals:=[slice A0 l0 c0]) (kinds:=[.slice]) (by kernel_rfl) ⟨⟨_,_,_,rfl⟩,trivial⟩ (by kernel_rfl) (by kernel_rfl) h
theorem aHp {A0 : Option Addr} {l0 c0 : Nat}
 (h : true = true∧(∃ I0 : Nat→World→List Value→Prop,(∃ m0,∀ k0,Up k k0→I0 m0 k0 [int .i64 0,tuple #[slice none 0 0,agg #[]],tuple #[slice none 0 0,agg #[]]]) ∧
 ∀ m0 k0 vs0,Up k k0→I0 m0 k0 vs0→∃ n1,∃ A2 l2 c2,∃ cs3,Sy.RowC cs3∧∃ A4 l4 c4,∃ cs5,Sy.RowC cs5∧some [int .i64 n1,tuple #[slice A2 l2 c2,agg cs3],tuple #[slice A4 l4 c4,agg cs5]] = some vs0 ∧
 ((decide ((n1 : Int) < (l0 : Nat))) = true →
 ((∃ b o,A0 = some ⟨b,o,none⟩)∧((0 : Int)≤n1∧(n1 : Int) < (l0 : Nat)) ∧
 ∃ A6 l6 c6,∃ A7 l7 c7,∃ n8,∃ n9,∃ n10,∃ n11,Sy.ReadAt k0.cell? A0 (Int.toNat n1*6+0) 6 (agg #[slice A6 l6 c6,slice A7 l7 c7,int .i64 n8,int .i64 n9,int .i64 n10,int .i64 n11]) ∧
 Cl k0 25 #[slice A6 l6 c6] fun k2 r1=>∃ A12 l12 c12,∃ A13 l13 c13,some (tuple #[slice A12 l12 c12,slice A13 l13 c13]) = some r1 ∧
 Cl k2 25 #[slice A7 l7 c7] fun k4 r3=>∃ A14 l14 c14,∃ A15 l15 c15,some (tuple #[slice A14 l14 c14,slice A15 l15 c15]) = some r3 ∧
 Cl k4 19 #[agg #[int .i64 n8,int .i64 n9]] fun k6 r5=>Gt 3 r5 fun cs16 =>
 Cl k6 19 #[agg #[int .i64 n10,int .i64 n11]] fun k8 r7=>Gt 3 r7 fun cs17 =>
 ((slice A12 l12 c12) :: ((slice A14 l14 c14) :: (cs16.toList ++ (cs17.toList ++ ([])))) : List Value).length = Int.toNat 1*8∧(0 : Int)≤1∧Sy.sizeOk 160 (l2+Int.toNat 1)∧∀ (A18 : Option Addr) (l18 c18 : Nat) (cs19 : Array Value),l18 = l2+Int.toNat 1→cs19 = cs3 ++ ((slice A12 l12 c12) :: ((slice A14 l14 c14) :: (cs16.toList ++ (cs17.toList ++ ([])))) : List Value).toArray→l18≤c18 →
 Cl k8 28 #[agg #[int .i64 n8,int .i64 n9]] fun k10 r9=>Gt 3 r9 fun cs20 =>
 Cl k10 28 #[agg #[int .i64 n10,int .i64 n11]] fun k12 r11=>Gt 3 r11 fun cs21 =>
 ((slice A13 l13 c13) :: ((slice A15 l15 c15) :: (cs20.toList ++ (cs21.toList ++ ([])))) : List Value).length = Int.toNat 1*8∧(0 : Int)≤1∧Sy.sizeOk 160 (l4+Int.toNat 1)∧∀ (A22 : Option Addr) (l22 c22 : Nat) (cs23 : Array Value),l22 = l4+Int.toNat 1→cs23 = cs5 ++ ((slice A13 l13 c13) :: ((slice A15 l15 c15) :: (cs20.toList ++ (cs21.toList ++ ([])))) : List Value).toArray→l22≤c22 →
 ∀ k13,Up k12 k13→∃ m,m < m0∧I0 m k13 [int .i64 (IntKind.wrap .i64 (n1+1)),tuple #[slice A18 l18 c18,agg cs19],tuple #[slice A22 l22 c22,agg cs23]])) ∧
 ((decide ((n1 : Int) < (l0 : Nat))) = false →
 (∀ k14,Up k0 k14→Sy.RowAt k14 A2 cs3 →
 ∀ k15,Up k14 k15→Sy.RowAt k15 A4 cs5 →
 ∀ k16,Up k15 k16→R k16 (tuple #[slice A2 l2 c2,slice A4 l4 c4]))))) :
  CallsG Tryz.prog 43 #[slice A0 l0 c0] k R :=
  aA (cfg:={ opq:=[71,89],loops:=[(0,[.tmp 14 false [.int .i64],.rw 4 98 8,.rw 5 101 8])] }) (args:=[.one (.var 0)]) (vals:=[slice A0 l0 c0]) (kinds:=[.slice]) (by kernel_rfl) ⟨⟨_,_,_,rfl⟩,trivial⟩ (by kernel_rfl) (by kernel_rfl) h
theorem aDa
 (h : Cl k 47 #[int .i64 60] fun k1 r0=>Gt 3 r0 fun cs0 =>
 Cl k1 47 #[int .i64 1] fun k3 r2=>Gt 3 r2 fun cs1 =>
 Cl k3 47 #[int .i64 1] fun k5 r4=>Gt 3 r4 fun cs2 =>
 Cl k5 47 #[int .i64 1] fun k7 r6=>Gt 3 r6 fun cs3 =>
 Cl k7 47 #[int .i64 4] fun k9 r8=>Gt 3 r8 fun cs4 =>
 Cl k9 47 #[int .i64 1] fun k11 r10=>Gt 3 r10 fun cs5 =>
 Cl k11 47 #[int .i64 1] fun k13 r12=>Gt 3 r12 fun cs6 =>
 ∀ p7 k14,Up k13 k14→Sy.Blk k14 p7 131 ((bool false) :: ((slice none 0 0) :: ((slice none 0 0) :: ((bool false) :: ((slice none 0 0) :: ((slice none 0 0) :: (cs0.toList ++ (cs1.toList ++ ([]))))))))).toArray →
 ∀ p8 k15,Up k14 k15→Sy.Blk k15 p8 131 #[bool false,slice none 0 0,slice none 0 0,bool false,slice none 0 0,slice none 0 0] →
 ∀ p9 k16,Up k15 k16→Sy.Blk k16 p9 98 ((slice (some ⟨p7,0,none⟩) 2 2) :: ((slice (some ⟨p8,0,none⟩) 1 1) :: (cs2.toList ++ (cs3.toList ++ ([]))))).toArray →
 ∀ p10 k17,Up k16 k17→Sy.Blk k17 p10 78 ((int .i64 0) :: (cs4.toList ++ (cs5.toList ++ ((bool false) :: ((slice none 0 0) :: ((slice none 0 0) :: ((int .i64 0) :: (cs4.toList ++ ((bool false) :: ((slice none 0 0) :: ((slice none 0 0) :: ((bool false) :: ((slice none 0 0) :: ((slice none 0 0) :: ([]))))))))))))))).toArray →
 ∀ p11 k18,Up k17 k18→Sy.Blk k18 p11 133 ((int .i64 0) :: ((int .i64 1) :: (cs6.toList ++ ([])))).toArray →
 Cl k18 47 #[int .i64 20] fun k20 r19=>Gt 3 r19 fun cs12 =>
 Cl k20 34 #[agg #[slice (some ⟨p9,0,none⟩) 1 1,slice (some ⟨p10,0,none⟩) 2 2,slice (some ⟨p11,0,none⟩) 1 1],agg cs12] fun k22 r21=>∃ A13 l13 c13,∃ A14 l14 c14,∃ A15 l15 c15,∃ n16,some (tuple #[agg #[slice A13 l13 c13,slice A14 l14 c14,slice A15 l15 c15],int .i64 n16]) = some r21 ∧
 Cl k22 47 #[int .i64 180] fun k24 r23=>Gt 3 r23 fun cs17 =>
 Cl k24 47 #[int .i64 180] fun k26 r25=>Gt 3 r25 fun cs18 =>
 ∀ p19 k27,Up k26 k27→Sy.Blk k27 p19 71 (cs17.toList ++ (cs18.toList ++ ([]))).toArray →
 Cl k27 15 #[agg #[slice (some ⟨p9,0,none⟩) 1 1,slice (some ⟨p10,0,none⟩) 2 2,slice (some ⟨p11,0,none⟩) 1 1],agg #[slice A13 l13 c13,slice A14 l14 c14,slice A15 l15 c15],slice (some ⟨p19,0,none⟩) 2 2,slice (some ⟨p19,0,none⟩) 2 2] fun k29 r28=>∃ A20 l20 c20,∃ A21 l21 c21,∃ A22 l22 c22,∃ n23,some (tuple #[agg #[slice A20 l20 c20,slice A21 l21 c21,slice A22 l22 c22],int .i64 n23]) = some r28 ∧
 (((n16 : Int) == 0) = true →
 ((((n23 : Int) == 0) = true →
 (true = true∧(((((l20 : Nat) : Int) == 2) = true →
 (true = true∧(((((l21 : Nat) : Int) == 2) = true →
 ((∃ b o,A20 = some ⟨b,o,none⟩)∧((0 : Int)≤0∧(0 : Int) < (l20 : Nat)) ∧
 ∃ cs24,Seg 3 cs24∧Sy.ReadAt k29.cell? A20 (Int.toNat 0*3+0) 3 (agg cs24) ∧
 Cl k29 48 #[agg cs24] fun k31 r30=>∃ s25,some (Value.string s25) = some r30 ∧
 ((ByteArray.toList s25 == ByteArray.toList ⟨#[56,48]⟩) = true →
 ((∃ b o,A20 = some ⟨b,o,none⟩)∧((0 : Int)≤1∧(1 : Int) < (l20 : Nat)) ∧
 ∃ cs26,Seg 3 cs26∧Sy.ReadAt k31.cell? A20 (Int.toNat 1*3+0) 3 (agg cs26) ∧
 Cl k31 48 #[agg cs26] fun k33 r32=>∃ s27,some (Value.string s27) = some r32 ∧
 ((ByteArray.toList s27 == ByteArray.toList ⟨#[51,48]⟩) = true →
 ((∃ b o,A21 = some ⟨b,o,none⟩)∧((0 : Int)≤0∧(0 : Int) < (l21 : Nat)) ∧
 ∃ cs28,Seg 3 cs28∧Sy.ReadAt k33.cell? A21 (Int.toNat 0*3+0) 3 (agg cs28) ∧
 Cl k33 48 #[agg cs28] fun k35 r34=>∃ s29,some (Value.string s29) = some r34 ∧
 ∀ k36,Up k35 k36→R k36 (bool (ByteArray.toList s29 == ByteArray.toList ⟨#[49]⟩)))) ∧
 ((ByteArray.toList s27 == ByteArray.toList ⟨#[51,48]⟩) = false →
 (∀ k37,Up k33 k37→R k37 (bool false))))) ∧
 ((ByteArray.toList s25 == ByteArray.toList ⟨#[56,48]⟩) = false →
 (∀ k38,Up k31 k38→R k38 (bool false))))) ∧
 ((((l21 : Nat) : Int) == 2) = false →
 (∀ k39,Up k29 k39→R k39 (bool false)))))) ∧
 ((((l20 : Nat) : Int) == 2) = false →
 (∀ k40,Up k29 k40→R k40 (bool false)))))) ∧
 (((n23 : Int) == 0) = false →
 (∀ k41,Up k29 k41→R k41 (bool false))))) ∧
 (((n16 : Int) == 0) = false →
 (∀ k42,Up k29 k42→R k42 (bool false)))) :
   CallsG Tryz.prog 11 #[] k R :=
  aA (cfg:={ opq:=[71] }) (args:=[]) (vals:=[]) (kinds:=[]) (by kernel_rfl) trivial (by kernel_rfl) (by kernel_rfl) h
end Go.Proofs.YtampehijkiencaaGreat

namespace Go.Proofs.YtampehijkiencaaGreat
open Go.RowKit
open Value (agg slice int bool tuple)
open Sy (Up Sees CallsG Seg aA)
set_option maxRecDepth 100000
variable {k : World} {R : World→Value→Prop}
theorem aPx {cs0 : Array Value} {b1 : Bool} {A2 : Option Addr} {l2 c2 : Nat} {A3 : Option Addr} {l3 c3 : Nat} (hcs0 : Seg 3 cs0)
 (h : Cl k 48 #[agg cs0] fun k1 r0=>∃ s4,some (Value.string s4) = some r0 ∧
 Cl k1 74 #[agg #[bool b1,slice A2 l2 c2,slice A3 l3 c3]] fun k3 r2=>∃ s5,some (Value.string s5) = some r2 ∧
 ∀ k4,Up k3 k4→R k4 (bool (ByteArray.toList s4 == ByteArray.toList s5))) :
  CallsG Tryz.prog 31 #[agg cs0,agg #[bool b1,slice A2 l2 c2,slice A3 l3 c3]] k R :=
  aA (cfg:={ opq:=[71] }) (args:=[.agg [.seg 0 3],.agg [.var 1,.var 2,.var 3]]) (vals:=[agg cs0,bool b1,slice A2 l2 c2,slice A3 l3 c3]) (kinds:=[.seg 3,.bool,.slice,.slice]) (by kernel_rfl) ⟨⟨cs0,rfl,hcs0⟩,⟨⟨_,rfl⟩,⟨⟨_,_,_,rfl⟩,⟨⟨_,_,_,rfl⟩,trivial⟩⟩⟩⟩ (by kernel_rfl) (by kernel_rfl) h
theorem aPc {n0 n1 : Int}
 (h : (((n1 : Int) == 0) = true →
 (Cl k 47 #[int .i64 n0] fun k1 r0=>Gt 3 r0 fun cs2 =>
 ∀ k2,Up k1 k2→R k2 (agg cs2))) ∧
 (((n1 : Int) == 0) = false →
 (Cl k 57 #[int .i64 n0,int .i64 n1] fun k4 r3=>∃ cs2,Seg 3 cs2∧∃ n3,some (tuple #[agg cs2,int .i64 n3]) = some r3 ∧
 ∀ k5,Up k4 k5→R k5 (agg cs2)))) :
  CallsG Tryz.prog 19 #[agg #[int .i64 n0,int .i64 n1]] k R :=
  aA (cfg:={ opq:=[71] }) (args:=[.agg [.var 0,.var 1]]) (vals:=[int .i64 n0,int .i64 n1]) (kinds:=[.int .i64,.int .i64]) (by kernel_rfl) ⟨⟨_,rfl⟩,⟨⟨_,rfl⟩,trivial⟩⟩ (by kernel_rfl) (by kernel_rfl) h
end Go.Proofs.YtampehijkiencaaGreat

namespace Go.Proofs.YtampehijkiencaaGreat
open Go.RowKit Num W32
open Sy (Up Sees CallsG)
section
variable {k k' : World} {R : World→Value→Prop} {x y q : Rat} {K L : Nat} {cs cs' : Array Value} {g : Bool} {A A' : Option Addr} {l c l' c' : Nat}
theorem aQb (hx : RatV k cs x K) (hK : K≤8589934592) (h : QN k g A l c A' l' c' x) (hl : l≤34359738368) (hl' : l'≤34359738368) (C : ∀ k',Up k k'→R k' (.bool true)) :
 Cl k 31 #[.agg cs,.agg #[.bool g,.slice A l c,.slice A' l' c']] R:=by
 intro k0 u0
 refine aPx (hx.seg) (pU (hx.up u0) hK fun k1 u1=>⟨_,rfl,aMf ((h.up u0).up u1) hl hl' fun k3 u3=>⟨_,rfl,fun k4 u4=>?_⟩⟩)
 have:=C k4 (((u0.trans u1).trans u3).trans u4)
 rw [show (ByteArray.toList ⟨(bF x).toArray⟩ == ByteArray.toList ⟨(bF x).toArray⟩) = true from beq_self_eq_true _]
 exact this
theorem wC {n d : Int} (hn : In64 n) (hd : In64 d) (C : ∀ k' ds,Up k k'→RatV k' ds (ofQ n d) 1→R k' (.agg ds)) : Cl k 19 #[.agg #[.int .i64 n,.int .i64 d]] R:=by
 intro k0 u0
 refine aPc ⟨fun hb=>?_,fun hb=>?_⟩
 ·have e : d = 0:=eq_of_beq hb
  refine gE hn.1 hn.2 ?_
  intro k1 c1 u1 h1
  refine ⟨c1,h1.seg,rfl,?_⟩
  intro k2 u2
  refine C k2 c1 (u0.trans (u1.trans u2)) ?_
  unfold ofQ
  rw [if_pos e]
  exact h1.up u2
 ·have e : ¬ d = 0:=by simpa using hb
  refine aNz hn.1 hn.2 hd.1 hd.2 ?_
  intro k1 c1 u1 h1
  refine ⟨c1,h1.seg,_,rfl,?_⟩
  intro k2 u2
  refine C k2 c1 (u0.trans (u1.trans u2)) ?_
  unfold ofQ
  rw [if_neg e]
  exact h1.up u2
theorem aCp (hx : RatV k cs x K) (hK : K≤8589934592) (h : QV k cs' x L) (hL : L≤34359738368) (C : ∀ k',Up k k'→R k' (.bool true)) :
 Cl k 31 #[.agg cs,.agg cs'] R:=by
 obtain ⟨_,_,_,_,_,_,_,rfl,h,l1,l2⟩:=h
 exact aQb hx hK h (by omega) (by omega) C
end
end Go.Proofs.YtampehijkiencaaGreat

namespace Go.Proofs.YtampehijkiencaaGreat
open Go.RowKit
open Value (agg slice int bool tuple)
open Sy (Up Sees CallsG Seg aA)
set_option maxRecDepth 100000
variable {k : World} {R : World→Value→Prop}
theorem aDk {cs0 cs1 : Array Value} (hcs0 : Seg 3 cs0) (hcs1 : Seg 3 cs1)
 (h : Cl k 23 #[agg cs0,agg cs1] fun k1 r0=>∃ n2,some (int .i64 n2) = some r0 ∧
 ∀ k2,Up k1 k2→R k2 (bool (decide ((n2 : Int) < 0)))) :
  CallsG Tryz.prog 69 #[agg cs0,agg cs1] k R :=
  aA (cfg:={ opq:=[71] }) (args:=[.agg [.seg 0 3],.agg [.seg 1 3]]) (vals:=[agg cs0,agg cs1]) (kinds:=[.seg 3,.seg 3]) (by kernel_rfl) ⟨⟨cs0,rfl,hcs0⟩,⟨⟨cs1,rfl,hcs1⟩,trivial⟩⟩ (by kernel_rfl) (by kernel_rfl) h
theorem aLx {cs0 : Array Value} (hcs0 : Seg 3 cs0)
 (h : Cl k 58 #[agg cs0] fun k1 r0=>∃ n1,some (int .i64 n1) = some r0 ∧
 ∀ k2,Up k1 k2→R k2 (bool (decide ((n1 : Int) < 0)))) :
  CallsG Tryz.prog 75 #[agg cs0] k R :=
  aA (cfg:={ opq:=[71] }) (args:=[.agg [.seg 0 3]]) (vals:=[agg cs0]) (kinds:=[.seg 3]) (by kernel_rfl) ⟨⟨cs0,rfl,hcs0⟩,trivial⟩ (by kernel_rfl) (by kernel_rfl) h
theorem aLg {cs0 : Array Value} (hcs0 : Seg 3 cs0)
 (h : Cl k 58 #[agg cs0] fun k1 r0=>∃ n1,some (int .i64 n1) = some r0 ∧
 ∀ k2,Up k1 k2→R k2 (bool (decide ((n1 : Int) > 0)))) :
  CallsG Tryz.prog 90 #[agg cs0] k R :=
  aA (cfg:={ opq:=[71] }) (args:=[.agg [.seg 0 3]]) (vals:=[agg cs0]) (kinds:=[.seg 3]) (by kernel_rfl) ⟨⟨cs0,rfl,hcs0⟩,trivial⟩ (by kernel_rfl) (by kernel_rfl) h
theorem aLq {cs0 cs1 : Array Value} (hcs0 : Seg 3 cs0) (hcs1 : Seg 3 cs1)
 (h : Cl k 76 #[agg cs0,agg cs1] fun k1 r0=>∃ cs2,Seg 3 cs2∧∃ n3,some (tuple #[agg cs2,int .i64 n3]) = some r0 ∧
 ∀ k2,Up k1 k2→R k2 (agg cs2)) :
  CallsG Tryz.prog 92 #[agg cs0,agg cs1] k R :=
  aA (cfg:={ opq:=[71] }) (args:=[.agg [.seg 0 3],.agg [.seg 1 3]]) (vals:=[agg cs0,agg cs1]) (kinds:=[.seg 3,.seg 3]) (by kernel_rfl) ⟨⟨cs0,rfl,hcs0⟩,⟨⟨cs1,rfl,hcs1⟩,trivial⟩⟩ (by kernel_rfl) (by kernel_rfl) h
theorem aFm {A0 : Option Addr} {l0 c0 : Nat}
 (h : true = true∧(((decide (((l0 : Nat) : Int) < 1)) = true →
 (∀ k0,Up k k0→R k0 (int .i64 4))) ∧
 ((decide (((l0 : Nat) : Int) < 1)) = false →
 (true = true∧(((decide (((l0 : Nat) : Int) > 16)) = true →
 (∀ k1,Up k k1→R k1 (int .i64 4))) ∧
 ((decide (((l0 : Nat) : Int) > 16)) = false →
 (true = true∧(∃ I2 : Nat→World→List Value→Prop,(∃ m2,∀ k2,Up k k2→I2 m2 k2 [int .i64 0]) ∧
 ∀ m2 k2 vs2,Up k k2→I2 m2 k2 vs2→∃ n1,some [int .i64 n1] = some vs2 ∧
 ((decide ((n1 : Int) < (l0 : Nat))) = true →
 ((∃ b o,A0 = some ⟨b,o,none⟩)∧((0 : Int)≤n1∧(n1 : Int) < (l0 : Nat)) ∧
 ∃ cs2,Seg 3 cs2∧∃ cs3,Seg 3 cs3∧Sy.ReadAt k2.cell? A0 (Int.toNat n1*6+0) 6 (agg (cs2.toList ++ (cs3.toList ++ ([]))).toArray) ∧
 ((decide ((n1 : Int) > 0)) = true →
 ((∃ b o,A0 = some ⟨b,o,none⟩)∧((0 : Int)≤(IntKind.wrap .i64 (n1 - 1))∧((IntKind.wrap .i64 (n1 - 1)) : Int) < (l0 : Nat)) ∧
 (∃ b o,A0 = some ⟨b,o,none⟩)∧((0 : Int)≤(IntKind.wrap .i64 (n1 - 1))∧((IntKind.wrap .i64 (n1 - 1)) : Int) < (l0 : Nat)) ∧
 ∃ cs4,Seg 3 cs4∧Sy.ReadAt k2.cell? A0 (Int.toNat (IntKind.wrap .i64 (n1 - 1))*6+0) 3 (agg cs4) ∧
 Cl k2 69 #[agg cs4,agg cs2] fun k4 r3=>∃ b5,some (bool b5) = some r3 ∧
 ((!b5) = true →
 (∀ k5,Up k4 k5→R k5 (int .i64 7))) ∧
 ((!b5) = false →
 (Cl k4 75 #[agg cs3] fun k7 r6=>∃ b6,some (bool b6) = some r6 ∧
 (b6 = true →
 (∀ k8,Up k7 k8→R k8 (int .i64 1))) ∧
 (b6 = false →
 (((decide ((n1 : Int) > 0)) = true →
 ((∃ b o,A0 = some ⟨b,o,none⟩)∧((0 : Int)≤(IntKind.wrap .i64 (n1 - 1))∧((IntKind.wrap .i64 (n1 - 1)) : Int) < (l0 : Nat)) ∧
 (∃ b o,A0 = some ⟨b,o,none⟩)∧((0 : Int)≤(IntKind.wrap .i64 (n1 - 1))∧((IntKind.wrap .i64 (n1 - 1)) : Int) < (l0 : Nat)) ∧
 ∃ cs7,Seg 3 cs7∧Sy.ReadAt k7.cell? A0 (Int.toNat (IntKind.wrap .i64 (n1 - 1))*6+3) 3 (agg cs7) ∧
 Cl k7 69 #[agg cs3,agg cs7] fun k10 r9=>∃ b8,some (bool b8) = some r9 ∧
 (b8 = true →
 (∀ k11,Up k10 k11→R k11 (int .i64 7))) ∧
 (b8 = false →
 (∀ k12,Up k10 k12→∃ m,m < m2∧I2 m k12 [int .i64 (IntKind.wrap .i64 (n1+1))])))) ∧
 ((decide ((n1 : Int) > 0)) = false →
 (∀ k13,Up k7 k13→∃ m,m < m2∧I2 m k13 [int .i64 (IntKind.wrap .i64 (n1+1))])))))))) ∧
 ((decide ((n1 : Int) > 0)) = false →
 (Cl k2 75 #[agg cs3] fun k15 r14=>∃ b4,some (bool b4) = some r14 ∧
 (b4 = true →
 (∀ k16,Up k15 k16→R k16 (int .i64 1))) ∧
 (b4 = false →
 (((decide ((n1 : Int) > 0)) = true →
 ((∃ b o,A0 = some ⟨b,o,none⟩)∧((0 : Int)≤(IntKind.wrap .i64 (n1 - 1))∧((IntKind.wrap .i64 (n1 - 1)) : Int) < (l0 : Nat)) ∧
 (∃ b o,A0 = some ⟨b,o,none⟩)∧((0 : Int)≤(IntKind.wrap .i64 (n1 - 1))∧((IntKind.wrap .i64 (n1 - 1)) : Int) < (l0 : Nat)) ∧
 ∃ cs5,Seg 3 cs5∧Sy.ReadAt k15.cell? A0 (Int.toNat (IntKind.wrap .i64 (n1 - 1))*6+3) 3 (agg cs5) ∧
 Cl k15 69 #[agg cs3,agg cs5] fun k18 r17=>∃ b6,some (bool b6) = some r17 ∧
 (b6 = true →
 (∀ k19,Up k18 k19→R k19 (int .i64 7))) ∧
 (b6 = false →
 (∀ k20,Up k18 k20→∃ m,m < m2∧I2 m k20 [int .i64 (IntKind.wrap .i64 (n1+1))])))) ∧
 ((decide ((n1 : Int) > 0)) = false →
 (∀ k21,Up k15 k21→∃ m,m < m2∧I2 m k21 [int .i64 (IntKind.wrap .i64 (n1+1))])))))))) ∧
 ((decide ((n1 : Int) < (l0 : Nat))) = false →
 (∀ k22,Up k2 k22→R k22 (int .i64 0))))))))))) :
   CallsG Tryz.prog 59 #[slice A0 l0 c0] k R :=
  aA (cfg:={ opq:=[71],loops:=[(0,[.tmp 15 false [.int .i64]])] }) (args:=[.one (.var 0)]) (vals:=[slice A0 l0 c0]) (kinds:=[.slice]) (by kernel_rfl) ⟨⟨_,_,_,rfl⟩,trivial⟩ (by kernel_rfl) (by kernel_rfl) h
theorem aLb {A0 : Option Addr} {l0 c0 : Nat} {A1 : Option Addr} {l1 c1 : Nat} {cs2 cs3 : Array Value} (hcs2 : Seg 3 cs2) (hcs3 : Seg 3 cs3)
 (h : Cl k 59 #[slice A0 l0 c0] fun k1 r0=>∃ n4,some (int .i64 n4) = some r0 ∧
 (((n4 : Int) != 0) = true →
 (∀ k2,Up k1 k2→R k2 (int .i64 n4))) ∧
 (((n4 : Int) != 0) = false →
 (Cl k1 59 #[slice A1 l1 c1] fun k4 r3=>∃ n5,some (int .i64 n5) = some r3 ∧
 (((n5 : Int) != 0) = true →
 (∀ k5,Up k4 k5→R k5 (int .i64 n5))) ∧
 (((n5 : Int) != 0) = false →
 (Cl k4 90 #[agg cs2] fun k7 r6=>∃ b6,some (bool b6) = some r6 ∧
 ((!b6) = true →
 (∀ k8,Up k7 k8→R k8 (int .i64 1))) ∧
 ((!b6) = false →
 (Cl k7 90 #[agg cs3] fun k10 r9=>∃ b7,some (bool b7) = some r9 ∧
 ((!b7) = true →
 (∀ k11,Up k10 k11→R k11 (int .i64 1))) ∧
 ((!b7) = false →
 (∀ k12,Up k10 k12→R k12 (int .i64 0)))))))))) :
   CallsG Tryz.prog 65 #[agg ((slice A0 l0 c0) :: ((slice A1 l1 c1) :: (cs2.toList ++ (cs3.toList ++ ([]))))).toArray] k R :=
  aA (cfg:={ opq:=[71] }) (args:=[.agg [.var 0,.var 1,.seg 2 3,.seg 3 3]]) (vals:=[slice A0 l0 c0,slice A1 l1 c1,agg cs2,agg cs3]) (kinds:=[.slice,.slice,.seg 3,.seg 3]) (by kernel_rfl) ⟨⟨_,_,_,rfl⟩,⟨⟨_,_,_,rfl⟩,⟨⟨cs2,rfl,hcs2⟩,⟨⟨cs3,rfl,hcs3⟩,trivial⟩⟩⟩⟩ (by kernel_rfl) (by kernel_rfl) h
theorem aGj {A0 : Option Addr} {l0 c0 : Nat} {A1 : Option Addr} {l1 c1 : Nat} {A2 : Option Addr} {l2 c2 : Nat} {n3 : Int} {cs4 cs5 cs6 : Array Value} (hcs4 : Seg 3 cs4) (hcs5 : Seg 3 cs5) (hcs6 : Seg 3 cs6)
 (h : ((decide ((n3 : Int) < 0)) = true →
 (∀ k0,Up k k0→R k0 (int .i64 1))) ∧
 ((decide ((n3 : Int) < 0)) = false →
 (true = true∧(((decide ((n3 : Int) ≥ (l0 : Nat))) = true →
 (∀ k1,Up k k1→R k1 (int .i64 1))) ∧
 ((decide ((n3 : Int) ≥ (l0 : Nat))) = false →
 (Cl k 90 #[agg cs4] fun k3 r2=>∃ b7,some (bool b7) = some r2 ∧
 ((!b7) = true →
 (∀ k4,Up k3 k4→R k4 (int .i64 1))) ∧
 ((!b7) = false →
 (Cl k3 75 #[agg cs5] fun k6 r5=>∃ b8,some (bool b8) = some r5 ∧
 (b8 = true →
 (∀ k7,Up k6 k7→R k7 (int .i64 1))) ∧
 (b8 = false →
 (Cl k6 75 #[agg cs6] fun k9 r8=>∃ b9,some (bool b9) = some r8 ∧
 (b9 = true →
 (∀ k10,Up k9 k10→R k10 (int .i64 1))) ∧
 (b9 = false →
 (∀ k11,Up k9 k11→R k11 (int .i64 0))))))))))))) :
   CallsG Tryz.prog 66 #[agg #[slice A0 l0 c0,slice A1 l1 c1,slice A2 l2 c2],agg ((int .i64 n3) :: (cs4.toList ++ (cs5.toList ++ (cs6.toList ++ ([]))))).toArray] k R :=
  aA (cfg:={ opq:=[71] }) (args:=[.agg [.var 0,.var 1,.var 2],.agg [.var 3,.seg 4 3,.seg 5 3,.seg 6 3]]) (vals:=[slice A0 l0 c0,slice A1 l1 c1,slice A2 l2 c2,int .i64 n3,agg cs4,agg cs5,agg cs6]) (kinds:=[.slice,.slice,.slice,.int .i64,.seg 3,.seg 3,.seg 3]) (by kernel_rfl) ⟨⟨_,_,_,rfl⟩,⟨⟨_,_,_,rfl⟩,⟨⟨_,_,_,rfl⟩,⟨⟨_,rfl⟩,⟨⟨cs4,rfl,hcs4⟩,⟨⟨cs5,rfl,hcs5⟩,⟨⟨cs6,rfl,hcs6⟩,trivial⟩⟩⟩⟩⟩⟩⟩ (by kernel_rfl) (by kernel_rfl) h
theorem aEo {A0 : Option Addr} {l0 c0 : Nat} {cs1 : Array Value} (hcs1 : Seg 3 cs1)
 (h : true = true∧(∃ I0 : Nat→World→List Value→Prop,(∃ m0,∀ k0,Up k k0→I0 m0 k0 [int .i64 0,agg #[bool false,slice none 0 0,slice none 0 0]]) ∧
 ∀ m0 k0 vs0,Up k k0→I0 m0 k0 vs0→∃ n2,∃ cs3,Seg 3 cs3∧some [int .i64 n2,agg cs3] = some vs0 ∧
 ((decide ((n2 : Int) < (l0 : Nat))) = true →
 ((∃ b o,A0 = some ⟨b,o,none⟩)∧((0 : Int)≤n2∧(n2 : Int) < (l0 : Nat)) ∧
 ∃ cs4,Seg 3 cs4∧∃ cs5,Seg 3 cs5∧Sy.ReadAt k0.cell? A0 (Int.toNat n2*6+0) 6 (agg (cs4.toList ++ (cs5.toList ++ ([]))).toArray) ∧
 Cl k0 69 #[agg cs1,agg cs4] fun k2 r1=>∃ b6,some (bool b6) = some r1 ∧
 (b6 = true →
 (∀ k3,Up k2 k3→R k3 (agg cs3))) ∧
 (b6 = false →
 (∀ k4,Up k2 k4→∃ m,m < m0∧I0 m k4 [int .i64 (IntKind.wrap .i64 (n2+1)),agg cs5])))) ∧
 ((decide ((n2 : Int) < (l0 : Nat))) = false →
 (∀ k5,Up k0 k5→R k5 (agg cs3))))) :
   CallsG Tryz.prog 60 #[slice A0 l0 c0,agg cs1] k R :=
  aA (cfg:={ opq:=[71],loops:=[(0,[.tmp 10 false [.int .i64],.blk 2 [.seg 3]])] }) (args:=[.one (.var 0),.agg [.seg 1 3]]) (vals:=[slice A0 l0 c0,agg cs1]) (kinds:=[.slice,.seg 3]) (by kernel_rfl) ⟨⟨_,_,_,rfl⟩,⟨⟨cs1,rfl,hcs1⟩,trivial⟩⟩ (by kernel_rfl) (by kernel_rfl) h
theorem aCl {A0 : Option Addr} {l0 c0 : Nat} {A1 : Option Addr} {l1 c1 : Nat} {A2 : Option Addr} {l2 c2 : Nat}
 (h : true = true∧(((decide (((l0 : Nat) : Int) < 1)) = true →
 (∀ k0,Up k k0→R k0 (int .i64 4))) ∧
 ((decide (((l0 : Nat) : Int) < 1)) = false →
 (true = true∧(((decide (((l0 : Nat) : Int) > 8)) = true →
 (∀ k1,Up k k1→R k1 (int .i64 4))) ∧
 ((decide (((l0 : Nat) : Int) > 8)) = false →
 (true = true∧(((decide (((l1 : Nat) : Int) < 1)) = true →
 (∀ k2,Up k k2→R k2 (int .i64 4))) ∧
 ((decide (((l1 : Nat) : Int) < 1)) = false →
 (true = true∧(((decide (((l1 : Nat) : Int) > 24)) = true →
 (∀ k3,Up k k3→R k3 (int .i64 4))) ∧
 ((decide (((l1 : Nat) : Int) > 24)) = false →
 (true = true∧(((decide (((l2 : Nat) : Int) > 64)) = true →
 (∀ k4,Up k k4→R k4 (int .i64 4))) ∧
 ((decide (((l2 : Nat) : Int) > 64)) = false →
 (true = true∧(∃ I5 : Nat→World→List Value→Prop,(∃ m5,∀ k5,Up k k5→I5 m5 k5 [int .i64 0]) ∧
 ∀ m5 k5 vs5,Up k k5→I5 m5 k5 vs5→∃ n3,some [int .i64 n3] = some vs5 ∧
 ((decide ((n3 : Int) < (l0 : Nat))) = true →
 ((∃ b o,A0 = some ⟨b,o,none⟩)∧((0 : Int)≤n3∧(n3 : Int) < (l0 : Nat)) ∧
 ∃ A4 l4 c4,∃ A5 l5 c5,∃ cs6,Seg 3 cs6∧∃ cs7,Seg 3 cs7∧Sy.ReadAt k5.cell? A0 (Int.toNat n3*8+0) 8 (agg ((slice A4 l4 c4) :: ((slice A5 l5 c5) :: (cs6.toList ++ (cs7.toList ++ ([]))))).toArray) ∧
 Cl k5 65 #[agg ((slice A4 l4 c4) :: ((slice A5 l5 c5) :: (cs6.toList ++ (cs7.toList ++ ([]))))).toArray] fun k7 r6=>∃ n8,some (int .i64 n8) = some r6 ∧
 (((n8 : Int) != 0) = true →
 (∀ k8,Up k7 k8→R k8 (int .i64 n8))) ∧
 (((n8 : Int) != 0) = false →
 (∀ k9,Up k7 k9→∃ m,m < m5∧I5 m k9 [int .i64 (IntKind.wrap .i64 (n3+1))])))) ∧
 ((decide ((n3 : Int) < (l0 : Nat))) = false →
 (true = true∧(∃ I10 : Nat→World→List Value→Prop,(∃ m10,∀ k10,Up k5 k10→I10 m10 k10 [int .i64 0]) ∧
 ∀ m10 k10 vs10,Up k5 k10→I10 m10 k10 vs10→∃ n4,some [int .i64 n4] = some vs10 ∧
 ((decide ((n4 : Int) < (l1 : Nat))) = true →
 ((∃ b o,A1 = some ⟨b,o,none⟩)∧((0 : Int)≤n4∧(n4 : Int) < (l1 : Nat)) ∧
 ∃ n5,∃ cs6,Seg 3 cs6∧∃ cs7,Seg 3 cs7∧∃ cs8,Seg 3 cs8∧Sy.ReadAt k10.cell? A1 (Int.toNat n4*10+0) 10 (agg ((int .i64 n5) :: (cs6.toList ++ (cs7.toList ++ (cs8.toList ++ ([]))))).toArray) ∧
 Cl k10 66 #[agg #[slice A0 l0 c0,slice A1 l1 c1,slice A2 l2 c2],agg ((int .i64 n5) :: (cs6.toList ++ (cs7.toList ++ (cs8.toList ++ ([]))))).toArray] fun k12 r11=>∃ n9,some (int .i64 n9) = some r11 ∧
 (((n9 : Int) != 0) = true →
 (∀ k13,Up k12 k13→R k13 (int .i64 n9))) ∧
 (((n9 : Int) != 0) = false →
 (∀ k14,Up k12 k14→∃ m,m < m10∧I10 m k14 [int .i64 (IntKind.wrap .i64 (n4+1))])))) ∧
 ((decide ((n4 : Int) < (l1 : Nat))) = false →
 (Cl k10 67 #[agg #[slice A0 l0 c0,slice A1 l1 c1,slice A2 l2 c2]] fun k16 r15=>∃ n5,some (int .i64 n5) = some r15 ∧
 (((n5 : Int) != 0) = true →
 (∀ k17,Up k16 k17→R k17 (int .i64 n5))) ∧
 (((n5 : Int) != 0) = false →
 (Cl k16 68 #[agg #[slice A0 l0 c0,slice A1 l1 c1,slice A2 l2 c2]] fun k19 r18=>∃ M6 : Nat,some (Value.map (some M6)) = some r18 ∧
 true = true∧(∃ I20 : Nat→World→List Value→Prop,(∃ m20,∀ k20,Up k19 k20→I20 m20 k20 [int .i64 0]) ∧
 ∀ m20 k20 vs20,Up k19 k20→I20 m20 k20 vs20→∃ n7,some [int .i64 n7] = some vs20 ∧
 ((decide ((n7 : Int) < (l1 : Nat))) = true →
 ((∃ b o,A1 = some ⟨b,o,none⟩)∧((0 : Int)≤n7∧(n7 : Int) < (l1 : Nat)) ∧
 ∃ n8,∃ cs9,Seg 3 cs9∧∃ cs10,Seg 3 cs10∧∃ cs11,Seg 3 cs11∧Sy.ReadAt k20.cell? A1 (Int.toNat n7*10+0) 10 (agg ((int .i64 n8) :: (cs9.toList ++ (cs10.toList ++ (cs11.toList ++ ([]))))).toArray) ∧
 Cl k20 39 #[agg cs10,agg cs11] fun k22 r21=>Gt 3 r21 fun cs12 =>
 ∃ A13 l13 c13,Sy.LookAt Tryz.prog k22 144 M6 (int .i64 n7) (slice A13 l13 c13) ∧
 true = true∧(∃ I23 : Nat→World→List Value→Prop,(∃ m23,∀ k23,Up k22 k23→I23 m23 k23 [int .i64 0,agg cs12]) ∧
 ∀ m23 k23 vs23,Up k22 k23→I23 m23 k23 vs23→∃ n14,∃ cs15,Seg 3 cs15∧some [int .i64 n14,agg cs15] = some vs23 ∧
 ((decide ((n14 : Int) < (l13 : Nat))) = true →
 ((∃ b o,A13 = some ⟨b,o,none⟩)∧((0 : Int)≤n14∧(n14 : Int) < (l13 : Nat)) ∧
 ∃ n16,∃ n17,∃ cs18,Seg 3 cs18∧Sy.ReadAt k23.cell? A13 (Int.toNat n14*5+0) 5 (agg ((int .i64 n16) :: ((int .i64 n17) :: (cs18.toList ++ ([])))).toArray) ∧
 Cl k23 39 #[agg cs15,agg cs18] fun k25 r24=>Gt 3 r24 fun cs19 =>
 ∀ k26,Up k25 k26→∃ m,m < m23∧I23 m k26 [int .i64 (IntKind.wrap .i64 (n14+1)),agg cs19])) ∧
 ((decide ((n14 : Int) < (l13 : Nat))) = false →
 (Cl k23 69 #[agg cs9,agg cs15] fun k28 r27=>∃ b16,some (bool b16) = some r27 ∧
 (b16 = true →
 (∀ k29,Up k28 k29→R k29 (int .i64 60))) ∧
 (b16 = false →
 (∀ k30,Up k28 k30→∃ m,m < m20∧I20 m k30 [int .i64 (IntKind.wrap .i64 (n7+1))]))))))) ∧
 ((decide ((n7 : Int) < (l1 : Nat))) = false →
 (∀ k31,Up k20 k31→R k31 (int .i64 0)))))))))))))))))))))))))))) :
   CallsG Tryz.prog 29 #[agg #[slice A0 l0 c0,slice A1 l1 c1,slice A2 l2 c2]] k R :=
  aA (cfg:={ opq:=[71],loops:=[(0,[.tmp 47 false [.int .i64]]),(2,[.tmp 60 false [.int .i64]]),(4,[.tmp 81 false [.int .i64]]),(6,[.tmp 95 false [.int .i64],.blk 2 [.seg 3]])] }) (args:=[.agg [.var 0,.var 1,.var 2]]) (vals:=[slice A0 l0 c0,slice A1 l1 c1,slice A2 l2 c2]) (kinds:=[.slice,.slice,.slice]) (by kernel_rfl) ⟨⟨_,_,_,rfl⟩,⟨⟨_,_,_,rfl⟩,⟨⟨_,_,_,rfl⟩,trivial⟩⟩⟩ (by kernel_rfl) (by kernel_rfl) h
theorem aCx {A0 : Option Addr} {l0 c0 : Nat} {A1 : Option Addr} {l1 c1 : Nat} {A2 : Option Addr} {l2 c2 : Nat} {A3 : Option Addr} {l3 c3 : Nat} {A4 : Option Addr} {l4 c4 : Nat} {A5 : Option Addr} {l5 c5 : Nat}
 (h : true = true∧(true = true∧(((((l3 : Nat) : Int) != (l1 : Nat)) = true →
 (∀ k0,Up k k0→R k0 (int .i64 4))) ∧
 ((((l3 : Nat) : Int) != (l1 : Nat)) = false →
 (true = true∧(((((l4 : Nat) : Int) != (l1 : Nat)) = true →
 (∀ k1,Up k k1→R k1 (int .i64 4))) ∧
 ((((l4 : Nat) : Int) != (l1 : Nat)) = false →
 (true = true∧(((((l5 : Nat) : Int) != (l1 : Nat)) = true →
 (∀ k2,Up k k2→R k2 (int .i64 4))) ∧
 ((((l5 : Nat) : Int) != (l1 : Nat)) = false →
 (∀ k3,Up k k3→R k3 (int .i64 0)))))))))))) :
   CallsG Tryz.prog 97 #[agg #[slice A0 l0 c0,slice A1 l1 c1,slice A2 l2 c2],agg #[slice A3 l3 c3,slice A4 l4 c4,slice A5 l5 c5]] k R :=
  aA (cfg:={ opq:=[71] }) (args:=[.agg [.var 0,.var 1,.var 2],.agg [.var 3,.var 4,.var 5]]) (vals:=[slice A0 l0 c0,slice A1 l1 c1,slice A2 l2 c2,slice A3 l3 c3,slice A4 l4 c4,slice A5 l5 c5]) (kinds:=[.slice,.slice,.slice,.slice,.slice,.slice]) (by kernel_rfl) ⟨⟨_,_,_,rfl⟩,⟨⟨_,_,_,rfl⟩,⟨⟨_,_,_,rfl⟩,⟨⟨_,_,_,rfl⟩,⟨⟨_,_,_,rfl⟩,⟨⟨_,_,_,rfl⟩,trivial⟩⟩⟩⟩⟩⟩ (by kernel_rfl) (by kernel_rfl) h
theorem aFx {A0 : Option Addr} {l0 c0 : Nat} {A1 : Option Addr} {l1 c1 : Nat} {A2 : Option Addr} {l2 c2 : Nat} {A3 : Option Addr} {l3 c3 : Nat} {A4 : Option Addr} {l4 c4 : Nat} {A5 : Option Addr} {l5 c5 : Nat}
 (h : Cl k 29 #[agg #[slice A0 l0 c0,slice A1 l1 c1,slice A2 l2 c2]] fun k1 r0=>∃ n6,some (int .i64 n6) = some r0 ∧
 (((n6 : Int) != 0) = true →
 (∀ k2,Up k1 k2→R k2 (int .i64 n6))) ∧
 (((n6 : Int) != 0) = false →
 (Cl k1 97 #[agg #[slice A0 l0 c0,slice A1 l1 c1,slice A2 l2 c2],agg #[slice A3 l3 c3,slice A4 l4 c4,slice A5 l5 c5]] fun k4 r3=>∃ n7,some (int .i64 n7) = some r3 ∧
 ∀ k5,Up k4 k5→R k5 (int .i64 n7)))) :
  CallsG Tryz.prog 49 #[agg #[slice A0 l0 c0,slice A1 l1 c1,slice A2 l2 c2],agg #[slice A3 l3 c3,slice A4 l4 c4,slice A5 l5 c5]] k R :=
  aA (cfg:={ opq:=[71] }) (args:=[.agg [.var 0,.var 1,.var 2],.agg [.var 3,.var 4,.var 5]]) (vals:=[slice A0 l0 c0,slice A1 l1 c1,slice A2 l2 c2,slice A3 l3 c3,slice A4 l4 c4,slice A5 l5 c5]) (kinds:=[.slice,.slice,.slice,.slice,.slice,.slice]) (by kernel_rfl) ⟨⟨_,_,_,rfl⟩,⟨⟨_,_,_,rfl⟩,⟨⟨_,_,_,rfl⟩,⟨⟨_,_,_,rfl⟩,⟨⟨_,_,_,rfl⟩,⟨⟨_,_,_,rfl⟩,trivial⟩⟩⟩⟩⟩⟩ (by kernel_rfl) (by kernel_rfl) h
theorem aLp {A0 : Option Addr} {l0 c0 : Nat} {A1 : Option Addr} {l1 c1 : Nat} {A2 : Option Addr} {l2 c2 : Nat}
 (h : Cl k 68 #[agg #[slice A0 l0 c0,slice A1 l1 c1,slice A2 l2 c2]] fun k1 r0=>∃ M3 : Nat,some (Value.map (some M3)) = some r0 ∧
 ∀ k2,Up k1 k2→R k2 (agg #[slice A0 l0 c0,slice A1 l1 c1,slice A2 l2 c2,Value.map (some M3)])) :
  CallsG Tryz.prog 50 #[agg #[slice A0 l0 c0,slice A1 l1 c1,slice A2 l2 c2]] k R :=
  aA (cfg:={ opq:=[71] }) (args:=[.agg [.var 0,.var 1,.var 2]]) (vals:=[slice A0 l0 c0,slice A1 l1 c1,slice A2 l2 c2]) (kinds:=[.slice,.slice,.slice]) (by kernel_rfl) ⟨⟨_,_,_,rfl⟩,⟨⟨_,_,_,rfl⟩,⟨⟨_,_,_,rfl⟩,trivial⟩⟩⟩ (by kernel_rfl) (by kernel_rfl) h
theorem aDi {n0 n1 : Int} {cs2 : Array Value} {n3 : Int} (hcs2 : Seg 3 cs2)
 (h : ∀ k0,Up k k0→R k0 (int .i64 (IntKind.wrap .i64 ((IntKind.wrap .i64 (n0+n1)) - n3)))) :
 CallsG Tryz.prog 99 #[agg ((int .i64 n0) :: ((int .i64 n1) :: (cs2.toList ++ ([])))).toArray,int .i64 n3] k R :=
 aA (cfg:={ opq:=[71] }) (args:=[.agg [.var 0,.var 1,.seg 2 3],.one (.var 3)]) (vals:=[int .i64 n0,int .i64 n1,agg cs2,int .i64 n3]) (kinds:=[.int .i64,.int .i64,.seg 3,.int .i64]) (by kernel_rfl) ⟨⟨_,rfl⟩,⟨⟨_,rfl⟩,⟨⟨cs2,rfl,hcs2⟩,⟨⟨_,rfl⟩,trivial⟩⟩⟩⟩ (by kernel_rfl) (by kernel_rfl) h
theorem aFs {cs0 : Array Value} (hcs0 : Seg 3 cs0)
 (h : ∀ k0,Up k k0→R k0 (agg cs0)) :
 CallsG Tryz.prog 53 #[agg cs0] k R :=
 aA (cfg:={ opq:=[71] }) (args:=[.agg [.seg 0 3]]) (vals:=[agg cs0]) (kinds:=[.seg 3]) (by kernel_rfl) ⟨⟨cs0,rfl,hcs0⟩,trivial⟩ (by kernel_rfl) (by kernel_rfl) h
theorem aGq {A0 : Option Addr} {l0 c0 : Nat} {A1 : Option Addr} {l1 c1 : Nat} {A2 : Option Addr} {l2 c2 : Nat} {M3 : Nat} {A4 : Option Addr} {l4 c4 : Nat} {A5 : Option Addr} {l5 c5 : Nat} {A6 : Option Addr} {l6 c6 : Nat} {cs7 cs8 : Array Value} (hcs7 : Seg 3 cs7) (hcs8 : Seg 3 cs8)
 (h : true = true∧(∃ I0 : Nat→World→List Value→Prop,(∃ m0,∀ k0,Up k k0→I0 m0 k0 [int .i64 0,tuple #[slice none 0 0,agg #[]],tuple #[slice none 0 0,agg #[]],tuple #[slice none 0 0,agg #[]]]) ∧
 ∀ m0 k0 vs0,Up k k0→I0 m0 k0 vs0→∃ n9,∃ A10 l10 c10,∃ cs11,Sy.RowC cs11∧∃ A12 l12 c12,∃ cs13,Sy.RowC cs13∧∃ A14 l14 c14,∃ cs15,Sy.RowC cs15∧some [int .i64 n9,tuple #[slice A10 l10 c10,agg cs11],tuple #[slice A12 l12 c12,agg cs13],tuple #[slice A14 l14 c14,agg cs15]] = some vs0 ∧
 ((decide ((n9 : Int) < (l1 : Nat))) = true →
 ((∃ b o,A1 = some ⟨b,o,none⟩)∧((0 : Int)≤n9∧(n9 : Int) < (l1 : Nat)) ∧
 ∃ n16,∃ cs17,Seg 3 cs17∧∃ cs18,Seg 3 cs18∧∃ cs19,Seg 3 cs19∧Sy.ReadAt k0.cell? A1 (Int.toNat n9*10+0) 10 (agg ((int .i64 n16) :: (cs17.toList ++ (cs18.toList ++ (cs19.toList ++ ([]))))).toArray) ∧
 (∃ b o,A4 = some ⟨b,o,none⟩)∧((0 : Int)≤n9∧(n9 : Int) < (l4 : Nat)) ∧
 ∃ cs20,Seg 3 cs20∧Sy.ReadAt k0.cell? A4 (Int.toNat n9*3+0) 3 (agg cs20) ∧
 Cl k0 41 #[agg cs7,agg cs20] fun k2 r1=>Gt 3 r1 fun cs21 =>
 Cl k2 40 #[agg cs18,agg cs21] fun k4 r3=>Gt 3 r3 fun cs22 =>
 Cl k4 41 #[agg cs8,agg cs20] fun k6 r5=>Gt 3 r5 fun cs23 =>
 Cl k6 40 #[agg cs19,agg cs23] fun k8 r7=>Gt 3 r7 fun cs24 =>
 Cl k8 39 #[agg cs22,agg cs24] fun k10 r9=>Gt 3 r9 fun cs25 =>
 ∃ A26 l26 c26,Sy.LookAt Tryz.prog k10 144 M3 (int .i64 n9) (slice A26 l26 c26) ∧
 true = true∧(∃ I11 : Nat→World→List Value→Prop,(∃ m11,∀ k11,Up k10 k11→I11 m11 k11 [int .i64 0,agg cs25]) ∧
 ∀ m11 k11 vs11,Up k10 k11→I11 m11 k11 vs11→∃ n27,∃ cs28,Seg 3 cs28∧some [int .i64 n27,agg cs28] = some vs11 ∧
 ((decide ((n27 : Int) < (l26 : Nat))) = true →
 ((∃ b o,A26 = some ⟨b,o,none⟩)∧((0 : Int)≤n27∧(n27 : Int) < (l26 : Nat)) ∧
 ∃ n29,∃ n30,∃ cs31,Seg 3 cs31∧Sy.ReadAt k11.cell? A26 (Int.toNat n27*5+0) 5 (agg ((int .i64 n29) :: ((int .i64 n30) :: (cs31.toList ++ ([])))).toArray) ∧
 Cl k11 99 #[agg ((int .i64 n29) :: ((int .i64 n30) :: (cs31.toList ++ ([])))).toArray,int .i64 n9] fun k13 r12=>∃ n32,some (int .i64 n32) = some r12 ∧
 (∃ b o,A4 = some ⟨b,o,none⟩)∧((0 : Int)≤n32∧(n32 : Int) < (l4 : Nat)) ∧
 ∃ cs33,Seg 3 cs33∧Sy.ReadAt k13.cell? A4 (Int.toNat n32*3+0) 3 (agg cs33) ∧
 Cl k13 41 #[agg cs33,agg cs20] fun k15 r14=>Gt 3 r14 fun cs34 =>
 Cl k15 40 #[agg cs31,agg cs34] fun k17 r16=>Gt 3 r16 fun cs35 =>
 Cl k17 39 #[agg cs28,agg cs35] fun k19 r18=>Gt 3 r18 fun cs36 =>
 ∀ k20,Up k19 k20→∃ m,m < m11∧I11 m k20 [int .i64 (IntKind.wrap .i64 (n27+1)),agg cs36])) ∧
 ((decide ((n27 : Int) < (l26 : Nat))) = false →
 ((∃ b o,A0 = some ⟨b,o,none⟩)∧((0 : Int)≤n16∧(n16 : Int) < (l0 : Nat)) ∧
 ∃ A29 l29 c29,∃ A30 l30 c30,∃ cs31,Seg 3 cs31∧∃ cs32,Seg 3 cs32∧Sy.ReadAt k11.cell? A0 (Int.toNat n16*8+0) 8 (agg ((slice A29 l29 c29) :: ((slice A30 l30 c30) :: (cs31.toList ++ (cs32.toList ++ ([]))))).toArray) ∧
 Cl k11 92 #[agg cs28,agg cs17] fun k22 r21=>Gt 3 r21 fun cs33 =>
 Cl k22 39 #[agg cs20,agg cs33] fun k24 r23=>Gt 3 r23 fun cs34 =>
 Cl k24 53 #[agg cs34] fun k26 r25=>Gt 3 r25 fun cs35 =>
 (cs35.toList ++ ([]) : List Value).length = Int.toNat 1*3∧(0 : Int)≤1∧Sy.sizeOk 56 (l10+Int.toNat 1)∧∀ (A36 : Option Addr) (l36 c36 : Nat) (cs37 : Array Value),l36 = l10+Int.toNat 1→cs37 = cs11 ++ (cs35.toList ++ ([]) : List Value).toArray→l36≤c36 →
 (∃ b o,A5 = some ⟨b,o,none⟩)∧((0 : Int)≤n9∧(n9 : Int) < (l5 : Nat)) ∧
 ∃ cs38,Seg 3 cs38∧Sy.ReadAt k26.cell? A5 (Int.toNat n9*3+0) 3 (agg cs38) ∧
 Cl k26 60 #[slice A29 l29 c29,agg cs20] fun k28 r27=>Gt 3 r27 fun cs39 =>
 Cl k28 39 #[agg cs38,agg cs39] fun k30 r29=>Gt 3 r29 fun cs40 =>
 (cs40.toList ++ ([]) : List Value).length = Int.toNat 1*3∧(0 : Int)≤1∧Sy.sizeOk 56 (l12+Int.toNat 1)∧∀ (A41 : Option Addr) (l41 c41 : Nat) (cs42 : Array Value),l41 = l12+Int.toNat 1→cs42 = cs13 ++ (cs40.toList ++ ([]) : List Value).toArray→l41≤c41 →
 (∃ b o,A6 = some ⟨b,o,none⟩)∧((0 : Int)≤n9∧(n9 : Int) < (l6 : Nat)) ∧
 ∃ cs43,Seg 3 cs43∧Sy.ReadAt k30.cell? A6 (Int.toNat n9*3+0) 3 (agg cs43) ∧
 Cl k30 60 #[slice A30 l30 c30,agg cs20] fun k32 r31=>Gt 3 r31 fun cs44 =>
 Cl k32 39 #[agg cs43,agg cs44] fun k34 r33=>Gt 3 r33 fun cs45 =>
 (cs45.toList ++ ([]) : List Value).length = Int.toNat 1*3∧(0 : Int)≤1∧Sy.sizeOk 56 (l14+Int.toNat 1)∧∀ (A46 : Option Addr) (l46 c46 : Nat) (cs47 : Array Value),l46 = l14+Int.toNat 1→cs47 = cs15 ++ (cs45.toList ++ ([]) : List Value).toArray→l46≤c46 →
 ∀ k35,Up k34 k35→∃ m,m < m0∧I0 m k35 [int .i64 (IntKind.wrap .i64 (n9+1)),tuple #[slice A36 l36 c36,agg cs37],tuple #[slice A41 l41 c41,agg cs42],tuple #[slice A46 l46 c46,agg cs47]]))))) ∧
 ((decide ((n9 : Int) < (l1 : Nat))) = false →
 (∀ k36,Up k0 k36→Sy.RowAt k36 A10 cs11 →
 ∀ k37,Up k36 k37→Sy.RowAt k37 A12 cs13 →
 ∀ k38,Up k37 k38→Sy.RowAt k38 A14 cs15 →
 ∀ k39,Up k38 k39→R k39 (agg #[slice A10 l10 c10,slice A12 l12 c12,slice A14 l14 c14]))))) :
  CallsG Tryz.prog 52 #[agg #[slice A0 l0 c0,slice A1 l1 c1,slice A2 l2 c2,Value.map (some M3)],agg #[slice A4 l4 c4,slice A5 l5 c5,slice A6 l6 c6],agg cs7,agg cs8,Value.func (.func 53) #[] #[]] k R :=
  Sy.execFn_use_heap (cfg:={ opq:=[71],loops:=[(0,[.tmp 23 false [.int .i64],.rb 5 0 71 3,.rb 5 1 71 3,.rb 5 2 71 3]),(2,[.tmp 51 false [.int .i64],.blk 8 [.seg 3]])] }) (args:=[.agg [.var 0,.var 1,.var 2,.var 3],.agg [.var 4,.var 5,.var 6],.agg [.seg 7 3],.agg [.seg 8 3],.one (.fn 53 [])]) (vals:=[slice A0 l0 c0,slice A1 l1 c1,slice A2 l2 c2,Value.map (some M3),slice A4 l4 c4,slice A5 l5 c5,slice A6 l6 c6,agg cs7,agg cs8]) (kinds:=[.slice,.slice,.slice,.map,.slice,.slice,.slice,.seg 3,.seg 3]) (blks:=[]) (heap:=[]) (by kernel_rfl) ⟨⟨_,_,_,rfl⟩,⟨⟨_,_,_,rfl⟩,⟨⟨_,_,_,rfl⟩,⟨⟨_,rfl⟩,⟨⟨_,_,_,rfl⟩,⟨⟨_,_,_,rfl⟩,⟨⟨_,_,_,rfl⟩,⟨⟨cs7,rfl,hcs7⟩,⟨⟨cs8,rfl,hcs8⟩,trivial⟩⟩⟩⟩⟩⟩⟩⟩⟩ (by kernel_rfl) trivial (by kernel_rfl) h
theorem yW {A0 : Option Addr} {l0 c0 : Nat} {A1 : Option Addr} {l1 c1 : Nat} {A2 : Option Addr} {l2 c2 : Nat}
 (h : Cl k 98 #[slice A0 l0 c0] fun k1 r0=>∃ A3 l3 c3,some (slice A3 l3 c3) = some r0 ∧
 Cl k1 98 #[slice A1 l1 c1] fun k3 r2=>∃ A4 l4 c4,some (slice A4 l4 c4) = some r2 ∧
 Cl k3 98 #[slice A2 l2 c2] fun k5 r4=>∃ A5 l5 c5,some (slice A5 l5 c5) = some r4 ∧
 ∀ k6,Up k5 k6→R k6 (agg #[slice A3 l3 c3,slice A4 l4 c4,slice A5 l5 c5])) :
  CallsG Tryz.prog 51 #[agg #[slice A0 l0 c0,slice A1 l1 c1,slice A2 l2 c2]] k R :=
  aA (cfg:={ opq:=[71] }) (args:=[.agg [.var 0,.var 1,.var 2]]) (vals:=[slice A0 l0 c0,slice A1 l1 c1,slice A2 l2 c2]) (kinds:=[.slice,.slice,.slice]) (by kernel_rfl) ⟨⟨_,_,_,rfl⟩,⟨⟨_,_,_,rfl⟩,⟨⟨_,_,_,rfl⟩,trivial⟩⟩⟩ (by kernel_rfl) (by kernel_rfl) h
theorem aKe {A0 : Option Addr} {l0 c0 : Nat} {A1 : Option Addr} {l1 c1 : Nat} {A2 : Option Addr} {l2 c2 : Nat} {A3 : Option Addr} {l3 c3 : Nat} {A4 : Option Addr} {l4 c4 : Nat} {A5 : Option Addr} {l5 c5 : Nat} {A6 : Option Addr} {l6 c6 : Nat} {A7 : Option Addr} {l7 c7 : Nat}
 (h : Cl k 49 #[agg #[slice A0 l0 c0,slice A1 l1 c1,slice A2 l2 c2],agg #[slice A3 l3 c3,slice A4 l4 c4,slice A5 l5 c5]] fun k1 r0=>∃ n8,some (int .i64 n8) = some r0 ∧
 (((n8 : Int) != 0) = true →
 (∀ k2,Up k1 k2→R k2 (tuple #[agg #[slice none 0 0,slice none 0 0,slice none 0 0],int .i64 n8]))) ∧
 (((n8 : Int) != 0) = false →
 (true = true∧(true = true∧(((((l6 : Nat) : Int) != (l7 : Nat)) = true →
 (∀ k3,Up k1 k3→R k3 (tuple #[agg #[slice none 0 0,slice none 0 0,slice none 0 0],int .i64 4]))) ∧
 ((((l6 : Nat) : Int) != (l7 : Nat)) = false →
 (true = true∧(((decide (((l6 : Nat) : Int) > 2000)) = true →
 (∀ k4,Up k1 k4→R k4 (tuple #[agg #[slice none 0 0,slice none 0 0,slice none 0 0],int .i64 4]))) ∧
 ((decide (((l6 : Nat) : Int) > 2000)) = false →
 (Cl k1 50 #[agg #[slice A0 l0 c0,slice A1 l1 c1,slice A2 l2 c2]] fun k6 r5=>∃ A9 l9 c9,∃ A10 l10 c10,∃ A11 l11 c11,∃ M12 : Nat,some (agg #[slice A9 l9 c9,slice A10 l10 c10,slice A11 l11 c11,Value.map (some M12)]) = some r5 ∧
 Cl k6 51 #[agg #[slice A3 l3 c3,slice A4 l4 c4,slice A5 l5 c5]] fun k8 r7=>∃ A13 l13 c13,∃ A14 l14 c14,∃ A15 l15 c15,some (agg #[slice A13 l13 c13,slice A14 l14 c14,slice A15 l15 c15]) = some r7 ∧
 true = true∧(∃ I9 : Nat→World→List Value→Prop,(∃ m9,∀ k9,Up k8 k9→I9 m9 k9 [int .i64 0,agg #[slice A13 l13 c13,slice A14 l14 c14,slice A15 l15 c15]]) ∧
 ∀ m9 k9 vs9,Up k8 k9→I9 m9 k9 vs9→∃ n16,∃ A17 l17 c17,∃ A18 l18 c18,∃ A19 l19 c19,some [int .i64 n16,agg #[slice A17 l17 c17,slice A18 l18 c18,slice A19 l19 c19]] = some vs9 ∧
 ((decide ((n16 : Int) < (l6 : Nat))) = true →
 ((∃ b o,A6 = some ⟨b,o,none⟩)∧((0 : Int)≤n16∧(n16 : Int) < (l6 : Nat)) ∧
 ∃ cs20,Seg 3 cs20∧Sy.ReadAt k9.cell? A6 (Int.toNat n16*3+0) 3 (agg cs20) ∧
 (∃ b o,A7 = some ⟨b,o,none⟩)∧((0 : Int)≤n16∧(n16 : Int) < (l7 : Nat)) ∧
 ∃ cs21,Seg 3 cs21∧Sy.ReadAt k9.cell? A7 (Int.toNat n16*3+0) 3 (agg cs21) ∧
 Cl k9 52 #[agg #[slice A9 l9 c9,slice A10 l10 c10,slice A11 l11 c11,Value.map (some M12)],agg #[slice A17 l17 c17,slice A18 l18 c18,slice A19 l19 c19],agg cs20,agg cs21,Value.func (.func 53) #[] #[]] fun k11 r10=>∃ A22 l22 c22,∃ A23 l23 c23,∃ A24 l24 c24,some (agg #[slice A22 l22 c22,slice A23 l23 c23,slice A24 l24 c24]) = some r10 ∧
 ∀ k12,Up k11 k12→∃ m,m < m9∧I9 m k12 [int .i64 (IntKind.wrap .i64 (n16+1)),agg #[slice A22 l22 c22,slice A23 l23 c23,slice A24 l24 c24]])) ∧
 ((decide ((n16 : Int) < (l6 : Nat))) = false →
 (∀ k13,Up k9 k13→R k13 (tuple #[agg #[slice A17 l17 c17,slice A18 l18 c18,slice A19 l19 c19],int .i64 0])))))))))))))) :
   CallsG Tryz.prog 15 #[agg #[slice A0 l0 c0,slice A1 l1 c1,slice A2 l2 c2],agg #[slice A3 l3 c3,slice A4 l4 c4,slice A5 l5 c5],slice A6 l6 c6,slice A7 l7 c7] k R :=
  aA (cfg:={ opq:=[71],loops:=[(0,[.tmp 39 false [.int .i64],.blk 4 [.slice,.slice,.slice]])] }) (args:=[.agg [.var 0,.var 1,.var 2],.agg [.var 3,.var 4,.var 5],.one (.var 6),.one (.var 7)]) (vals:=[slice A0 l0 c0,slice A1 l1 c1,slice A2 l2 c2,slice A3 l3 c3,slice A4 l4 c4,slice A5 l5 c5,slice A6 l6 c6,slice A7 l7 c7]) (kinds:=[.slice,.slice,.slice,.slice,.slice,.slice,.slice,.slice]) (by kernel_rfl) ⟨⟨_,_,_,rfl⟩,⟨⟨_,_,_,rfl⟩,⟨⟨_,_,_,rfl⟩,⟨⟨_,_,_,rfl⟩,⟨⟨_,_,_,rfl⟩,⟨⟨_,_,_,rfl⟩,⟨⟨_,_,_,rfl⟩,⟨⟨_,_,_,rfl⟩,trivial⟩⟩⟩⟩⟩⟩⟩⟩ (by kernel_rfl) (by kernel_rfl) h
theorem aFj {A0 : Option Addr} {l0 c0 : Nat} {A1 : Option Addr} {l1 c1 : Nat} {A2 : Option Addr} {l2 c2 : Nat} {cs3 : Array Value} (hcs3 : Seg 3 cs3)
 (h : true = true∧(∃ I0 : Nat→World→List Value→Prop,(∃ m0,∀ k0,Up k k0→I0 m0 k0 [int .i64 0,tuple #[slice none 0 0,agg #[]],tuple #[slice none 0 0,agg #[]],tuple #[slice none 0 0,agg #[]]]) ∧
 ∀ m0 k0 vs0,Up k k0→I0 m0 k0 vs0→∃ n4,∃ A5 l5 c5,∃ cs6,Sy.RowC cs6∧∃ A7 l7 c7,∃ cs8,Sy.RowC cs8∧∃ A9 l9 c9,∃ cs10,Sy.RowC cs10∧some [int .i64 n4,tuple #[slice A5 l5 c5,agg cs6],tuple #[slice A7 l7 c7,agg cs8],tuple #[slice A9 l9 c9,agg cs10]] = some vs0 ∧
 ((decide ((n4 : Int) < (l1 : Nat))) = true →
 ((cs3.toList ++ ([]) : List Value).length = Int.toNat 1*3∧(0 : Int)≤1∧Sy.sizeOk 56 (l5+Int.toNat 1)∧∀ (A11 : Option Addr) (l11 c11 : Nat) (cs12 : Array Value),l11 = l5+Int.toNat 1→cs12 = cs6 ++ (cs3.toList ++ ([]) : List Value).toArray→l11≤c11 →
 ([bool false,slice none 0 0,slice none 0 0] : List Value).length = Int.toNat 1*3∧(0 : Int)≤1∧Sy.sizeOk 56 (l7+Int.toNat 1)∧∀ (A13 : Option Addr) (l13 c13 : Nat) (cs14 : Array Value),l13 = l7+Int.toNat 1→cs14 = cs8 ++ ([bool false,slice none 0 0,slice none 0 0] : List Value).toArray→l13≤c13 →
 ([bool false,slice none 0 0,slice none 0 0] : List Value).length = Int.toNat 1*3∧(0 : Int)≤1∧Sy.sizeOk 56 (l9+Int.toNat 1)∧∀ (A15 : Option Addr) (l15 c15 : Nat) (cs16 : Array Value),l15 = l9+Int.toNat 1→cs16 = cs10 ++ ([bool false,slice none 0 0,slice none 0 0] : List Value).toArray→l15≤c15 →
 ∀ k1,Up k0 k1→∃ m,m < m0∧I0 m k1 [int .i64 (IntKind.wrap .i64 (n4+1)),tuple #[slice A11 l11 c11,agg cs12],tuple #[slice A13 l13 c13,agg cs14],tuple #[slice A15 l15 c15,agg cs16]])) ∧
 ((decide ((n4 : Int) < (l1 : Nat))) = false →
 (∀ k2,Up k0 k2→Sy.RowAt k2 A5 cs6 →
 ∀ k3,Up k2 k3→Sy.RowAt k3 A7 cs8 →
 ∀ k4,Up k3 k4→Sy.RowAt k4 A9 cs10 →
 ∀ k5,Up k4 k5→R k5 (agg #[slice A5 l5 c5,slice A7 l7 c7,slice A9 l9 c9]))))) :
  CallsG Tryz.prog 78 #[agg #[slice A0 l0 c0,slice A1 l1 c1,slice A2 l2 c2],agg cs3] k R :=
  aA (cfg:={ opq:=[71],loops:=[(0,[.tmp 9 false [.int .i64],.rb 3 0 71 3,.rb 3 1 71 3,.rb 3 2 71 3])] }) (args:=[.agg [.var 0,.var 1,.var 2],.agg [.seg 3 3]]) (vals:=[slice A0 l0 c0,slice A1 l1 c1,slice A2 l2 c2,agg cs3]) (kinds:=[.slice,.slice,.slice,.seg 3]) (by kernel_rfl) ⟨⟨_,_,_,rfl⟩,⟨⟨_,_,_,rfl⟩,⟨⟨_,_,_,rfl⟩,⟨⟨cs3,rfl,hcs3⟩,trivial⟩⟩⟩⟩ (by kernel_rfl) (by kernel_rfl) h
end Go.Proofs.YtampehijkiencaaGreat

namespace Go.Proofs.YtampehijkiencaaGreat
open Go.RowKit
open Value (agg slice int bool tuple)
open Sy (Up Sees CallsG Seg aA)
set_option maxRecDepth 100000
variable {k : World} {R : World→Value→Prop}
theorem aCk {A0 : Option Addr} {l0 c0 : Nat} {A1 : Option Addr} {l1 c1 : Nat} {A2 : Option Addr} {l2 c2 : Nat} {A3 : Option Addr} {l3 c3 : Nat} {A4 : Option Addr} {l4 c4 : Nat} {A5 : Option Addr} {l5 c5 : Nat}
 (h : true = true∧(true = true∧(((((l0 : Nat) : Int) != (l3 : Nat)) = true →
 (∀ k0,Up k k0→R k0 (bool false))) ∧
 ((((l0 : Nat) : Int) != (l3 : Nat)) = false →
 (true = true∧(true = true∧(((((l1 : Nat) : Int) != (l4 : Nat)) = true →
 (∀ k1,Up k k1→R k1 (bool false))) ∧
 ((((l1 : Nat) : Int) != (l4 : Nat)) = false →
 (true = true∧(true = true∧(((((l2 : Nat) : Int) != (l5 : Nat)) = true →
 (∀ k2,Up k k2→R k2 (bool false))) ∧
 ((((l2 : Nat) : Int) != (l5 : Nat)) = false →
 (true = true∧(∃ I3 : Nat→World→List Value→Prop,(∃ m3,∀ k3,Up k k3→I3 m3 k3 [int .i64 0]) ∧
 ∀ m3 k3 vs3,Up k k3→I3 m3 k3 vs3→∃ n6,some [int .i64 n6] = some vs3 ∧
 ((decide ((n6 : Int) < (l1 : Nat))) = true →
 ((∃ b o,A1 = some ⟨b,o,none⟩)∧((0 : Int)≤n6∧(n6 : Int) < (l1 : Nat)) ∧
 ∃ n7,∃ cs8,Seg 3 cs8∧∃ cs9,Seg 3 cs9∧∃ cs10,Seg 3 cs10∧Sy.ReadAt k3.cell? A1 (Int.toNat n6*10+0) 10 (agg ((int .i64 n7) :: (cs8.toList ++ (cs9.toList ++ (cs10.toList ++ ([]))))).toArray) ∧
 (∃ b o,A4 = some ⟨b,o,none⟩)∧((0 : Int)≤n6∧(n6 : Int) < (l4 : Nat)) ∧
 ∃ n11,∃ cs12,Seg 3 cs12∧∃ cs13,Seg 3 cs13∧∃ cs14,Seg 3 cs14∧Sy.ReadAt k3.cell? A4 (Int.toNat n6*10+0) 10 (agg ((int .i64 n11) :: (cs12.toList ++ (cs13.toList ++ (cs14.toList ++ ([]))))).toArray) ∧
 (((n7 : Int) != n11) = true →
 (∀ k4,Up k3 k4→R k4 (bool false))) ∧
 (((n7 : Int) != n11) = false →
 (Cl k3 31 #[agg cs8,agg cs12] fun k6 r5=>∃ b15,some (bool b15) = some r5 ∧
 ((!b15) = true →
 (∀ k7,Up k6 k7→R k7 (bool false))) ∧
 ((!b15) = false →
 (Cl k6 31 #[agg cs9,agg cs13] fun k9 r8=>∃ b16,some (bool b16) = some r8 ∧
 ((!b16) = true →
 (∀ k10,Up k9 k10→R k10 (bool false))) ∧
 ((!b16) = false →
 (Cl k9 31 #[agg cs10,agg cs14] fun k12 r11=>∃ b17,some (bool b17) = some r11 ∧
 ((!b17) = true →
 (∀ k13,Up k12 k13→R k13 (bool false))) ∧
 ((!b17) = false →
 (∀ k14,Up k12 k14→∃ m,m < m3∧I3 m k14 [int .i64 (IntKind.wrap .i64 (n6+1))])))))))))) ∧
 ((decide ((n6 : Int) < (l1 : Nat))) = false →
 (true = true∧(∃ I15 : Nat→World→List Value→Prop,(∃ m15,∀ k15,Up k3 k15→I15 m15 k15 [int .i64 0]) ∧
 ∀ m15 k15 vs15,Up k3 k15→I15 m15 k15 vs15→∃ n7,some [int .i64 n7] = some vs15 ∧
 ((decide ((n7 : Int) < (l2 : Nat))) = true →
 ((∃ b o,A2 = some ⟨b,o,none⟩)∧((0 : Int)≤n7∧(n7 : Int) < (l2 : Nat)) ∧
 ∃ n8,∃ n9,∃ cs10,Seg 3 cs10∧Sy.ReadAt k15.cell? A2 (Int.toNat n7*5+0) 5 (agg ((int .i64 n8) :: ((int .i64 n9) :: (cs10.toList ++ ([])))).toArray) ∧
 (∃ b o,A5 = some ⟨b,o,none⟩)∧((0 : Int)≤n7∧(n7 : Int) < (l5 : Nat)) ∧
 ∃ n11,∃ n12,∃ cs13,Seg 3 cs13∧Sy.ReadAt k15.cell? A5 (Int.toNat n7*5+0) 5 (agg ((int .i64 n11) :: ((int .i64 n12) :: (cs13.toList ++ ([])))).toArray) ∧
 (((n8 : Int) != n11) = true →
 (∀ k16,Up k15 k16→R k16 (bool false))) ∧
 (((n8 : Int) != n11) = false →
 ((((n9 : Int) != n12) = true →
 (∀ k17,Up k15 k17→R k17 (bool false))) ∧
 (((n9 : Int) != n12) = false →
 (Cl k15 31 #[agg cs10,agg cs13] fun k19 r18=>∃ b14,some (bool b14) = some r18 ∧
 ((!b14) = true →
 (∀ k20,Up k19 k20→R k20 (bool false))) ∧
 ((!b14) = false →
 (∀ k21,Up k19 k21→∃ m,m < m15∧I15 m k21 [int .i64 (IntKind.wrap .i64 (n7+1))])))))))) ∧
 ((decide ((n7 : Int) < (l2 : Nat))) = false →
 (true = true∧(∃ I22 : Nat→World→List Value→Prop,(∃ m22,∀ k22,Up k15 k22→I22 m22 k22 [int .i64 0]) ∧
 ∀ m22 k22 vs22,Up k15 k22→I22 m22 k22 vs22→∃ n8,some [int .i64 n8] = some vs22 ∧
 ((decide ((n8 : Int) < (l0 : Nat))) = true →
 ((∃ b o,A0 = some ⟨b,o,none⟩)∧((0 : Int)≤n8∧(n8 : Int) < (l0 : Nat)) ∧
 ∃ A9 l9 c9,∃ A10 l10 c10,∃ cs11,Seg 3 cs11∧∃ cs12,Seg 3 cs12∧Sy.ReadAt k22.cell? A0 (Int.toNat n8*8+0) 8 (agg ((slice A9 l9 c9) :: ((slice A10 l10 c10) :: (cs11.toList ++ (cs12.toList ++ ([]))))).toArray) ∧
 (∃ b o,A3 = some ⟨b,o,none⟩)∧((0 : Int)≤n8∧(n8 : Int) < (l3 : Nat)) ∧
 ∃ A13 l13 c13,∃ A14 l14 c14,∃ cs15,Seg 3 cs15∧∃ cs16,Seg 3 cs16∧Sy.ReadAt k22.cell? A3 (Int.toNat n8*8+0) 8 (agg ((slice A13 l13 c13) :: ((slice A14 l14 c14) :: (cs15.toList ++ (cs16.toList ++ ([]))))).toArray) ∧
 true = true∧(true = true∧(((((l9 : Nat) : Int) != (l13 : Nat)) = true →
 (∀ k23,Up k22 k23→R k23 (bool false))) ∧
 ((((l9 : Nat) : Int) != (l13 : Nat)) = false →
 (true = true∧(true = true∧(((((l10 : Nat) : Int) != (l14 : Nat)) = true →
 (∀ k24,Up k22 k24→R k24 (bool false))) ∧
 ((((l10 : Nat) : Int) != (l14 : Nat)) = false →
 (Cl k22 31 #[agg cs11,agg cs15] fun k26 r25=>∃ b17,some (bool b17) = some r25 ∧
 ((!b17) = true →
 (∀ k27,Up k26 k27→R k27 (bool false))) ∧
 ((!b17) = false →
 (Cl k26 31 #[agg cs12,agg cs16] fun k29 r28=>∃ b18,some (bool b18) = some r28 ∧
 ((!b18) = true →
 (∀ k30,Up k29 k30→R k30 (bool false))) ∧
 ((!b18) = false →
 (∀ k31,Up k29 k31→∃ m,m < m22∧I22 m k31 [int .i64 (IntKind.wrap .i64 (n8+1))])))))))))))))) ∧
 ((decide ((n8 : Int) < (l0 : Nat))) = false →
 (∀ k32,Up k22 k32→R k32 (bool true))))))))))))))))))))))) :
   CallsG Tryz.prog 46 #[agg #[slice A0 l0 c0,slice A1 l1 c1,slice A2 l2 c2],agg #[slice A3 l3 c3,slice A4 l4 c4,slice A5 l5 c5]] k R :=
  aA (cfg:={ opq:=[71,89],loops:=[(0,[.tmp 42 false [.int .i64]]),(2,[.tmp 85 false [.int .i64]]),(4,[.tmp 119 false [.int .i64]])] }) (args:=[.agg [.var 0,.var 1,.var 2],.agg [.var 3,.var 4,.var 5]]) (vals:=[slice A0 l0 c0,slice A1 l1 c1,slice A2 l2 c2,slice A3 l3 c3,slice A4 l4 c4,slice A5 l5 c5]) (kinds:=[.slice,.slice,.slice,.slice,.slice,.slice]) (by kernel_rfl) ⟨⟨_,_,_,rfl⟩,⟨⟨_,_,_,rfl⟩,⟨⟨_,_,_,rfl⟩,⟨⟨_,_,_,rfl⟩,⟨⟨_,_,_,rfl⟩,⟨⟨_,_,_,rfl⟩,trivial⟩⟩⟩⟩⟩⟩ (by kernel_rfl) (by kernel_rfl) h
theorem aJy {A0 : Option Addr} {l0 c0 : Nat} {A1 : Option Addr} {l1 c1 : Nat} {cs2 cs3 : Array Value} (hcs2 : Seg 3 cs2) (hcs3 : Seg 3 cs3)
 (h : true = true∧(((((l1 : Nat) : Int) == 0) = true →
 (∀ k0,Up k k0→R k0 (tuple #[agg #[slice none 0 0,slice none 0 0,slice none 0 0],int .i64 4]))) ∧
 ((((l1 : Nat) : Int) == 0) = false →
 (true = true∧(((decide (((l1 : Nat) : Int) > 24)) = true →
 (∀ k1,Up k k1→R k1 (tuple #[agg #[slice none 0 0,slice none 0 0,slice none 0 0],int .i64 4]))) ∧
 ((decide (((l1 : Nat) : Int) > 24)) = false →
 (∃ I2 : Nat→World→List Value→Prop,(∃ m2,∀ k2,Up k k2→I2 m2 k2 [int .i64 0]) ∧
 ∀ m2 k2 vs2,Up k k2→I2 m2 k2 vs2→∃ n4,some [int .i64 n4] = some vs2 ∧
 true = true∧(((decide ((n4 : Int) < (l1 : Nat))) = true →
 ((∃ b o,A1 = some ⟨b,o,none⟩)∧((0 : Int)≤n4∧(n4 : Int) < (l1 : Nat)) ∧
 (∃ b o,A1 = some ⟨b,o,none⟩)∧((0 : Int)≤n4∧(n4 : Int) < (l1 : Nat)) ∧
 ∃ n5,Sy.ReadAt k2.cell? A1 (Int.toNat n4*8+1) 1 (int .i64 n5) ∧
 ((decide ((n5 : Int) < 1)) = true →
 (∀ k3,Up k2 k3→R k3 (tuple #[agg #[slice none 0 0,slice none 0 0,slice none 0 0],int .i64 1]))) ∧
 ((decide ((n5 : Int) < 1)) = false →
 ((∃ b o,A1 = some ⟨b,o,none⟩)∧((0 : Int)≤n4∧(n4 : Int) < (l1 : Nat)) ∧
 (∃ b o,A1 = some ⟨b,o,none⟩)∧((0 : Int)≤n4∧(n4 : Int) < (l1 : Nat)) ∧
 ∃ cs6,Seg 3 cs6∧Sy.ReadAt k2.cell? A1 (Int.toNat n4*8+5) 3 (agg cs6) ∧
 Cl k2 70 #[agg cs6] fun k5 r4=>∃ n7,some (int .i64 n7) = some r4 ∧
 ((decide ((n7 : Int)≤0)) = true →
 (∀ k6,Up k5 k6→R k6 (tuple #[agg #[slice none 0 0,slice none 0 0,slice none 0 0],int .i64 1]))) ∧
 ((decide ((n7 : Int)≤0)) = false →
 (∀ k7,Up k5 k7→∃ m,m < m2∧I2 m k7 [int .i64 (IntKind.wrap .i64 (n4+1))])))))) ∧
 ((decide ((n4 : Int) < (l1 : Nat))) = false →
 (∃ I8 : Nat→World→List Value→Prop,(∃ m8,∀ k8,Up k2 k8→I8 m8 k8 [int .i64 0,tuple #[slice none 0 0,agg #[]],tuple #[slice none 0 0,agg #[]]]) ∧
 ∀ m8 k8 vs8,Up k2 k8→I8 m8 k8 vs8→∃ n5,∃ A6 l6 c6,∃ cs7,Sy.RowC cs7∧∃ A8 l8 c8,∃ cs9,Sy.RowC cs9∧some [int .i64 n5,tuple #[slice A6 l6 c6,agg cs7],tuple #[slice A8 l8 c8,agg cs9]] = some vs8 ∧
 true = true∧(((decide ((n5 : Int) < (l1 : Nat))) = true →
 (∃ I9 : Nat→World→List Value→Prop,(∃ m9,∀ k9,Up k8 k9→I9 m9 k9 [int .i64 0,tuple #[slice A6 l6 c6,agg cs7],tuple #[slice A8 l8 c8,agg cs9]]) ∧
 ∀ m9 k9 vs9,Up k8 k9→I9 m9 k9 vs9→∃ n10,∃ A11 l11 c11,∃ cs12,Sy.RowC cs12∧∃ A13 l13 c13,∃ cs14,Sy.RowC cs14∧some [int .i64 n10,tuple #[slice A11 l11 c11,agg cs12],tuple #[slice A13 l13 c13,agg cs14]] = some vs9 ∧
 (∃ b o,A1 = some ⟨b,o,none⟩)∧((0 : Int)≤n5∧(n5 : Int) < (l1 : Nat)) ∧
 (∃ b o,A1 = some ⟨b,o,none⟩)∧((0 : Int)≤n5∧(n5 : Int) < (l1 : Nat)) ∧
 ∃ n15,Sy.ReadAt k9.cell? A1 (Int.toNat n5*8+1) 1 (int .i64 n15) ∧
 ((decide ((n10 : Int) < n15)) = true →
 (true = true∧(((((l13 : Nat) : Int) == 24) = true →
 (∀ k10,Up k9 k10→R k10 (tuple #[agg #[slice none 0 0,slice none 0 0,slice none 0 0],int .i64 4]))) ∧
 ((((l13 : Nat) : Int) == 24) = false →
 ((∃ b o,A1 = some ⟨b,o,none⟩)∧((0 : Int)≤n5∧(n5 : Int) < (l1 : Nat)) ∧
 (∃ b o,A1 = some ⟨b,o,none⟩)∧((0 : Int)≤n5∧(n5 : Int) < (l1 : Nat)) ∧
 ∃ n16,Sy.ReadAt k9.cell? A1 (Int.toNat n5*8+0) 1 (int .i64 n16) ∧
 (∃ b o,A1 = some ⟨b,o,none⟩)∧((0 : Int)≤n5∧(n5 : Int) < (l1 : Nat)) ∧
 (∃ b o,A1 = some ⟨b,o,none⟩)∧((0 : Int)≤n5∧(n5 : Int) < (l1 : Nat)) ∧
 ∃ cs17,Seg 3 cs17∧Sy.ReadAt k9.cell? A1 (Int.toNat n5*8+2) 3 (agg cs17) ∧
 Cl k9 62 #[int .i64 0] fun k12 r11=>Gt 3 r11 fun cs18 =>
 Cl k12 62 #[int .i64 0] fun k14 r13=>Gt 3 r13 fun cs19 =>
 ((int .i64 n16) :: (cs17.toList ++ (cs18.toList ++ (cs19.toList ++ ([])))) : List Value).length = Int.toNat 1*10∧(0 : Int)≤1∧Sy.sizeOk 176 (l13+Int.toNat 1)∧∀ (A20 : Option Addr) (l20 c20 : Nat) (cs21 : Array Value),l20 = l13+Int.toNat 1→cs21 = cs14 ++ ((int .i64 n16) :: (cs17.toList ++ (cs18.toList ++ (cs19.toList ++ ([])))) : List Value).toArray→l20≤c20 →
 (∃ b o,A1 = some ⟨b,o,none⟩)∧((0 : Int)≤n5∧(n5 : Int) < (l1 : Nat)) ∧
 (∃ b o,A1 = some ⟨b,o,none⟩)∧((0 : Int)≤n5∧(n5 : Int) < (l1 : Nat)) ∧
 ∃ cs22,Seg 3 cs22∧Sy.ReadAt k14.cell? A1 (Int.toNat n5*8+5) 3 (agg cs22) ∧
 (cs22.toList ++ ([]) : List Value).length = Int.toNat 1*3∧(0 : Int)≤1∧Sy.sizeOk 56 (l11+Int.toNat 1)∧∀ (A23 : Option Addr) (l23 c23 : Nat) (cs24 : Array Value),l23 = l11+Int.toNat 1→cs24 = cs12 ++ (cs22.toList ++ ([]) : List Value).toArray→l23≤c23 →
 ∀ k15,Up k14 k15→∃ m,m < m9∧I9 m k15 [int .i64 (IntKind.wrap .i64 (n10+1)),tuple #[slice A23 l23 c23,agg cs24],tuple #[slice A20 l20 c20,agg cs21]]))))) ∧
 ((decide ((n10 : Int) < n15)) = false →
 (∀ k16,Up k9 k16→∃ m,m < m8∧I8 m k16 [int .i64 (IntKind.wrap .i64 (n5+1)),tuple #[slice A11 l11 c11,agg cs12],tuple #[slice A13 l13 c13,agg cs14]])))) ∧
 ((decide ((n5 : Int) < (l1 : Nat))) = false →
 ((decide ((0 : Int)≤0∧(0 : Int) < (l8 : Nat))) = true ∧
 ((decide ((0 : Int)≤0∧(0 : Int) < (l8 : Nat))) = true ∧
 (((0 : Int)≤0∧(0 : Int) < (l8 : Nat))∧∀ cs10 : Array Value,cs10 = Sy.over cs9 (Int.toNat 0*10+4) (cs2.toList ++ ([])) →
 true = true∧((decide ((0 : Int)≤(IntKind.wrap .i64 ((l8 : Nat) - 1))∧((IntKind.wrap .i64 ((l8 : Nat) - 1)) : Int) < (l8 : Nat))) = true ∧
 ((decide ((0 : Int)≤(IntKind.wrap .i64 ((l8 : Nat) - 1))∧((IntKind.wrap .i64 ((l8 : Nat) - 1)) : Int) < (l8 : Nat))) = true ∧
 (((0 : Int)≤(IntKind.wrap .i64 ((l8 : Nat) - 1))∧((IntKind.wrap .i64 ((l8 : Nat) - 1)) : Int) < (l8 : Nat))∧∀ cs11 : Array Value,cs11 = Sy.over cs10 (Int.toNat (IntKind.wrap .i64 ((l8 : Nat) - 1))*10+7) (cs3.toList ++ ([])) →
 ∃ I17 : Nat→World→List Value→Prop,(∃ m17,∀ k17,Up k8 k17→I17 m17 k17 [int .i64 1,tuple #[slice none 0 0,agg #[]]]) ∧
 ∀ m17 k17 vs17,Up k8 k17→I17 m17 k17 vs17→∃ n12,∃ A13 l13 c13,∃ cs14,Sy.RowC cs14∧some [int .i64 n12,tuple #[slice A13 l13 c13,agg cs14]] = some vs17 ∧
 true = true∧(((decide ((n12 : Int) < (l8 : Nat))) = true →
 ((decide ((0 : Int)≤(IntKind.wrap .i64 (n12 - 1))∧((IntKind.wrap .i64 (n12 - 1)) : Int) < (l6 : Nat))) = true ∧
 (∃ cs15,Seg 3 cs15∧Sy.ReadIn cs7 (Int.toNat (IntKind.wrap .i64 (n12 - 1))*3+0) 3 (agg cs15) ∧
 (decide ((0 : Int)≤n12∧(n12 : Int) < (l6 : Nat))) = true ∧
 (∃ cs16,Seg 3 cs16∧Sy.ReadIn cs7 (Int.toNat n12*3+0) 3 (agg cs16) ∧
 Cl k17 81 #[agg cs15,agg cs16] fun k19 r18=>Gt 3 r18 fun cs17 =>
 Cl k19 80 #[agg cs15,agg cs16] fun k21 r20=>Gt 3 r20 fun cs18 =>
 Cl k21 94 #[agg cs17,agg cs18] fun k23 r22=>Gt 3 r22 fun cs19 =>
 ((int .i64 (IntKind.wrap .i64 (n12 - 1))) :: ((int .i64 n12) :: (cs19.toList ++ ([]))) : List Value).length = Int.toNat 1*5∧(0 : Int)≤1∧Sy.sizeOk 72 (l13+Int.toNat 1)∧∀ (A20 : Option Addr) (l20 c20 : Nat) (cs21 : Array Value),l20 = l13+Int.toNat 1→cs21 = cs14 ++ ((int .i64 (IntKind.wrap .i64 (n12 - 1))) :: ((int .i64 n12) :: (cs19.toList ++ ([]))) : List Value).toArray→l20≤c20 →
 ∀ k24,Up k23 k24→∃ m,m < m17∧I17 m k24 [int .i64 (IntKind.wrap .i64 (n12+1)),tuple #[slice A20 l20 c20,agg cs21]])))) ∧
 ((decide ((n12 : Int) < (l8 : Nat))) = false →
 (∀ k25,Up k17 k25→Sy.RowAt k25 A8 cs11 →
 ∀ k26,Up k25 k26→Sy.RowAt k26 A13 cs14 →
 Cl k26 30 #[agg #[slice A0 l0 c0,slice A8 l8 c8,slice A13 l13 c13]] fun k28 r27=>∃ n15,some (int .i64 n15) = some r27 ∧
 (((n15 : Int) != 0) = true →
 (∀ k29,Up k28 k29→R k29 (tuple #[agg #[slice none 0 0,slice none 0 0,slice none 0 0],int .i64 n15]))) ∧
 (((n15 : Int) != 0) = false →
 (∀ k30,Up k28 k30→R k30 (tuple #[agg #[slice A0 l0 c0,slice A8 l8 c8,slice A13 l13 c13],int .i64 0])))))))))))))))))))))))) :
   CallsG Tryz.prog 45 #[slice A0 l0 c0,slice A1 l1 c1,agg cs2,agg cs3] k R :=
  aA (cfg:={ opq:=[89],loops:=[(0,[.tmp 10 false [.int .i64]]),(2,[.tmp 13 false [.int .i64],.rw 12 89 3,.rb 3 1 138 10]),(4,[.tmp 14 false [.int .i64],.rw 12 89 3,.rb 3 1 138 10]),(6,[.tmp 15 false [.int .i64],.rb 3 2 142 5])] }) (args:=[.one (.var 0),.one (.var 1),.agg [.seg 2 3],.agg [.seg 3 3]]) (vals:=[slice A0 l0 c0,slice A1 l1 c1,agg cs2,agg cs3]) (kinds:=[.slice,.slice,.seg 3,.seg 3]) (by kernel_rfl) ⟨⟨_,_,_,rfl⟩,⟨⟨_,_,_,rfl⟩,⟨⟨cs2,rfl,hcs2⟩,⟨⟨cs3,rfl,hcs3⟩,trivial⟩⟩⟩⟩ (by kernel_rfl) (by kernel_rfl) h
theorem aEd {A0 : Option Addr} {l0 c0 : Nat} {A1 : Option Addr} {l1 c1 : Nat} {n2 n3 n4 n5 : Int}
 (h : Cl k 9 #[agg #[slice A0 l0 c0,slice none 0 0,slice none 0 0],int .i64 1] fun k1 r0=>∃ b6,some (bool b6) = some r0 ∧
 ((!b6) = true →
 (Cl k1 11 #[] fun k3 r2=>∃ b7,some (bool b7) = some r2 ∧
 ∀ k4,Up k3 k4→R k4 (bool b7))) ∧
 ((!b6) = false →
 (true = true∧(((decide (((l1 : Nat) : Int) > 30)) = true →
 (Cl k1 11 #[] fun k6 r5=>∃ b7,some (bool b7) = some r5 ∧
 ∀ k7,Up k6 k7→R k7 (bool b7))) ∧
 ((decide (((l1 : Nat) : Int) > 30)) = false →
 (Cl k1 43 #[slice A0 l0 c0] fun k9 r8=>∃ A7 l7 c7,∃ A8 l8 c8,some (tuple #[slice A7 l7 c7,slice A8 l8 c8]) = some r8 ∧
 true = true∧(∃ I10 : Nat→World→List Value→Prop,(∃ m10,∀ k10,Up k9 k10→I10 m10 k10 [int .i64 0,tuple #[slice none 0 0,agg #[]],tuple #[slice none 0 0,agg #[]]]) ∧
 ∀ m10 k10 vs10,Up k9 k10→I10 m10 k10 vs10→∃ n9,∃ A10 l10 c10,∃ cs11,Sy.RowC cs11∧∃ A12 l12 c12,∃ cs13,Sy.RowC cs13∧some [int .i64 n9,tuple #[slice A10 l10 c10,agg cs11],tuple #[slice A12 l12 c12,agg cs13]] = some vs10 ∧
 ((decide ((n9 : Int) < (l1 : Nat))) = true →
 ((∃ b o,A1 = some ⟨b,o,none⟩)∧((0 : Int)≤n9∧(n9 : Int) < (l1 : Nat)) ∧
 ∃ n14,∃ n15,∃ n16,∃ n17,∃ n18,∃ n19,Sy.ReadAt k10.cell? A1 (Int.toNat n9*6+0) 6 (agg #[int .i64 n14,int .i64 n15,int .i64 n16,int .i64 n17,int .i64 n18,int .i64 n19]) ∧
 Cl k10 19 #[agg #[int .i64 n16,int .i64 n17]] fun k12 r11=>Gt 3 r11 fun cs20 =>
 Cl k12 19 #[agg #[int .i64 n18,int .i64 n19]] fun k14 r13=>Gt 3 r13 fun cs21 =>
 ((int .i64 n14) :: ((int .i64 n15) :: (cs20.toList ++ (cs21.toList ++ ([])))) : List Value).length = Int.toNat 1*8∧(0 : Int)≤1∧Sy.sizeOk 128 (l10+Int.toNat 1)∧∀ (A22 : Option Addr) (l22 c22 : Nat) (cs23 : Array Value),l22 = l10+Int.toNat 1→cs23 = cs11 ++ ((int .i64 n14) :: ((int .i64 n15) :: (cs20.toList ++ (cs21.toList ++ ([])))) : List Value).toArray→l22≤c22 →
 Cl k14 28 #[agg #[int .i64 n16,int .i64 n17]] fun k16 r15=>Gt 3 r15 fun cs24 =>
 Cl k16 28 #[agg #[int .i64 n18,int .i64 n19]] fun k18 r17=>Gt 3 r17 fun cs25 =>
 ((int .i64 n14) :: ((int .i64 n15) :: (cs24.toList ++ (cs25.toList ++ ([])))) : List Value).length = Int.toNat 1*8∧(0 : Int)≤1∧Sy.sizeOk 128 (l12+Int.toNat 1)∧∀ (A26 : Option Addr) (l26 c26 : Nat) (cs27 : Array Value),l26 = l12+Int.toNat 1→cs27 = cs13 ++ ((int .i64 n14) :: ((int .i64 n15) :: (cs24.toList ++ (cs25.toList ++ ([])))) : List Value).toArray→l26≤c26 →
 ∀ k19,Up k18 k19→∃ m,m < m10∧I10 m k19 [int .i64 (IntKind.wrap .i64 (n9+1)),tuple #[slice A22 l22 c22,agg cs23],tuple #[slice A26 l26 c26,agg cs27]])) ∧
 ((decide ((n9 : Int) < (l1 : Nat))) = false →
 (∀ k20,Up k10 k20→Sy.RowAt k20 A10 cs11 →
 Cl k20 19 #[agg #[int .i64 n2,int .i64 n3]] fun k22 r21=>Gt 3 r21 fun cs14 =>
 Cl k22 19 #[agg #[int .i64 n4,int .i64 n5]] fun k24 r23=>Gt 3 r23 fun cs15 =>
 Cl k24 44 #[slice A7 l7 c7,slice A10 l10 c10,agg cs14,agg cs15] fun k26 r25=>∃ A16 l16 c16,∃ A17 l17 c17,∃ A18 l18 c18,∃ n19,some (tuple #[agg #[slice A16 l16 c16,slice A17 l17 c17,slice A18 l18 c18],int .i64 n19]) = some r25 ∧
 ∀ k27,Up k26 k27→Sy.RowAt k27 A12 cs13 →
 Cl k27 28 #[agg #[int .i64 n2,int .i64 n3]] fun k29 r28=>Gt 3 r28 fun cs20 =>
 Cl k29 28 #[agg #[int .i64 n4,int .i64 n5]] fun k31 r30=>Gt 3 r30 fun cs21 =>
 Cl k31 45 #[slice A8 l8 c8,slice A12 l12 c12,agg cs20,agg cs21] fun k33 r32=>∃ A22 l22 c22,∃ A23 l23 c23,∃ A24 l24 c24,∃ n25,some (tuple #[agg #[slice A22 l22 c22,slice A23 l23 c23,slice A24 l24 c24],int .i64 n25]) = some r32 ∧
 (((n19 : Int) == n25) = true →
 (Cl k33 46 #[agg #[slice A16 l16 c16,slice A17 l17 c17,slice A18 l18 c18],agg #[slice A22 l22 c22,slice A23 l23 c23,slice A24 l24 c24]] fun k35 r34=>∃ b26,some (bool b26) = some r34 ∧
 (b26 = true →
 (Cl k35 11 #[] fun k37 r36=>∃ b27,some (bool b27) = some r36 ∧
 ∀ k38,Up k37 k38→R k38 (bool b27))) ∧
 (b26 = false →
 (∀ k39,Up k35 k39→R k39 (bool false))))) ∧
 (((n19 : Int) == n25) = false →
 (∀ k40,Up k33 k40→R k40 (bool false)))))))))))) :
   CallsG Tryz.prog 8 #[slice A0 l0 c0,slice A1 l1 c1,agg #[int .i64 n2,int .i64 n3],agg #[int .i64 n4,int .i64 n5]] k R :=
  aA (cfg:={ opq:=[71,89],loops:=[(0,[.tmp 36 false [.int .i64],.rw 11 118 8,.rw 12 120 8])] }) (args:=[.one (.var 0),.one (.var 1),.agg [.var 2,.var 3],.agg [.var 4,.var 5]]) (vals:=[slice A0 l0 c0,slice A1 l1 c1,int .i64 n2,int .i64 n3,int .i64 n4,int .i64 n5]) (kinds:=[.slice,.slice,.int .i64,.int .i64,.int .i64,.int .i64]) (by kernel_rfl) ⟨⟨_,_,_,rfl⟩,⟨⟨_,_,_,rfl⟩,⟨⟨_,rfl⟩,⟨⟨_,rfl⟩,⟨⟨_,rfl⟩,⟨⟨_,rfl⟩,trivial⟩⟩⟩⟩⟩⟩ (by kernel_rfl) (by kernel_rfl) h
theorem aGo {A0 : Option Addr} {l0 c0 : Nat} {A1 : Option Addr} {l1 c1 : Nat} {cs2 cs3 : Array Value} (hcs2 : Seg 3 cs2) (hcs3 : Seg 3 cs3)
 (h : true = true∧(((decide (((l1 : Nat) : Int) < 1)) = true →
 (∀ k0,Up k k0→R k0 (tuple #[agg #[slice none 0 0,slice none 0 0,slice none 0 0],int .i64 4]))) ∧
 ((decide (((l1 : Nat) : Int) < 1)) = false →
 (true = true∧(((decide (((l1 : Nat) : Int) > 24)) = true →
 (∀ k1,Up k k1→R k1 (tuple #[agg #[slice none 0 0,slice none 0 0,slice none 0 0],int .i64 4]))) ∧
 ((decide (((l1 : Nat) : Int) > 24)) = false →
 (true = true∧(∃ I2 : Nat→World→List Value→Prop,(∃ m2,∀ k2,Up k k2→I2 m2 k2 [int .i64 0]) ∧
 ∀ m2 k2 vs2,Up k k2→I2 m2 k2 vs2→∃ n4,some [int .i64 n4] = some vs2 ∧
 ((decide ((n4 : Int) < (l1 : Nat))) = true →
 ((∃ b o,A1 = some ⟨b,o,none⟩)∧((0 : Int)≤n4∧(n4 : Int) < (l1 : Nat)) ∧
 ∃ n5,∃ n6,∃ cs7,Seg 3 cs7∧∃ cs8,Seg 3 cs8∧Sy.ReadAt k2.cell? A1 (Int.toNat n4*8+0) 8 (agg ((int .i64 n5) :: ((int .i64 n6) :: (cs7.toList ++ (cs8.toList ++ ([]))))).toArray) ∧
 ((decide ((n6 : Int) < 1)) = true →
 (∀ k3,Up k2 k3→R k3 (tuple #[agg #[slice none 0 0,slice none 0 0,slice none 0 0],int .i64 1]))) ∧
 ((decide ((n6 : Int) < 1)) = false →
 (Cl k2 90 #[agg cs8] fun k5 r4=>∃ b9,some (bool b9) = some r4 ∧
 ((!b9) = true →
 (∀ k6,Up k5 k6→R k6 (tuple #[agg #[slice none 0 0,slice none 0 0,slice none 0 0],int .i64 1]))) ∧
 ((!b9) = false →
 (∀ k7,Up k5 k7→∃ m,m < m2∧I2 m k7 [int .i64 (IntKind.wrap .i64 (n4+1))])))))) ∧
 ((decide ((n4 : Int) < (l1 : Nat))) = false →
 (∀ k8,Up k2 k8→Sy.CallsR Tryz.prog 91 #[slice A0 l0 c0] k8 98 8 fun k9 r8=>∃ A5 l5 c5,∃ cs6,r8 = tuple #[slice A5 l5 c5,agg cs6] ∧
 true = true∧(∃ I10 : Nat→World→List Value→Prop,(∃ m10,∀ k10,Up k9 k10→I10 m10 k10 [int .i64 0,tuple #[slice none 0 0,agg #[]],tuple #[slice none 0 0,agg #[]]]) ∧
 ∀ m10 k10 vs10,Up k9 k10→I10 m10 k10 vs10→∃ n7,∃ A8 l8 c8,∃ cs9,Sy.RowC cs9∧∃ A10 l10 c10,∃ cs11,Sy.RowC cs11∧some [int .i64 n7,tuple #[slice A8 l8 c8,agg cs9],tuple #[slice A10 l10 c10,agg cs11]] = some vs10 ∧
 ((decide ((n7 : Int) < (l1 : Nat))) = true →
 ((∃ b o,A1 = some ⟨b,o,none⟩)∧((0 : Int)≤n7∧(n7 : Int) < (l1 : Nat)) ∧
 ∃ n12,∃ n13,∃ cs14,Seg 3 cs14∧∃ cs15,Seg 3 cs15∧Sy.ReadAt k10.cell? A1 (Int.toNat n7*8+0) 8 (agg ((int .i64 n12) :: ((int .i64 n13) :: (cs14.toList ++ (cs15.toList ++ ([]))))).toArray) ∧
 true = true∧(((decide ((n13 : Int) > (IntKind.wrap .i64 (24 - (l10 : Nat))))) = true →
 (∀ k11,Up k10 k11→R k11 (tuple #[agg #[slice none 0 0,slice none 0 0,slice none 0 0],int .i64 4]))) ∧
 ((decide ((n13 : Int) > (IntKind.wrap .i64 (24 - (l10 : Nat))))) = false →
 (∃ I12 : Nat→World→List Value→Prop,(∃ m12,∀ k12,Up k10 k12→I12 m12 k12 [int .i64 0,tuple #[slice A8 l8 c8,agg cs9],tuple #[slice A10 l10 c10,agg cs11]]) ∧
 ∀ m12 k12 vs12,Up k10 k12→I12 m12 k12 vs12→∃ n16,∃ A17 l17 c17,∃ cs18,Sy.RowC cs18∧∃ A19 l19 c19,∃ cs20,Sy.RowC cs20∧some [int .i64 n16,tuple #[slice A17 l17 c17,agg cs18],tuple #[slice A19 l19 c19,agg cs20]] = some vs12 ∧
 ((decide ((n16 : Int) < n13)) = true →
 (((int .i64 n12) :: (cs14.toList ++ ((bool false) :: ((slice none 0 0) :: ((slice none 0 0) :: ((bool false) :: ((slice none 0 0) :: ((slice none 0 0) :: ([])))))))) : List Value).length = Int.toNat 1*10∧(0 : Int)≤1∧Sy.sizeOk 176 (l19+Int.toNat 1)∧∀ (A21 : Option Addr) (l21 c21 : Nat) (cs22 : Array Value),l21 = l19+Int.toNat 1→cs22 = cs20 ++ ((int .i64 n12) :: (cs14.toList ++ ((bool false) :: ((slice none 0 0) :: ((slice none 0 0) :: ((bool false) :: ((slice none 0 0) :: ((slice none 0 0) :: ([])))))))) : List Value).toArray→l21≤c21 →
 (cs15.toList ++ ([]) : List Value).length = Int.toNat 1*3∧(0 : Int)≤1∧Sy.sizeOk 56 (l17+Int.toNat 1)∧∀ (A23 : Option Addr) (l23 c23 : Nat) (cs24 : Array Value),l23 = l17+Int.toNat 1→cs24 = cs18 ++ (cs15.toList ++ ([]) : List Value).toArray→l23≤c23 →
 ∀ k13,Up k12 k13→∃ m,m < m12∧I12 m k13 [int .i64 (IntKind.wrap .i64 (n16+1)),tuple #[slice A23 l23 c23,agg cs24],tuple #[slice A21 l21 c21,agg cs22]])) ∧
 ((decide ((n16 : Int) < n13)) = false →
 (∀ k14,Up k12 k14→∃ m,m < m10∧I10 m k14 [int .i64 (IntKind.wrap .i64 (n7+1)),tuple #[slice A17 l17 c17,agg cs18],tuple #[slice A19 l19 c19,agg cs20]]))))))) ∧
 ((decide ((n7 : Int) < (l1 : Nat))) = false →
 (true = true∧((decide ((0 : Int)≤0∧(0 : Int) < (l10 : Nat))) = true ∧
 ((decide ((0 : Int)≤0∧(0 : Int) < (l10 : Nat))) = true ∧
 (((0 : Int)≤0∧(0 : Int) < (l10 : Nat))∧∀ cs12 : Array Value,cs12 = Sy.over cs11 (Int.toNat 0*10+4) (cs2.toList ++ ([])) →
 (decide ((0 : Int)≤(IntKind.wrap .i64 ((l10 : Nat) - 1))∧((IntKind.wrap .i64 ((l10 : Nat) - 1)) : Int) < (l10 : Nat))) = true ∧
 ((decide ((0 : Int)≤(IntKind.wrap .i64 ((l10 : Nat) - 1))∧((IntKind.wrap .i64 ((l10 : Nat) - 1)) : Int) < (l10 : Nat))) = true ∧
 (((0 : Int)≤(IntKind.wrap .i64 ((l10 : Nat) - 1))∧((IntKind.wrap .i64 ((l10 : Nat) - 1)) : Int) < (l10 : Nat))∧∀ cs13 : Array Value,cs13 = Sy.over cs12 (Int.toNat (IntKind.wrap .i64 ((l10 : Nat) - 1))*10+7) (cs3.toList ++ ([])) →
 ∃ I15 : Nat→World→List Value→Prop,(∃ m15,∀ k15,Up k10 k15→I15 m15 k15 [int .i64 1,tuple #[slice none 0 0,agg #[]]]) ∧
 ∀ m15 k15 vs15,Up k10 k15→I15 m15 k15 vs15→∃ n14,∃ A15 l15 c15,∃ cs16,Sy.RowC cs16∧some [int .i64 n14,tuple #[slice A15 l15 c15,agg cs16]] = some vs15 ∧
 ((decide ((n14 : Int)≤(IntKind.wrap .i64 ((l10 : Nat) - 1)))) = true →
 ((decide ((0 : Int)≤(IntKind.wrap .i64 (n14 - 1))∧((IntKind.wrap .i64 (n14 - 1)) : Int) < (l8 : Nat))) = true ∧
 (∃ cs17,Seg 3 cs17∧Sy.ReadIn cs9 (Int.toNat (IntKind.wrap .i64 (n14 - 1))*3+0) 3 (agg cs17) ∧
 (decide ((0 : Int)≤n14∧(n14 : Int) < (l8 : Nat))) = true ∧
 (∃ cs18,Seg 3 cs18∧Sy.ReadIn cs9 (Int.toNat n14*3+0) 3 (agg cs18) ∧
 Cl k15 40 #[agg cs17,agg cs18] fun k17 r16=>Gt 3 r16 fun cs19 =>
 Cl k17 39 #[agg cs17,agg cs18] fun k19 r18=>Gt 3 r18 fun cs20 =>
 Cl k19 92 #[agg cs19,agg cs20] fun k21 r20=>Gt 3 r20 fun cs21 =>
 ((int .i64 (IntKind.wrap .i64 (n14 - 1))) :: ((int .i64 n14) :: (cs21.toList ++ ([]))) : List Value).length = Int.toNat 1*5∧(0 : Int)≤1∧Sy.sizeOk 72 (l15+Int.toNat 1)∧∀ (A22 : Option Addr) (l22 c22 : Nat) (cs23 : Array Value),l22 = l15+Int.toNat 1→cs23 = cs16 ++ ((int .i64 (IntKind.wrap .i64 (n14 - 1))) :: ((int .i64 n14) :: (cs21.toList ++ ([]))) : List Value).toArray→l22≤c22 →
 ∀ k22,Up k21 k22→∃ m,m < m15∧I15 m k22 [int .i64 (IntKind.wrap .i64 (n14+1)),tuple #[slice A22 l22 c22,agg cs23]])))) ∧
 ((decide ((n14 : Int)≤(IntKind.wrap .i64 ((l10 : Nat) - 1)))) = false →
 (true = true∧(∃ I23 : Nat→World→List Value→Prop,(∃ m23,∀ k23,Up k15 k23→I23 m23 k23 [int .i64 0,tuple #[slice A5 l5 c5,agg cs6]]) ∧
 ∀ m23 k23 vs23,Up k15 k23→I23 m23 k23 vs23→∃ n17,∃ A18 l18 c18,∃ cs19,Sy.RowC cs19∧some [int .i64 n17,tuple #[slice A18 l18 c18,agg cs19]] = some vs23 ∧
 ((decide ((n17 : Int) < (l5 : Nat))) = true →
 ((decide ((0 : Int)≤n17∧(n17 : Int) < (l18 : Nat))) = true ∧
 ((decide ((0 : Int)≤n17∧(n17 : Int) < (l18 : Nat))) = true ∧
 (∃ A20 l20 c20,Sy.ReadIn cs19 (Int.toNat n17*8+0) 1 (slice A20 l20 c20) ∧
 Cl k23 93 #[slice A20 l20 c20] fun k25 r24=>∃ A21 l21 c21,some (slice A21 l21 c21) = some r24 ∧
 (decide ((0 : Int)≤n17∧(n17 : Int) < (l18 : Nat))) = true ∧
 ((decide ((0 : Int)≤n17∧(n17 : Int) < (l18 : Nat))) = true ∧
 (((0 : Int)≤n17∧(n17 : Int) < (l18 : Nat))∧∀ cs22 : Array Value,cs22 = Sy.over cs19 (Int.toNat n17*8+0) ([slice A21 l21 c21]) →
 (decide ((0 : Int)≤n17∧(n17 : Int) < (l18 : Nat))) = true ∧
 ((decide ((0 : Int)≤n17∧(n17 : Int) < (l18 : Nat))) = true ∧
 (∃ A23 l23 c23,Sy.ReadIn cs22 (Int.toNat n17*8+1) 1 (slice A23 l23 c23) ∧
 Cl k25 93 #[slice A23 l23 c23] fun k27 r26=>∃ A24 l24 c24,some (slice A24 l24 c24) = some r26 ∧
 (decide ((0 : Int)≤n17∧(n17 : Int) < (l18 : Nat))) = true ∧
 ((decide ((0 : Int)≤n17∧(n17 : Int) < (l18 : Nat))) = true ∧
 (((0 : Int)≤n17∧(n17 : Int) < (l18 : Nat))∧∀ cs25 : Array Value,cs25 = Sy.over cs22 (Int.toNat n17*8+1) ([slice A24 l24 c24]) →
 ∀ k28,Up k27 k28→∃ m,m < m23∧I23 m k28 [int .i64 (IntKind.wrap .i64 (n17+1)),tuple #[slice A18 l18 c18,agg cs25]])))))))))) ∧
 ((decide ((n17 : Int) < (l5 : Nat))) = false →
 (∀ k29,Up k23 k29→Sy.RowAt k29 A18 cs19 →
 ∀ k30,Up k29 k30→Sy.RowAt k30 A10 cs13 →
 ∀ k31,Up k30 k31→Sy.RowAt k31 A15 cs16 →
 Cl k31 29 #[agg #[slice A18 l18 c18,slice A10 l10 c10,slice A15 l15 c15]] fun k33 r32=>∃ n20,some (int .i64 n20) = some r32 ∧
 (((n20 : Int) != 0) = true →
 (∀ k34,Up k33 k34→R k34 (tuple #[agg #[slice none 0 0,slice none 0 0,slice none 0 0],int .i64 n20]))) ∧
 (((n20 : Int) != 0) = false →
 (∀ k35,Up k33 k35→R k35 (tuple #[agg #[slice A18 l18 c18,slice A10 l10 c10,slice A15 l15 c15],int .i64 0])))))))))))))))))))))))))) :
   CallsG Tryz.prog 44 #[slice A0 l0 c0,slice A1 l1 c1,agg cs2,agg cs3] k R :=
  aA (cfg:={ opq:=[71],loops:=[(0,[.tmp 33 false [.int .i64]]),(2,[.tmp 53 false [.int .i64],.rw 13 71 3,.rb 3 1 78 10]),(4,[.tmp 67 false [.int .i64],.rw 13 71 3,.rb 3 1 78 10]),(6,[.tmp 17 false [.int .i64],.rb 3 2 133 5]),(8,[.tmp 134 false [.int .i64],.rb 3 0 98 8])],adopt:=[91,93] }) (args:=[.one (.var 0),.one (.var 1),.agg [.seg 2 3],.agg [.seg 3 3]]) (vals:=[slice A0 l0 c0,slice A1 l1 c1,agg cs2,agg cs3]) (kinds:=[.slice,.slice,.seg 3,.seg 3]) (by kernel_rfl) ⟨⟨_,_,_,rfl⟩,⟨⟨_,_,_,rfl⟩,⟨⟨cs2,rfl,hcs2⟩,⟨⟨cs3,rfl,hcs3⟩,trivial⟩⟩⟩⟩ (by kernel_rfl) (by kernel_rfl) h
end Go.Proofs.YtampehijkiencaaGreat

namespace Go.Proofs.YtampehijkiencaaGreat
open Go.RowKit
open Value (agg slice int bool tuple)
open Sy (Up Sees CallsG Seg aA)
set_option maxRecDepth 100000
variable {k : World} {R : World→Value→Prop}
theorem aDs {A0 : Option Addr} {l0 c0 : Nat}
 (h : true = true∧(((((l0 : Nat) : Int) == 0) = true →
 (∀ k0,Up k k0→R k0 (int .i64 4))) ∧
 ((((l0 : Nat) : Int) == 0) = false →
 (true = true∧(((decide (((l0 : Nat) : Int) > 16)) = true →
 (∀ k1,Up k k1→R k1 (int .i64 4))) ∧
 ((decide (((l0 : Nat) : Int) > 16)) = false →
 (∃ I2 : Nat→World→List Value→Prop,(∃ m2,∀ k2,Up k k2→I2 m2 k2 [int .i64 0]) ∧
 ∀ m2 k2 vs2,Up k k2→I2 m2 k2 vs2→∃ n1,some [int .i64 n1] = some vs2 ∧
 true = true∧(((decide ((n1 : Int) < (l0 : Nat))) = true →
 (((decide ((n1 : Int) > 0)) = true →
 ((∃ b o,A0 = some ⟨b,o,none⟩)∧((0 : Int)≤n1∧(n1 : Int) < (l0 : Nat)) ∧
 (∃ b o,A0 = some ⟨b,o,none⟩)∧((0 : Int)≤n1∧(n1 : Int) < (l0 : Nat)) ∧
 ∃ cs2,Seg 3 cs2∧Sy.ReadAt k2.cell? A0 (Int.toNat n1*6+0) 3 (agg cs2) ∧
 (∃ b o,A0 = some ⟨b,o,none⟩)∧((0 : Int)≤(IntKind.wrap .i64 (n1 - 1))∧((IntKind.wrap .i64 (n1 - 1)) : Int) < (l0 : Nat)) ∧
 (∃ b o,A0 = some ⟨b,o,none⟩)∧((0 : Int)≤(IntKind.wrap .i64 (n1 - 1))∧((IntKind.wrap .i64 (n1 - 1)) : Int) < (l0 : Nat)) ∧
 ∃ cs3,Seg 3 cs3∧Sy.ReadAt k2.cell? A0 (Int.toNat (IntKind.wrap .i64 (n1 - 1))*6+0) 3 (agg cs3) ∧
 Cl k2 72 #[agg cs2,agg cs3] fun k4 r3=>∃ n4,some (int .i64 n4) = some r3 ∧
 ((decide ((n4 : Int)≤0)) = true →
 (∀ k5,Up k4 k5→R k5 (int .i64 7))) ∧
 ((decide ((n4 : Int)≤0)) = false →
 ((∃ b o,A0 = some ⟨b,o,none⟩)∧((0 : Int)≤n1∧(n1 : Int) < (l0 : Nat)) ∧
 (∃ b o,A0 = some ⟨b,o,none⟩)∧((0 : Int)≤n1∧(n1 : Int) < (l0 : Nat)) ∧
 ∃ cs5,Seg 3 cs5∧Sy.ReadAt k4.cell? A0 (Int.toNat n1*6+3) 3 (agg cs5) ∧
 Cl k4 70 #[agg cs5] fun k7 r6=>∃ n6,some (int .i64 n6) = some r6 ∧
 ((decide ((n6 : Int) < 0)) = true →
 (∀ k8,Up k7 k8→R k8 (int .i64 1))) ∧
 ((decide ((n6 : Int) < 0)) = false →
 (((decide ((n1 : Int) > 0)) = true →
 ((∃ b o,A0 = some ⟨b,o,none⟩)∧((0 : Int)≤n1∧(n1 : Int) < (l0 : Nat)) ∧
 (∃ b o,A0 = some ⟨b,o,none⟩)∧((0 : Int)≤n1∧(n1 : Int) < (l0 : Nat)) ∧
 ∃ cs7,Seg 3 cs7∧Sy.ReadAt k7.cell? A0 (Int.toNat n1*6+3) 3 (agg cs7) ∧
 (∃ b o,A0 = some ⟨b,o,none⟩)∧((0 : Int)≤(IntKind.wrap .i64 (n1 - 1))∧((IntKind.wrap .i64 (n1 - 1)) : Int) < (l0 : Nat)) ∧
 (∃ b o,A0 = some ⟨b,o,none⟩)∧((0 : Int)≤(IntKind.wrap .i64 (n1 - 1))∧((IntKind.wrap .i64 (n1 - 1)) : Int) < (l0 : Nat)) ∧
 ∃ cs8,Seg 3 cs8∧Sy.ReadAt k7.cell? A0 (Int.toNat (IntKind.wrap .i64 (n1 - 1))*6+3) 3 (agg cs8) ∧
 Cl k7 72 #[agg cs7,agg cs8] fun k10 r9=>∃ n9,some (int .i64 n9) = some r9 ∧
 ((decide ((n9 : Int) < 0)) = true →
 (∀ k11,Up k10 k11→R k11 (int .i64 7))) ∧
 ((decide ((n9 : Int) < 0)) = false →
 (∀ k12,Up k10 k12→∃ m,m < m2∧I2 m k12 [int .i64 (IntKind.wrap .i64 (n1+1))])))) ∧
 ((decide ((n1 : Int) > 0)) = false →
 (∀ k13,Up k7 k13→∃ m,m < m2∧I2 m k13 [int .i64 (IntKind.wrap .i64 (n1+1))])))))))) ∧
 ((decide ((n1 : Int) > 0)) = false →
 ((∃ b o,A0 = some ⟨b,o,none⟩)∧((0 : Int)≤n1∧(n1 : Int) < (l0 : Nat)) ∧
 (∃ b o,A0 = some ⟨b,o,none⟩)∧((0 : Int)≤n1∧(n1 : Int) < (l0 : Nat)) ∧
 ∃ cs2,Seg 3 cs2∧Sy.ReadAt k2.cell? A0 (Int.toNat n1*6+3) 3 (agg cs2) ∧
 Cl k2 70 #[agg cs2] fun k15 r14=>∃ n3,some (int .i64 n3) = some r14 ∧
 ((decide ((n3 : Int) < 0)) = true →
 (∀ k16,Up k15 k16→R k16 (int .i64 1))) ∧
 ((decide ((n3 : Int) < 0)) = false →
 (((decide ((n1 : Int) > 0)) = true →
 ((∃ b o,A0 = some ⟨b,o,none⟩)∧((0 : Int)≤n1∧(n1 : Int) < (l0 : Nat)) ∧
 (∃ b o,A0 = some ⟨b,o,none⟩)∧((0 : Int)≤n1∧(n1 : Int) < (l0 : Nat)) ∧
 ∃ cs4,Seg 3 cs4∧Sy.ReadAt k15.cell? A0 (Int.toNat n1*6+3) 3 (agg cs4) ∧
 (∃ b o,A0 = some ⟨b,o,none⟩)∧((0 : Int)≤(IntKind.wrap .i64 (n1 - 1))∧((IntKind.wrap .i64 (n1 - 1)) : Int) < (l0 : Nat)) ∧
 (∃ b o,A0 = some ⟨b,o,none⟩)∧((0 : Int)≤(IntKind.wrap .i64 (n1 - 1))∧((IntKind.wrap .i64 (n1 - 1)) : Int) < (l0 : Nat)) ∧
 ∃ cs5,Seg 3 cs5∧Sy.ReadAt k15.cell? A0 (Int.toNat (IntKind.wrap .i64 (n1 - 1))*6+3) 3 (agg cs5) ∧
 Cl k15 72 #[agg cs4,agg cs5] fun k18 r17=>∃ n6,some (int .i64 n6) = some r17 ∧
 ((decide ((n6 : Int) < 0)) = true →
 (∀ k19,Up k18 k19→R k19 (int .i64 7))) ∧
 ((decide ((n6 : Int) < 0)) = false →
 (∀ k20,Up k18 k20→∃ m,m < m2∧I2 m k20 [int .i64 (IntKind.wrap .i64 (n1+1))])))) ∧
 ((decide ((n1 : Int) > 0)) = false →
 (∀ k21,Up k15 k21→∃ m,m < m2∧I2 m k21 [int .i64 (IntKind.wrap .i64 (n1+1))])))))))) ∧
 ((decide ((n1 : Int) < (l0 : Nat))) = false →
 (∀ k22,Up k2 k22→R k22 (int .i64 0))))))))))) :
   CallsG Tryz.prog 61 #[slice A0 l0 c0] k R :=
  aA (cfg:={ opq:=[89],loops:=[(0,[.tmp 3 false [.int .i64]])] }) (args:=[.one (.var 0)]) (vals:=[slice A0 l0 c0]) (kinds:=[.slice]) (by kernel_rfl) ⟨⟨_,_,_,rfl⟩,trivial⟩ (by kernel_rfl) (by kernel_rfl) h
theorem aAa {n0 n1 : Int}
 (h : ((decide ((n0 : Int) ≥ 0)) = true →
 (∀ k0,Up k k0→R k0 (bool (decide ((n0 : Int) < n1))))) ∧
 ((decide ((n0 : Int) ≥ 0)) = false →
 (∀ k1,Up k k1→R k1 (bool false)))) :
   CallsG Tryz.prog 71 #[int .i64 n0,int .i64 n1] k R :=
  aA (cfg:={ opq:=[89] }) (args:=[.one (.var 0),.one (.var 1)]) (vals:=[int .i64 n0,int .i64 n1]) (kinds:=[.int .i64,.int .i64]) (by kernel_rfl) ⟨⟨_,rfl⟩,⟨⟨_,rfl⟩,trivial⟩⟩ (by kernel_rfl) (by kernel_rfl) h
theorem aCf {A0 : Option Addr} {l0 c0 : Nat} {A1 : Option Addr} {l1 c1 : Nat} {A2 : Option Addr} {l2 c2 : Nat} {n3 : Int}
 (h : (∃ b o,A1 = some ⟨b,o,none⟩)∧((0 : Int)≤n3∧(n3 : Int) < (l1 : Nat)) ∧
 (∃ b o,A1 = some ⟨b,o,none⟩)∧((0 : Int)≤n3∧(n3 : Int) < (l1 : Nat)) ∧
 ∃ cs4,Seg 3 cs4∧Sy.ReadAt k.cell? A1 (Int.toNat n3*10+4) 3 (agg cs4) ∧
 (∃ b o,A1 = some ⟨b,o,none⟩)∧((0 : Int)≤n3∧(n3 : Int) < (l1 : Nat)) ∧
 (∃ b o,A1 = some ⟨b,o,none⟩)∧((0 : Int)≤n3∧(n3 : Int) < (l1 : Nat)) ∧
 ∃ cs5,Seg 3 cs5∧Sy.ReadAt k.cell? A1 (Int.toNat n3*10+7) 3 (agg cs5) ∧
 Cl k 80 #[agg cs4,agg cs5] fun k1 r0=>Gt 3 r0 fun cs6 =>
 ∃ I2 : Nat→World→List Value→Prop,(∃ m2,∀ k2,Up k1 k2→I2 m2 k2 [int .i64 0,agg cs6]) ∧
 ∀ m2 k2 vs2,Up k1 k2→I2 m2 k2 vs2→∃ n7,∃ cs8,Seg 3 cs8∧some [int .i64 n7,agg cs8] = some vs2 ∧
 true = true∧(((decide ((n7 : Int) < (l2 : Nat))) = true →
 ((∃ b o,A2 = some ⟨b,o,none⟩)∧((0 : Int)≤n7∧(n7 : Int) < (l2 : Nat)) ∧
 (∃ b o,A2 = some ⟨b,o,none⟩)∧((0 : Int)≤n7∧(n7 : Int) < (l2 : Nat)) ∧
 ∃ n9,Sy.ReadAt k2.cell? A2 (Int.toNat n7*5+0) 1 (int .i64 n9) ∧
 (((n9 : Int) == n3) = true →
 ((∃ b o,A2 = some ⟨b,o,none⟩)∧((0 : Int)≤n7∧(n7 : Int) < (l2 : Nat)) ∧
 (∃ b o,A2 = some ⟨b,o,none⟩)∧((0 : Int)≤n7∧(n7 : Int) < (l2 : Nat)) ∧
 ∃ cs10,Seg 3 cs10∧Sy.ReadAt k2.cell? A2 (Int.toNat n7*5+2) 3 (agg cs10) ∧
 Cl k2 80 #[agg cs8,agg cs10] fun k4 r3=>Gt 3 r3 fun cs11 =>
 ∀ k5,Up k4 k5→∃ m,m < m2∧I2 m k5 [int .i64 (IntKind.wrap .i64 (n7+1)),agg cs11])) ∧
 (((n9 : Int) == n3) = false →
 ((∃ b o,A2 = some ⟨b,o,none⟩)∧((0 : Int)≤n7∧(n7 : Int) < (l2 : Nat)) ∧
 (∃ b o,A2 = some ⟨b,o,none⟩)∧((0 : Int)≤n7∧(n7 : Int) < (l2 : Nat)) ∧
 ∃ n10,Sy.ReadAt k2.cell? A2 (Int.toNat n7*5+1) 1 (int .i64 n10) ∧
 (((n10 : Int) == n3) = true →
 ((∃ b o,A2 = some ⟨b,o,none⟩)∧((0 : Int)≤n7∧(n7 : Int) < (l2 : Nat)) ∧
 (∃ b o,A2 = some ⟨b,o,none⟩)∧((0 : Int)≤n7∧(n7 : Int) < (l2 : Nat)) ∧
 ∃ cs11,Seg 3 cs11∧Sy.ReadAt k2.cell? A2 (Int.toNat n7*5+2) 3 (agg cs11) ∧
 Cl k2 80 #[agg cs8,agg cs11] fun k7 r6=>Gt 3 r6 fun cs12 =>
 ∀ k8,Up k7 k8→∃ m,m < m2∧I2 m k8 [int .i64 (IntKind.wrap .i64 (n7+1)),agg cs12])) ∧
 (((n10 : Int) == n3) = false →
 (∀ k9,Up k2 k9→∃ m,m < m2∧I2 m k9 [int .i64 (IntKind.wrap .i64 (n7+1)),agg cs8])))))) ∧
 ((decide ((n7 : Int) < (l2 : Nat))) = false →
 (∀ k10,Up k2 k10→R k10 (agg cs8))))) :
   CallsG Tryz.prog 73 #[agg #[slice A0 l0 c0,slice A1 l1 c1,slice A2 l2 c2],int .i64 n3] k R :=
  aA (cfg:={ opq:=[89],loops:=[(0,[.tmp 6 false [.int .i64],.blk 2 [.seg 3]])] }) (args:=[.agg [.var 0,.var 1,.var 2],.one (.var 3)]) (vals:=[slice A0 l0 c0,slice A1 l1 c1,slice A2 l2 c2,int .i64 n3]) (kinds:=[.slice,.slice,.slice,.int .i64]) (by kernel_rfl) ⟨⟨_,_,_,rfl⟩,⟨⟨_,_,_,rfl⟩,⟨⟨_,_,_,rfl⟩,⟨⟨_,rfl⟩,trivial⟩⟩⟩⟩ (by kernel_rfl) (by kernel_rfl) h
theorem aCj {A0 : Option Addr} {l0 c0 : Nat} {A1 : Option Addr} {l1 c1 : Nat} {A2 : Option Addr} {l2 c2 : Nat}
 (h : true = true∧(((((l0 : Nat) : Int) == 0) = true →
 (∀ k0,Up k k0→R k0 (int .i64 4))) ∧
 ((((l0 : Nat) : Int) == 0) = false →
 (true = true∧(((decide (((l0 : Nat) : Int) > 8)) = true →
 (∀ k1,Up k k1→R k1 (int .i64 4))) ∧
 ((decide (((l0 : Nat) : Int) > 8)) = false →
 (true = true∧(((((l1 : Nat) : Int) == 0) = true →
 (∀ k2,Up k k2→R k2 (int .i64 4))) ∧
 ((((l1 : Nat) : Int) == 0) = false →
 (true = true∧(((decide (((l1 : Nat) : Int) > 24)) = true →
 (∀ k3,Up k k3→R k3 (int .i64 4))) ∧
 ((decide (((l1 : Nat) : Int) > 24)) = false →
 (true = true∧(((decide (((l2 : Nat) : Int) > 64)) = true →
 (∀ k4,Up k k4→R k4 (int .i64 4))) ∧
 ((decide (((l2 : Nat) : Int) > 64)) = false →
 (∃ I5 : Nat→World→List Value→Prop,(∃ m5,∀ k5,Up k k5→I5 m5 k5 [int .i64 0]) ∧
 ∀ m5 k5 vs5,Up k k5→I5 m5 k5 vs5→∃ n3,some [int .i64 n3] = some vs5 ∧
 true = true∧(((decide ((n3 : Int) < (l0 : Nat))) = true →
 ((∃ b o,A0 = some ⟨b,o,none⟩)∧((0 : Int)≤n3∧(n3 : Int) < (l0 : Nat)) ∧
 ∃ A4 l4 c4,∃ A5 l5 c5,∃ cs6,Seg 3 cs6∧∃ cs7,Seg 3 cs7∧Sy.ReadAt k5.cell? A0 (Int.toNat n3*8+0) 8 (agg ((slice A4 l4 c4) :: ((slice A5 l5 c5) :: (cs6.toList ++ (cs7.toList ++ ([]))))).toArray) ∧
 Cl k5 61 #[slice A4 l4 c4] fun k7 r6=>∃ n8,some (int .i64 n8) = some r6 ∧
 (((n8 : Int) != 0) = true →
 (∀ k8,Up k7 k8→R k8 (int .i64 n8))) ∧
 (((n8 : Int) != 0) = false →
 (Cl k7 61 #[slice A5 l5 c5] fun k10 r9=>∃ n9,some (int .i64 n9) = some r9 ∧
 (((n9 : Int) != 0) = true →
 (∀ k11,Up k10 k11→R k11 (int .i64 n9))) ∧
 (((n9 : Int) != 0) = false →
 (Cl k10 70 #[agg cs6] fun k13 r12=>∃ n10,some (int .i64 n10) = some r12 ∧
 ((decide ((n10 : Int)≤0)) = true →
 (∀ k14,Up k13 k14→R k14 (int .i64 1))) ∧
 ((decide ((n10 : Int)≤0)) = false →
 (Cl k13 70 #[agg cs7] fun k16 r15=>∃ n11,some (int .i64 n11) = some r15 ∧
 ((decide ((n11 : Int)≤0)) = true →
 (∀ k17,Up k16 k17→R k17 (int .i64 1))) ∧
 ((decide ((n11 : Int)≤0)) = false →
 (∀ k18,Up k16 k18→∃ m,m < m5∧I5 m k18 [int .i64 (IntKind.wrap .i64 (n3+1))])))))))))) ∧
 ((decide ((n3 : Int) < (l0 : Nat))) = false →
 (∃ I19 : Nat→World→List Value→Prop,(∃ m19,∀ k19,Up k5 k19→I19 m19 k19 [int .i64 0]) ∧
 ∀ m19 k19 vs19,Up k5 k19→I19 m19 k19 vs19→∃ n4,some [int .i64 n4] = some vs19 ∧
 true = true∧(((decide ((n4 : Int) < (l1 : Nat))) = true →
 ((∃ b o,A1 = some ⟨b,o,none⟩)∧((0 : Int)≤n4∧(n4 : Int) < (l1 : Nat)) ∧
 ∃ n5,∃ cs6,Seg 3 cs6∧∃ cs7,Seg 3 cs7∧∃ cs8,Seg 3 cs8∧Sy.ReadAt k19.cell? A1 (Int.toNat n4*10+0) 10 (agg ((int .i64 n5) :: (cs6.toList ++ (cs7.toList ++ (cs8.toList ++ ([]))))).toArray) ∧
 true = true∧(Cl k19 71 #[int .i64 n5,int .i64 (l0 : Nat)] fun k21 r20=>∃ b9,some (bool b9) = some r20 ∧
 ((!b9) = true →
 (∀ k22,Up k21 k22→R k22 (int .i64 1))) ∧
 ((!b9) = false →
 (Cl k21 70 #[agg cs6] fun k24 r23=>∃ n10,some (int .i64 n10) = some r23 ∧
 ((decide ((n10 : Int)≤0)) = true →
 (∀ k25,Up k24 k25→R k25 (int .i64 1))) ∧
 ((decide ((n10 : Int)≤0)) = false →
 (Cl k24 70 #[agg cs7] fun k27 r26=>∃ n11,some (int .i64 n11) = some r26 ∧
 ((decide ((n11 : Int) < 0)) = true →
 (∀ k28,Up k27 k28→R k28 (int .i64 1))) ∧
 ((decide ((n11 : Int) < 0)) = false →
 (Cl k27 70 #[agg cs8] fun k30 r29=>∃ n12,some (int .i64 n12) = some r29 ∧
 ((decide ((n12 : Int) < 0)) = true →
 (∀ k31,Up k30 k31→R k31 (int .i64 1))) ∧
 ((decide ((n12 : Int) < 0)) = false →
 (∀ k32,Up k30 k32→∃ m,m < m19∧I19 m k32 [int .i64 (IntKind.wrap .i64 (n4+1))]))))))))))) ∧
 ((decide ((n4 : Int) < (l1 : Nat))) = false →
 (∃ I33 : Nat→World→List Value→Prop,(∃ m33,∀ k33,Up k19 k33→I33 m33 k33 [int .i64 0]) ∧
 ∀ m33 k33 vs33,Up k19 k33→I33 m33 k33 vs33→∃ n5,some [int .i64 n5] = some vs33 ∧
 true = true∧(((decide ((n5 : Int) < (l2 : Nat))) = true →
 ((∃ b o,A2 = some ⟨b,o,none⟩)∧((0 : Int)≤n5∧(n5 : Int) < (l2 : Nat)) ∧
 ∃ n6,∃ n7,∃ cs8,Seg 3 cs8∧Sy.ReadAt k33.cell? A2 (Int.toNat n5*5+0) 5 (agg ((int .i64 n6) :: ((int .i64 n7) :: (cs8.toList ++ ([])))).toArray) ∧
 true = true∧(Cl k33 71 #[int .i64 n6,int .i64 (l1 : Nat)] fun k35 r34=>∃ b9,some (bool b9) = some r34 ∧
 ((!b9) = true →
 (∀ k36,Up k35 k36→R k36 (int .i64 1))) ∧
 ((!b9) = false →
 (true = true∧(Cl k35 71 #[int .i64 n7,int .i64 (l1 : Nat)] fun k38 r37=>∃ b10,some (bool b10) = some r37 ∧
 ((!b10) = true →
 (∀ k39,Up k38 k39→R k39 (int .i64 1))) ∧
 ((!b10) = false →
 ((((n6 : Int) == n7) = true →
 (∀ k40,Up k38 k40→R k40 (int .i64 1))) ∧
 (((n6 : Int) == n7) = false →
 (Cl k38 70 #[agg cs8] fun k42 r41=>∃ n11,some (int .i64 n11) = some r41 ∧
 ((decide ((n11 : Int) < 0)) = true →
 (∀ k43,Up k42 k43→R k43 (int .i64 1))) ∧
 ((decide ((n11 : Int) < 0)) = false →
 (∃ I44 : Nat→World→List Value→Prop,(∃ m44,∀ k44,Up k42 k44→I44 m44 k44 [int .i64 0]) ∧
 ∀ m44 k44 vs44,Up k42 k44→I44 m44 k44 vs44→∃ n12,some [int .i64 n12] = some vs44 ∧
 ((decide ((n12 : Int) < n5)) = true →
 ((∃ b o,A2 = some ⟨b,o,none⟩)∧((0 : Int)≤n12∧(n12 : Int) < (l2 : Nat)) ∧
 ∃ n13,∃ n14,∃ cs15,Seg 3 cs15∧Sy.ReadAt k44.cell? A2 (Int.toNat n12*5+0) 5 (agg ((int .i64 n13) :: ((int .i64 n14) :: (cs15.toList ++ ([])))).toArray) ∧
 (((n13 : Int) == n6) = true →
 ((((n14 : Int) == n7) = true →
 (∀ k45,Up k44 k45→R k45 (int .i64 8))) ∧
 (((n14 : Int) == n7) = false →
 ((((n13 : Int) == n7) = true →
 ((((n14 : Int) == n6) = true →
 (∀ k46,Up k44 k46→R k46 (int .i64 8))) ∧
 (((n14 : Int) == n6) = false →
 (∀ k47,Up k44 k47→∃ m,m < m44∧I44 m k47 [int .i64 (IntKind.wrap .i64 (n12+1))])))) ∧
 (((n13 : Int) == n7) = false →
 (∀ k48,Up k44 k48→∃ m,m < m44∧I44 m k48 [int .i64 (IntKind.wrap .i64 (n12+1))])))))) ∧
 (((n13 : Int) == n6) = false →
 ((((n13 : Int) == n7) = true →
 ((((n14 : Int) == n6) = true →
 (∀ k49,Up k44 k49→R k49 (int .i64 8))) ∧
 (((n14 : Int) == n6) = false →
 (∀ k50,Up k44 k50→∃ m,m < m44∧I44 m k50 [int .i64 (IntKind.wrap .i64 (n12+1))])))) ∧
 (((n13 : Int) == n7) = false →
 (∀ k51,Up k44 k51→∃ m,m < m44∧I44 m k51 [int .i64 (IntKind.wrap .i64 (n12+1))])))))) ∧
 ((decide ((n12 : Int) < n5)) = false →
 (∀ k52,Up k44 k52→∃ m,m < m33∧I33 m k52 [int .i64 (IntKind.wrap .i64 (n5+1))])))))))))))))) ∧
 ((decide ((n5 : Int) < (l2 : Nat))) = false →
 (∃ I53 : Nat→World→List Value→Prop,(∃ m53,∀ k53,Up k33 k53→I53 m53 k53 [int .i64 0]) ∧
 ∀ m53 k53 vs53,Up k33 k53→I53 m53 k53 vs53→∃ n6,some [int .i64 n6] = some vs53 ∧
 true = true∧(((decide ((n6 : Int) < (l1 : Nat))) = true →
 ((∃ b o,A1 = some ⟨b,o,none⟩)∧((0 : Int)≤n6∧(n6 : Int) < (l1 : Nat)) ∧
 (∃ b o,A1 = some ⟨b,o,none⟩)∧((0 : Int)≤n6∧(n6 : Int) < (l1 : Nat)) ∧
 ∃ cs7,Seg 3 cs7∧Sy.ReadAt k53.cell? A1 (Int.toNat n6*10+1) 3 (agg cs7) ∧
 Cl k53 73 #[agg #[slice A0 l0 c0,slice A1 l1 c1,slice A2 l2 c2],int .i64 n6] fun k55 r54=>Gt 3 r54 fun cs8 =>
 Cl k55 72 #[agg cs8,agg cs7] fun k57 r56=>∃ n9,some (int .i64 n9) = some r56 ∧
 ((decide ((n9 : Int) > 0)) = true →
 (∀ k58,Up k57 k58→R k58 (int .i64 60))) ∧
 ((decide ((n9 : Int) > 0)) = false →
 (∀ k59,Up k57 k59→∃ m,m < m53∧I53 m k59 [int .i64 (IntKind.wrap .i64 (n6+1))])))) ∧
 ((decide ((n6 : Int) < (l1 : Nat))) = false →
 (∀ k60,Up k53 k60→R k60 (int .i64 0))))))))))))))))))))))))))))) :
   CallsG Tryz.prog 30 #[agg #[slice A0 l0 c0,slice A1 l1 c1,slice A2 l2 c2]] k R :=
  aA (cfg:={ opq:=[89],loops:=[(0,[.tmp 3 false [.int .i64]]),(2,[.tmp 7 false [.int .i64]]),(4,[.tmp 9 false [.int .i64]]),(6,[.tmp 11 false [.int .i64]]),(8,[.tmp 13 false [.int .i64]])] }) (args:=[.agg [.var 0,.var 1,.var 2]]) (vals:=[slice A0 l0 c0,slice A1 l1 c1,slice A2 l2 c2]) (kinds:=[.slice,.slice,.slice]) (by kernel_rfl) ⟨⟨_,_,_,rfl⟩,⟨⟨_,_,_,rfl⟩,⟨⟨_,_,_,rfl⟩,trivial⟩⟩⟩ (by kernel_rfl) (by kernel_rfl) h
theorem aOl {cs0 cs1 : Array Value} (hcs0 : Seg 3 cs0) (hcs1 : Seg 3 cs1)
 (h : Cl k 77 #[agg cs0,agg cs1] fun k1 r0=>∃ cs2,Seg 3 cs2∧∃ n3,some (tuple #[agg cs2,int .i64 n3]) = some r0 ∧
 ∀ k2,Up k1 k2→R k2 (agg cs2)) :
  CallsG Tryz.prog 94 #[agg cs0,agg cs1] k R :=
  aA (cfg:={ opq:=[89] }) (args:=[.agg [.seg 0 3],.agg [.seg 1 3]]) (vals:=[agg cs0,agg cs1]) (kinds:=[.seg 3,.seg 3]) (by kernel_rfl) ⟨⟨cs0,rfl,hcs0⟩,⟨⟨cs1,rfl,hcs1⟩,trivial⟩⟩ (by kernel_rfl) (by kernel_rfl) h
end Go.Proofs.YtampehijkiencaaGreat

namespace Go.Proofs.YtampehijkiencaaGreat
open Go.RowKit
open Value (agg slice int bool tuple)
open Sy (Up Sees CallsG Seg aA)
set_option maxRecDepth 100000
variable {k : World} {R : World→Value→Prop}
theorem wS {A0 : Option Addr} {l0 c0 : Nat} {A1 : Option Addr} {l1 c1 : Nat} {A2 : Option Addr} {l2 c2 : Nat} {cs3 : Array Value} (hcs3 : Seg 3 cs3)
 (h : Cl k 29 #[agg #[slice A0 l0 c0,slice A1 l1 c1,slice A2 l2 c2]] fun k1 r0=>∃ n4,some (int .i64 n4) = some r0 ∧
 (((n4 : Int) != 0) = true →
 (∀ k2,Up k1 k2→R k2 (tuple #[agg #[slice none 0 0,slice none 0 0,slice none 0 0],int .i64 n4]))) ∧
 (((n4 : Int) != 0) = false →
 (Cl k1 78 #[agg #[slice A0 l0 c0,slice A1 l1 c1,slice A2 l2 c2],agg cs3] fun k4 r3=>∃ A5 l5 c5,∃ A6 l6 c6,∃ A7 l7 c7,some (agg #[slice A5 l5 c5,slice A6 l6 c6,slice A7 l7 c7]) = some r3 ∧
 ∀ k5,Up k4 k5→R k5 (tuple #[agg #[slice A5 l5 c5,slice A6 l6 c6,slice A7 l7 c7],int .i64 0])))) :
  CallsG Tryz.prog 34 #[agg #[slice A0 l0 c0,slice A1 l1 c1,slice A2 l2 c2],agg cs3] k R :=
  aA (cfg:={ opq:=[71] }) (args:=[.agg [.var 0,.var 1,.var 2],.agg [.seg 3 3]]) (vals:=[slice A0 l0 c0,slice A1 l1 c1,slice A2 l2 c2,agg cs3]) (kinds:=[.slice,.slice,.slice,.seg 3]) (by kernel_rfl) ⟨⟨_,_,_,rfl⟩,⟨⟨_,_,_,rfl⟩,⟨⟨_,_,_,rfl⟩,⟨⟨cs3,rfl,hcs3⟩,trivial⟩⟩⟩⟩ (by kernel_rfl) (by kernel_rfl) h
end Go.Proofs.YtampehijkiencaaGreat

