/- Several texts in one. (Printed by prep.py.) -/
import Derived.Test.YtampehijkiencaaGreatBwVS
import Derived.Test.YtampehijkiencaaGreatProg
import Derived.Test.YtampehijkiencaaGreatBwSy14
import Derived.Test.YtampehijkiencaaGreatBwQ5
import Derived.Test.YtampehijkiencaaGreatBwG2
namespace Go.Proofs.YtampehijkiencaaGreat
open Go.RowKit
open Value (agg slice int bool tuple)
open Sy (Up Sees CallsG Seg aA)
set_option maxRecDepth 100000
variable {k : World} {R : World→Value→Prop}
theorem aMv {A0 : Option Addr} {l0 c0 : Nat} {A1 : Option Addr} {l1 c1 : Nat} {A2 : Option Addr} {l2 c2 : Nat} {n3 : Int}
 (h : true = true∧(((decide (((l0 : Nat) : Int) > 10)) = true →
 (∀ k0,Up k k0→R k0 (bool false))) ∧
 ((decide (((l0 : Nat) : Int) > 10)) = false →
 (true = true∧(((decide (((l1 : Nat) : Int) > n3)) = true →
 (∀ k1,Up k k1→R k1 (bool false))) ∧
 ((decide (((l1 : Nat) : Int) > n3)) = false →
 (true = true∧(((decide (((l2 : Nat) : Int) > (IntKind.wrap .i64 ((IntKind.wrap .i64 (2*n3))+20)))) = true →
 (∀ k2,Up k k2→R k2 (bool false))) ∧
 ((decide (((l2 : Nat) : Int) > (IntKind.wrap .i64 ((IntKind.wrap .i64 (2*n3))+20)))) = false →
 (true = true∧(∃ I3 : Nat→World→List Value→Prop,(∃ m3,∀ k3,Up k k3→I3 m3 k3 [int .i64 0]) ∧
 ∀ m3 k3 vs3,Up k k3→I3 m3 k3 vs3→∃ n4,some [int .i64 n4] = some vs3 ∧
 ((decide ((n4 : Int) < (l0 : Nat))) = true →
 ((∃ b o,A0 = some ⟨b,o,none⟩)∧((0 : Int)≤n4∧(n4 : Int) < (l0 : Nat)) ∧
 ∃ A5 l5 c5,∃ A6 l6 c6,∃ n7,∃ n8,∃ n9,∃ n10,Sy.ReadAt k3.cell? A0 (Int.toNat n4*6+0) 6 (agg #[slice A5 l5 c5,slice A6 l6 c6,int .i64 n7,int .i64 n8,int .i64 n9,int .i64 n10]) ∧
 true = true∧(((decide (((l5 : Nat) : Int) > 20)) = true →
 (∀ k4,Up k3 k4→R k4 (bool false))) ∧
 ((decide (((l5 : Nat) : Int) > 20)) = false →
 (true = true∧(((decide (((l6 : Nat) : Int) > 20)) = true →
 (∀ k5,Up k3 k5→R k5 (bool false))) ∧
 ((decide (((l6 : Nat) : Int) > 20)) = false →
 (∀ k6,Up k3 k6→∃ m,m < m3∧I3 m k6 [int .i64 (IntKind.wrap .i64 (n4+1))])))))))) ∧
 ((decide ((n4 : Int) < (l0 : Nat))) = false →
 (∀ k7,Up k3 k7→R k7 (bool true)))))))))))))) :
   CallsG Tryz.prog 9 #[agg #[slice A0 l0 c0,slice A1 l1 c1,slice A2 l2 c2],int .i64 n3] k R :=
  aA (cfg:={ opq:=[],loops:=[(0,[.tmp 30 false [.int .i64]])] }) (args:=[.agg [.var 0,.var 1,.var 2],.one (.var 3)]) (vals:=[slice A0 l0 c0,slice A1 l1 c1,slice A2 l2 c2,int .i64 n3]) (kinds:=[.slice,.slice,.slice,.int .i64]) (by kernel_rfl) ⟨⟨_,_,_,rfl⟩,⟨⟨_,_,_,rfl⟩,⟨⟨_,_,_,rfl⟩,⟨⟨_,rfl⟩,trivial⟩⟩⟩⟩ (by kernel_rfl) (by kernel_rfl) h
theorem aLh {A0 : Option Addr} {l0 c0 : Nat} {A1 : Option Addr} {l1 c1 : Nat} {A2 : Option Addr} {l2 c2 : Nat}
 (h : true = true∧(((decide (((l0 : Nat) : Int)≤30)) = true →
 (true = true∧(((decide (((l1 : Nat) : Int)≤30)) = true →
 (true = true∧(∀ k0,Up k k0→R k0 (bool (decide (((l2 : Nat) : Int)≤30)))))) ∧
 ((decide (((l1 : Nat) : Int)≤30)) = false →
 (∀ k1,Up k k1→R k1 (bool false)))))) ∧
 ((decide (((l0 : Nat) : Int)≤30)) = false →
 (∀ k2,Up k k2→R k2 (bool false))))) :
   CallsG Tryz.prog 10 #[agg #[slice A0 l0 c0,slice A1 l1 c1,slice A2 l2 c2]] k R :=
  aA (cfg:={ opq:=[] }) (args:=[.agg [.var 0,.var 1,.var 2]]) (vals:=[slice A0 l0 c0,slice A1 l1 c1,slice A2 l2 c2]) (kinds:=[.slice,.slice,.slice]) (by kernel_rfl) ⟨⟨_,_,_,rfl⟩,⟨⟨_,_,_,rfl⟩,⟨⟨_,_,_,rfl⟩,trivial⟩⟩⟩ (by kernel_rfl) (by kernel_rfl) h
theorem aDf {A0 : Option Addr} {l0 c0 : Nat}
 (h : true = true∧(∃ I0 : Nat→World→List Value→Prop,(∃ m0,∀ k0,Up k k0→I0 m0 k0 [int .i64 0,tuple #[slice none 0 0,agg #[]],tuple #[slice none 0 0,agg #[]]]) ∧
 ∀ m0 k0 vs0,Up k k0→I0 m0 k0 vs0→∃ n1,∃ A2 l2 c2,∃ cs3,Sy.RowC cs3∧∃ A4 l4 c4,∃ cs5,Sy.RowC cs5∧some [int .i64 n1,tuple #[slice A2 l2 c2,agg cs3],tuple #[slice A4 l4 c4,agg cs5]] = some vs0 ∧
 ((decide ((n1 : Int) < (l0 : Nat))) = true →
 ((∃ b o,A0 = some ⟨b,o,none⟩)∧((0 : Int)≤n1∧(n1 : Int) < (l0 : Nat)) ∧
 ∃ n6,∃ n7,∃ n8,∃ n9,Sy.ReadAt k0.cell? A0 (Int.toNat n1*4+0) 4 (agg #[int .i64 n6,int .i64 n7,int .i64 n8,int .i64 n9]) ∧
 Cl k0 19 #[agg #[int .i64 n6,int .i64 n7]] fun k2 r1=>Gt 3 r1 fun cs10 =>
 Cl k2 19 #[agg #[int .i64 n8,int .i64 n9]] fun k4 r3=>Gt 3 r3 fun cs11 =>
 (cs10.toList ++ (cs11.toList ++ ([])) : List Value).length = Int.toNat 1*6∧(0 : Int)≤1∧Sy.sizeOk 112 (l2+Int.toNat 1)∧∀ (A12 : Option Addr) (l12 c12 : Nat) (cs13 : Array Value),l12 = l2+Int.toNat 1→cs13 = cs3 ++ (cs10.toList ++ (cs11.toList ++ ([])) : List Value).toArray→l12≤c12 →
 Cl k4 28 #[agg #[int .i64 n6,int .i64 n7]] fun k6 r5=>Gt 3 r5 fun cs14 =>
 Cl k6 28 #[agg #[int .i64 n8,int .i64 n9]] fun k8 r7=>Gt 3 r7 fun cs15 =>
 (cs14.toList ++ (cs15.toList ++ ([])) : List Value).length = Int.toNat 1*6∧(0 : Int)≤1∧Sy.sizeOk 112 (l4+Int.toNat 1)∧∀ (A16 : Option Addr) (l16 c16 : Nat) (cs17 : Array Value),l16 = l4+Int.toNat 1→cs17 = cs5 ++ (cs14.toList ++ (cs15.toList ++ ([])) : List Value).toArray→l16≤c16 →
 ∀ k9,Up k8 k9→∃ m,m < m0∧I0 m k9 [int .i64 (IntKind.wrap .i64 (n1+1)),tuple #[slice A12 l12 c12,agg cs13],tuple #[slice A16 l16 c16,agg cs17]])) ∧
 ((decide ((n1 : Int) < (l0 : Nat))) = false →
 (∀ k10,Up k0 k10→Sy.RowAt k10 A2 cs3 →
 ∀ k11,Up k10 k11→Sy.RowAt k11 A4 cs5 →
 ∀ k12,Up k11 k12→R k12 (tuple #[slice A2 l2 c2,slice A4 l4 c4]))))) :
  CallsG Tryz.prog 25 #[slice A0 l0 c0] k R :=
  aA (cfg:={ opq:=[71,89],loops:=[(0,[.tmp 10 false [.int .i64],.rw 4 131 6,.rw 5 158 6])] }) (args:=[.one (.var 0)]) (vals:=[slice A0 l0 c0]) (kinds:=[.slice]) (by kernel_rfl) ⟨⟨_,_,_,rfl⟩,trivial⟩ (by kernel_rfl) (by kernel_rfl) h
theorem aIv {A0 : Option Addr} {l0 c0 : Nat}
 (h : true = true∧(∃ I0 : Nat→World→List Value→Prop,(∃ m0,∀ k0,Up k k0→I0 m0 k0 [int .i64 0,tuple #[slice none 0 0,agg #[]],tuple #[slice none 0 0,agg #[]]]) ∧
 ∀ m0 k0 vs0,Up k k0→I0 m0 k0 vs0→∃ n1,∃ A2 l2 c2,∃ cs3,Sy.RowC cs3∧∃ A4 l4 c4,∃ cs5,Sy.RowC cs5∧some [int .i64 n1,tuple #[slice A2 l2 c2,agg cs3],tuple #[slice A4 l4 c4,agg cs5]] = some vs0 ∧
 ((decide ((n1 : Int) < (l0 : Nat))) = true →
 ((∃ b o,A0 = some ⟨b,o,none⟩)∧((0 : Int)≤n1∧(n1 : Int) < (l0 : Nat)) ∧
 ∃ A6 l6 c6,∃ A7 l7 c7,∃ n8,∃ n9,∃ n10,∃ n11,Sy.ReadAt k0.cell? A0 (Int.toNat n1*6+0) 6 (agg #[slice A6 l6 c6,slice A7 l7 c7,int .i64 n8,int .i64 n9,int .i64 n10,int .i64 n11]) ∧
 Cl k0 25 #[slice A6 l6 c6] fun k2 r1=>∃ A12 l12 c12,∃ A13 l13 c13,some (tuple #[slice A12 l12 c12,slice A13 l13 c13]) = some r1 ∧
 Cl k2 25 #[slice A7 l7 c7] fun k4 r3=>∃ A14 l14 c14,∃ A15 l15 c15,some (tuple #[slice A14 l14 c14,slice A15 l15 c15]) = some r3 ∧
 Cl k4 19 #[agg #[int .i64 n8,int .i64 n9]] fun k6 r5=>Gt 3 r5 fun cs16 =>
 Cl k6 19 #[agg #[int .i64 n10,int .i64 n11]] fun k8 r7=>Gt 3 r7 fun cs17 =>
 ((slice A12 l12 c12) :: ((slice A14 l14 c14) :: (cs16.toList ++ (cs17.toList ++ ([])))) : List Value).length = Int.toNat 1*8∧(0 : Int)≤1∧Sy.sizeOk 160 (l2+Int.toNat 1)∧∀ (A18 : Option Addr) (l18 c18 : Nat) (cs19 : Array Value),l18 = l2+Int.toNat 1→cs19 = cs3 ++ ((slice A12 l12 c12) :: ((slice A14 l14 c14) :: (cs16.toList ++ (cs17.toList ++ ([])))) : List Value).toArray→l18≤c18 →
 Cl k8 28 #[agg #[int .i64 n8,int .i64 n9]] fun k10 r9=>Gt 3 r9 fun cs20 =>
 Cl k10 28 #[agg #[int .i64 n10,int .i64 n11]] fun k12 r11=>Gt 3 r11 fun cs21 =>
 ((slice A13 l13 c13) :: ((slice A15 l15 c15) :: (cs20.toList ++ (cs21.toList ++ ([])))) : List Value).length = Int.toNat 1*8∧(0 : Int)≤1∧Sy.sizeOk 160 (l4+Int.toNat 1)∧∀ (A22 : Option Addr) (l22 c22 : Nat) (cs23 : Array Value),l22 = l4+Int.toNat 1→cs23 = cs5 ++ ((slice A13 l13 c13) :: ((slice A15 l15 c15) :: (cs20.toList ++ (cs21.toList ++ ([])))) : List Value).toArray→l22≤c22 →
 ∀ k13,Up k12 k13→∃ m,m < m0∧I0 m k13 [int .i64 (IntKind.wrap .i64 (n1+1)),tuple #[slice A18 l18 c18,agg cs19],tuple #[slice A22 l22 c22,agg cs23]])) ∧
 ((decide ((n1 : Int) < (l0 : Nat))) = false →
 (∀ k14,Up k0 k14→Sy.RowAt k14 A2 cs3 →
 ∀ k15,Up k14 k15→Sy.RowAt k15 A4 cs5 →
 ∀ k16,Up k15 k16→R k16 (tuple #[slice A2 l2 c2,slice A4 l4 c4]))))) :
  CallsG Tryz.prog 43 #[slice A0 l0 c0] k R :=
  aA (cfg:={ opq:=[71,89],loops:=[(0,[.tmp 14 false [.int .i64],.rw 4 98 8,.rw 5 101 8])] }) (args:=[.one (.var 0)]) (vals:=[slice A0 l0 c0]) (kinds:=[.slice]) (by kernel_rfl) ⟨⟨_,_,_,rfl⟩,trivial⟩ (by kernel_rfl) (by kernel_rfl) h
theorem aIk {A0 : Option Addr} {l0 c0 : Nat} {A1 : Option Addr} {l1 c1 : Nat} {A2 : Option Addr} {l2 c2 : Nat}
 (h : Cl k 43 #[slice A0 l0 c0] fun k1 r0=>∃ A3 l3 c3,∃ A4 l4 c4,some (tuple #[slice A3 l3 c3,slice A4 l4 c4]) = some r0 ∧
 true = true∧(∃ I2 : Nat→World→List Value→Prop,(∃ m2,∀ k2,Up k1 k2→I2 m2 k2 [int .i64 0,tuple #[slice none 0 0,agg #[]],tuple #[slice none 0 0,agg #[]]]) ∧
 ∀ m2 k2 vs2,Up k1 k2→I2 m2 k2 vs2→∃ n5,∃ A6 l6 c6,∃ cs7,Sy.RowC cs7∧∃ A8 l8 c8,∃ cs9,Sy.RowC cs9∧some [int .i64 n5,tuple #[slice A6 l6 c6,agg cs7],tuple #[slice A8 l8 c8,agg cs9]] = some vs2 ∧
 ((decide ((n5 : Int) < (l1 : Nat))) = true →
 ((∃ b o,A1 = some ⟨b,o,none⟩)∧((0 : Int)≤n5∧(n5 : Int) < (l1 : Nat)) ∧
 ∃ n10,∃ n11,∃ n12,∃ n13,∃ n14,∃ n15,∃ n16,Sy.ReadAt k2.cell? A1 (Int.toNat n5*7+0) 7 (agg #[int .i64 n10,int .i64 n11,int .i64 n12,int .i64 n13,int .i64 n14,int .i64 n15,int .i64 n16]) ∧
 Cl k2 19 #[agg #[int .i64 n11,int .i64 n12]] fun k4 r3=>Gt 3 r3 fun cs17 =>
 Cl k4 19 #[agg #[int .i64 n13,int .i64 n14]] fun k6 r5=>Gt 3 r5 fun cs18 =>
 Cl k6 19 #[agg #[int .i64 n15,int .i64 n16]] fun k8 r7=>Gt 3 r7 fun cs19 =>
 ((int .i64 n10) :: (cs17.toList ++ (cs18.toList ++ (cs19.toList ++ ([])))) : List Value).length = Int.toNat 1*10∧(0 : Int)≤1∧Sy.sizeOk 176 (l6+Int.toNat 1)∧∀ (A20 : Option Addr) (l20 c20 : Nat) (cs21 : Array Value),l20 = l6+Int.toNat 1→cs21 = cs7 ++ ((int .i64 n10) :: (cs17.toList ++ (cs18.toList ++ (cs19.toList ++ ([])))) : List Value).toArray→l20≤c20 →
 Cl k8 28 #[agg #[int .i64 n11,int .i64 n12]] fun k10 r9=>Gt 3 r9 fun cs22 =>
 Cl k10 28 #[agg #[int .i64 n13,int .i64 n14]] fun k12 r11=>Gt 3 r11 fun cs23 =>
 Cl k12 28 #[agg #[int .i64 n15,int .i64 n16]] fun k14 r13=>Gt 3 r13 fun cs24 =>
 ((int .i64 n10) :: (cs22.toList ++ (cs23.toList ++ (cs24.toList ++ ([])))) : List Value).length = Int.toNat 1*10∧(0 : Int)≤1∧Sy.sizeOk 176 (l8+Int.toNat 1)∧∀ (A25 : Option Addr) (l25 c25 : Nat) (cs26 : Array Value),l25 = l8+Int.toNat 1→cs26 = cs9 ++ ((int .i64 n10) :: (cs22.toList ++ (cs23.toList ++ (cs24.toList ++ ([])))) : List Value).toArray→l25≤c25 →
 ∀ k15,Up k14 k15→∃ m,m < m2∧I2 m k15 [int .i64 (IntKind.wrap .i64 (n5+1)),tuple #[slice A20 l20 c20,agg cs21],tuple #[slice A25 l25 c25,agg cs26]])) ∧
 ((decide ((n5 : Int) < (l1 : Nat))) = false →
 (true = true∧(∃ I16 : Nat→World→List Value→Prop,(∃ m16,∀ k16,Up k2 k16→I16 m16 k16 [int .i64 0,tuple #[slice none 0 0,agg #[]],tuple #[slice none 0 0,agg #[]]]) ∧
 ∀ m16 k16 vs16,Up k2 k16→I16 m16 k16 vs16→∃ n10,∃ A11 l11 c11,∃ cs12,Sy.RowC cs12∧∃ A13 l13 c13,∃ cs14,Sy.RowC cs14∧some [int .i64 n10,tuple #[slice A11 l11 c11,agg cs12],tuple #[slice A13 l13 c13,agg cs14]] = some vs16 ∧
 ((decide ((n10 : Int) < (l2 : Nat))) = true →
 ((∃ b o,A2 = some ⟨b,o,none⟩)∧((0 : Int)≤n10∧(n10 : Int) < (l2 : Nat)) ∧
 ∃ n15,∃ n16,∃ n17,∃ n18,Sy.ReadAt k16.cell? A2 (Int.toNat n10*4+0) 4 (agg #[int .i64 n15,int .i64 n16,int .i64 n17,int .i64 n18]) ∧
 Cl k16 19 #[agg #[int .i64 n17,int .i64 n18]] fun k18 r17=>Gt 3 r17 fun cs19 =>
 ((int .i64 n15) :: ((int .i64 n16) :: (cs19.toList ++ ([]))) : List Value).length = Int.toNat 1*5∧(0 : Int)≤1∧Sy.sizeOk 72 (l11+Int.toNat 1)∧∀ (A20 : Option Addr) (l20 c20 : Nat) (cs21 : Array Value),l20 = l11+Int.toNat 1→cs21 = cs12 ++ ((int .i64 n15) :: ((int .i64 n16) :: (cs19.toList ++ ([]))) : List Value).toArray→l20≤c20 →
 Cl k18 28 #[agg #[int .i64 n17,int .i64 n18]] fun k20 r19=>Gt 3 r19 fun cs22 =>
 ((int .i64 n15) :: ((int .i64 n16) :: (cs22.toList ++ ([]))) : List Value).length = Int.toNat 1*5∧(0 : Int)≤1∧Sy.sizeOk 72 (l13+Int.toNat 1)∧∀ (A23 : Option Addr) (l23 c23 : Nat) (cs24 : Array Value),l23 = l13+Int.toNat 1→cs24 = cs14 ++ ((int .i64 n15) :: ((int .i64 n16) :: (cs22.toList ++ ([]))) : List Value).toArray→l23≤c23 →
 ∀ k21,Up k20 k21→∃ m,m < m16∧I16 m k21 [int .i64 (IntKind.wrap .i64 (n10+1)),tuple #[slice A20 l20 c20,agg cs21],tuple #[slice A23 l23 c23,agg cs24]])) ∧
 ((decide ((n10 : Int) < (l2 : Nat))) = false →
 (∀ k22,Up k16 k22→Sy.RowAt k22 A6 cs7 →
 ∀ k23,Up k22 k23→Sy.RowAt k23 A11 cs12 →
 ∀ k24,Up k23 k24→Sy.RowAt k24 A8 cs9 →
 ∀ k25,Up k24 k25→Sy.RowAt k25 A13 cs14 →
 ∀ k26,Up k25 k26→R k26 (tuple #[agg #[slice A3 l3 c3,slice A6 l6 c6,slice A11 l11 c11],agg #[slice A4 l4 c4,slice A8 l8 c8,slice A13 l13 c13]])))))))) :
  CallsG Tryz.prog 12 #[agg #[slice A0 l0 c0,slice A1 l1 c1,slice A2 l2 c2]] k R :=
  aA (cfg:={ opq:=[71,89],loops:=[(0,[.tmp 21 false [.int .i64],.rb 3 1 78 10,.rb 4 1 138 10]),(2,[.tmp 63 false [.int .i64],.rb 3 2 133 5,.rb 4 2 142 5])] }) (args:=[.agg [.var 0,.var 1,.var 2]]) (vals:=[slice A0 l0 c0,slice A1 l1 c1,slice A2 l2 c2]) (kinds:=[.slice,.slice,.slice]) (by kernel_rfl) ⟨⟨_,_,_,rfl⟩,⟨⟨_,_,_,rfl⟩,⟨⟨_,_,_,rfl⟩,trivial⟩⟩⟩ (by kernel_rfl) (by kernel_rfl) h
theorem aHs {A0 : Option Addr} {l0 c0 : Nat}
 (h : true = true∧(∃ I0 : Nat→World→List Value→Prop,(∃ m0,∀ k0,Up k k0→I0 m0 k0 [int .i64 0,tuple #[slice none 0 0,agg #[]],tuple #[slice none 0 0,agg #[]]]) ∧
 ∀ m0 k0 vs0,Up k k0→I0 m0 k0 vs0→∃ n1,∃ A2 l2 c2,∃ cs3,Sy.RowC cs3∧∃ A4 l4 c4,∃ cs5,Sy.RowC cs5∧some [int .i64 n1,tuple #[slice A2 l2 c2,agg cs3],tuple #[slice A4 l4 c4,agg cs5]] = some vs0 ∧
 ((decide ((n1 : Int) < (l0 : Nat))) = true →
 ((∃ b o,A0 = some ⟨b,o,none⟩)∧((0 : Int)≤n1∧(n1 : Int) < (l0 : Nat)) ∧
 ∃ n6,∃ n7,Sy.ReadAt k0.cell? A0 (Int.toNat n1*2+0) 2 (agg #[int .i64 n6,int .i64 n7]) ∧
 Cl k0 19 #[agg #[int .i64 n6,int .i64 n7]] fun k2 r1=>Gt 3 r1 fun cs8 =>
 (cs8.toList ++ ([]) : List Value).length = Int.toNat 1*3∧(0 : Int)≤1∧Sy.sizeOk 56 (l2+Int.toNat 1)∧∀ (A9 : Option Addr) (l9 c9 : Nat) (cs10 : Array Value),l9 = l2+Int.toNat 1→cs10 = cs3 ++ (cs8.toList ++ ([]) : List Value).toArray→l9≤c9 →
 Cl k2 28 #[agg #[int .i64 n6,int .i64 n7]] fun k4 r3=>Gt 3 r3 fun cs11 =>
 (cs11.toList ++ ([]) : List Value).length = Int.toNat 1*3∧(0 : Int)≤1∧Sy.sizeOk 56 (l4+Int.toNat 1)∧∀ (A12 : Option Addr) (l12 c12 : Nat) (cs13 : Array Value),l12 = l4+Int.toNat 1→cs13 = cs5 ++ (cs11.toList ++ ([]) : List Value).toArray→l12≤c12 →
 ∀ k5,Up k4 k5→∃ m,m < m0∧I0 m k5 [int .i64 (IntKind.wrap .i64 (n1+1)),tuple #[slice A9 l9 c9,agg cs10],tuple #[slice A12 l12 c12,agg cs13]])) ∧
 ((decide ((n1 : Int) < (l0 : Nat))) = false →
 (∀ k6,Up k0 k6→Sy.RowAt k6 A2 cs3 →
 ∀ k7,Up k6 k7→Sy.RowAt k7 A4 cs5 →
 ∀ k8,Up k7 k8→R k8 (tuple #[slice A2 l2 c2,slice A4 l4 c4]))))) :
  CallsG Tryz.prog 14 #[slice A0 l0 c0] k R :=
  aA (cfg:={ opq:=[71,89],loops:=[(0,[.tmp 10 false [.int .i64],.rw 4 71 3,.rw 5 89 3])] }) (args:=[.one (.var 0)]) (vals:=[slice A0 l0 c0]) (kinds:=[.slice]) (by kernel_rfl) ⟨⟨_,_,_,rfl⟩,trivial⟩ (by kernel_rfl) (by kernel_rfl) h
theorem zL {A0 : Option Addr} {l0 c0 : Nat} {A1 : Option Addr} {l1 c1 : Nat} {A2 : Option Addr} {l2 c2 : Nat}
 (h : Cl k 14 #[slice A0 l0 c0] fun k1 r0=>∃ A3 l3 c3,∃ A4 l4 c4,some (tuple #[slice A3 l3 c3,slice A4 l4 c4]) = some r0 ∧
 Cl k1 14 #[slice A1 l1 c1] fun k3 r2=>∃ A5 l5 c5,∃ A6 l6 c6,some (tuple #[slice A5 l5 c5,slice A6 l6 c6]) = some r2 ∧
 Cl k3 14 #[slice A2 l2 c2] fun k5 r4=>∃ A7 l7 c7,∃ A8 l8 c8,some (tuple #[slice A7 l7 c7,slice A8 l8 c8]) = some r4 ∧
 ∀ k6,Up k5 k6→R k6 (tuple #[agg #[slice A3 l3 c3,slice A5 l5 c5,slice A7 l7 c7],agg #[slice A4 l4 c4,slice A6 l6 c6,slice A8 l8 c8]])) :
  CallsG Tryz.prog 13 #[agg #[slice A0 l0 c0,slice A1 l1 c1,slice A2 l2 c2]] k R :=
  aA (cfg:={ opq:=[71,89] }) (args:=[.agg [.var 0,.var 1,.var 2]]) (vals:=[slice A0 l0 c0,slice A1 l1 c1,slice A2 l2 c2]) (kinds:=[.slice,.slice,.slice]) (by kernel_rfl) ⟨⟨_,_,_,rfl⟩,⟨⟨_,_,_,rfl⟩,⟨⟨_,_,_,rfl⟩,trivial⟩⟩⟩ (by kernel_rfl) (by kernel_rfl) h
theorem aCm {A0 : Option Addr} {l0 c0 : Nat} {A1 : Option Addr} {l1 c1 : Nat} {A2 : Option Addr} {l2 c2 : Nat} {A3 : Option Addr} {l3 c3 : Nat} {A4 : Option Addr} {l4 c4 : Nat} {A5 : Option Addr} {l5 c5 : Nat} {n6 : Int}
 (h : Cl k 9 #[agg #[slice A0 l0 c0,slice A1 l1 c1,slice A2 l2 c2],int .i64 n6] fun k1 r0=>∃ b7,some (bool b7) = some r0 ∧
 ((!b7) = true →
 (∀ k2,Up k1 k2→R k2 (tuple #[agg #[slice none 0 0,slice none 0 0,slice none 0 0],agg #[slice none 0 0,slice none 0 0,slice none 0 0],bool false]))) ∧
 ((!b7) = false →
 (Cl k1 10 #[agg #[slice A3 l3 c3,slice A4 l4 c4,slice A5 l5 c5]] fun k4 r3=>∃ b8,some (bool b8) = some r3 ∧
 ((!b8) = true →
 (∀ k5,Up k4 k5→R k5 (tuple #[agg #[slice none 0 0,slice none 0 0,slice none 0 0],agg #[slice none 0 0,slice none 0 0,slice none 0 0],bool false]))) ∧
 ((!b8) = false →
 (Cl k4 12 #[agg #[slice A0 l0 c0,slice A1 l1 c1,slice A2 l2 c2]] fun k7 r6=>∃ A9 l9 c9,∃ A10 l10 c10,∃ A11 l11 c11,∃ A12 l12 c12,∃ A13 l13 c13,∃ A14 l14 c14,some (tuple #[agg #[slice A9 l9 c9,slice A10 l10 c10,slice A11 l11 c11],agg #[slice A12 l12 c12,slice A13 l13 c13,slice A14 l14 c14]]) = some r6 ∧
 Cl k7 13 #[agg #[slice A3 l3 c3,slice A4 l4 c4,slice A5 l5 c5]] fun k9 r8=>∃ A15 l15 c15,∃ A16 l16 c16,∃ A17 l17 c17,∃ A18 l18 c18,∃ A19 l19 c19,∃ A20 l20 c20,some (tuple #[agg #[slice A15 l15 c15,slice A16 l16 c16,slice A17 l17 c17],agg #[slice A18 l18 c18,slice A19 l19 c19,slice A20 l20 c20]]) = some r8 ∧
 Cl k9 38 #[agg #[slice A12 l12 c12,slice A13 l13 c13,slice A14 l14 c14],agg #[slice A18 l18 c18,slice A19 l19 c19,slice A20 l20 c20]] fun k11 r10=>∃ cs21,Seg 3 cs21∧∃ n22,some (tuple #[agg cs21,int .i64 n22]) = some r10 ∧
 ∀ k12,Up k11 k12→R k12 (tuple #[agg #[slice A9 l9 c9,slice A10 l10 c10,slice A11 l11 c11],agg #[slice A15 l15 c15,slice A16 l16 c16,slice A17 l17 c17],bool ((n22 : Int) == 0)])))))) :
  CallsG Tryz.prog 18 #[agg #[slice A0 l0 c0,slice A1 l1 c1,slice A2 l2 c2],agg #[slice A3 l3 c3,slice A4 l4 c4,slice A5 l5 c5],int .i64 n6] k R :=
  aA (cfg:={ opq:=[71,89] }) (args:=[.agg [.var 0,.var 1,.var 2],.agg [.var 3,.var 4,.var 5],.one (.var 6)]) (vals:=[slice A0 l0 c0,slice A1 l1 c1,slice A2 l2 c2,slice A3 l3 c3,slice A4 l4 c4,slice A5 l5 c5,int .i64 n6]) (kinds:=[.slice,.slice,.slice,.slice,.slice,.slice,.int .i64]) (by kernel_rfl) ⟨⟨_,_,_,rfl⟩,⟨⟨_,_,_,rfl⟩,⟨⟨_,_,_,rfl⟩,⟨⟨_,_,_,rfl⟩,⟨⟨_,_,_,rfl⟩,⟨⟨_,_,_,rfl⟩,⟨⟨_,rfl⟩,trivial⟩⟩⟩⟩⟩⟩⟩ (by kernel_rfl) (by kernel_rfl) h
theorem aBo {A0 : Option Addr} {l0 c0 : Nat} {A1 : Option Addr} {l1 c1 : Nat} {A2 : Option Addr} {l2 c2 : Nat} {A3 : Option Addr} {l3 c3 : Nat} {A4 : Option Addr} {l4 c4 : Nat} {A5 : Option Addr} {l5 c5 : Nat}
 (h : true = true∧(true = true∧(((((l3 : Nat) : Int) == (l1 : Nat)) = true →
 (true = true∧(((((l4 : Nat) : Int) == (l1 : Nat)) = true →
 (true = true∧(∀ k0,Up k k0→R k0 (bool (((l5 : Nat) : Int) == (l1 : Nat)))))) ∧
 ((((l4 : Nat) : Int) == (l1 : Nat)) = false →
 (∀ k1,Up k k1→R k1 (bool false)))))) ∧
 ((((l3 : Nat) : Int) == (l1 : Nat)) = false →
 (∀ k2,Up k k2→R k2 (bool false)))))) :
   CallsG Tryz.prog 21 #[agg #[slice A0 l0 c0,slice A1 l1 c1,slice A2 l2 c2],agg #[slice A3 l3 c3,slice A4 l4 c4,slice A5 l5 c5]] k R :=
  aA (cfg:={ opq:=[71,89] }) (args:=[.agg [.var 0,.var 1,.var 2],.agg [.var 3,.var 4,.var 5]]) (vals:=[slice A0 l0 c0,slice A1 l1 c1,slice A2 l2 c2,slice A3 l3 c3,slice A4 l4 c4,slice A5 l5 c5]) (kinds:=[.slice,.slice,.slice,.slice,.slice,.slice]) (by kernel_rfl) ⟨⟨_,_,_,rfl⟩,⟨⟨_,_,_,rfl⟩,⟨⟨_,_,_,rfl⟩,⟨⟨_,_,_,rfl⟩,⟨⟨_,_,_,rfl⟩,⟨⟨_,_,_,rfl⟩,trivial⟩⟩⟩⟩⟩⟩ (by kernel_rfl) (by kernel_rfl) h
theorem aDo
 (h : Cl k 47 #[int .i64 60] fun k1 r0=>Gt 3 r0 fun cs0 =>
 Cl k1 47 #[int .i64 1] fun k3 r2=>Gt 3 r2 fun cs1 =>
 Cl k3 47 #[int .i64 1] fun k5 r4=>Gt 3 r4 fun cs2 =>
 Cl k5 47 #[int .i64 1] fun k7 r6=>Gt 3 r6 fun cs3 =>
 Cl k7 47 #[int .i64 4] fun k9 r8=>Gt 3 r8 fun cs4 =>
 Cl k9 47 #[int .i64 1] fun k11 r10=>Gt 3 r10 fun cs5 =>
 Cl k11 47 #[int .i64 1] fun k13 r12=>Gt 3 r12 fun cs6 =>
 ∀ p7 k14,Up k13 k14→Sy.Blk k14 p7 131 ((bool false) :: ((slice none 0 0) :: ((slice none 0 0) :: ((bool false) :: ((slice none 0 0) :: ((slice none 0 0) :: (cs0.toList ++ (cs1.toList ++ ([]))))))))).toArray →
 ∀ p8 k15,Up k14 k15→Sy.Blk k15 p8 131 #[bool false,slice none 0 0,slice none 0 0,bool false,slice none 0 0,slice none 0 0] →
 ∀ p9 k16,Up k15 k16→Sy.Blk k16 p9 98 ((slice (some ⟨p7,0,none⟩) 2 2) :: ((slice (some ⟨p8,0,none⟩) 1 1) :: (cs2.toList ++ (cs3.toList ++ ([]))))).toArray →
 ∀ p10 k17,Up k16 k17→Sy.Blk k17 p10 78 ((int .i64 0) :: (cs4.toList ++ (cs5.toList ++ ((bool false) :: ((slice none 0 0) :: ((slice none 0 0) :: ((int .i64 0) :: (cs4.toList ++ ((bool false) :: ((slice none 0 0) :: ((slice none 0 0) :: ((bool false) :: ((slice none 0 0) :: ((slice none 0 0) :: ([]))))))))))))))).toArray →
 ∀ p11 k18,Up k17 k18→Sy.Blk k18 p11 133 ((int .i64 0) :: ((int .i64 1) :: (cs6.toList ++ ([])))).toArray →
 Cl k18 47 #[int .i64 20] fun k20 r19=>Gt 3 r19 fun cs12 =>
 Cl k20 34 #[agg #[slice (some ⟨p9,0,none⟩) 1 1,slice (some ⟨p10,0,none⟩) 2 2,slice (some ⟨p11,0,none⟩) 1 1],agg cs12] fun k22 r21=>∃ A13 l13 c13,∃ A14 l14 c14,∃ A15 l15 c15,∃ n16,some (tuple #[agg #[slice A13 l13 c13,slice A14 l14 c14,slice A15 l15 c15],int .i64 n16]) = some r21 ∧
 Cl k22 47 #[int .i64 180] fun k24 r23=>Gt 3 r23 fun cs17 =>
 Cl k24 47 #[int .i64 180] fun k26 r25=>Gt 3 r25 fun cs18 =>
 ∀ p19 k27,Up k26 k27→Sy.Blk k27 p19 71 (cs17.toList ++ (cs18.toList ++ ([]))).toArray →
 Cl k27 15 #[agg #[slice (some ⟨p9,0,none⟩) 1 1,slice (some ⟨p10,0,none⟩) 2 2,slice (some ⟨p11,0,none⟩) 1 1],agg #[slice A13 l13 c13,slice A14 l14 c14,slice A15 l15 c15],slice (some ⟨p19,0,none⟩) 2 2,slice (some ⟨p19,0,none⟩) 2 2] fun k29 r28=>∃ A20 l20 c20,∃ A21 l21 c21,∃ A22 l22 c22,∃ n23,some (tuple #[agg #[slice A20 l20 c20,slice A21 l21 c21,slice A22 l22 c22],int .i64 n23]) = some r28 ∧
 (((n16 : Int) == 0) = true →
 ((((n23 : Int) == 0) = true →
 (true = true∧(((((l20 : Nat) : Int) == 2) = true →
 (true = true∧(((((l21 : Nat) : Int) == 2) = true →
 ((∃ b o,A20 = some ⟨b,o,none⟩)∧((0 : Int)≤0∧(0 : Int) < (l20 : Nat)) ∧
 ∃ cs24,Seg 3 cs24∧Sy.ReadAt k29.cell? A20 (Int.toNat 0*3+0) 3 (agg cs24) ∧
 Cl k29 48 #[agg cs24] fun k31 r30=>∃ s25,some (Value.string s25) = some r30 ∧
 ((ByteArray.toList s25 == ByteArray.toList ⟨#[56,48]⟩) = true →
 ((∃ b o,A20 = some ⟨b,o,none⟩)∧((0 : Int)≤1∧(1 : Int) < (l20 : Nat)) ∧
 ∃ cs26,Seg 3 cs26∧Sy.ReadAt k31.cell? A20 (Int.toNat 1*3+0) 3 (agg cs26) ∧
 Cl k31 48 #[agg cs26] fun k33 r32=>∃ s27,some (Value.string s27) = some r32 ∧
 ((ByteArray.toList s27 == ByteArray.toList ⟨#[51,48]⟩) = true →
 ((∃ b o,A21 = some ⟨b,o,none⟩)∧((0 : Int)≤0∧(0 : Int) < (l21 : Nat)) ∧
 ∃ cs28,Seg 3 cs28∧Sy.ReadAt k33.cell? A21 (Int.toNat 0*3+0) 3 (agg cs28) ∧
 Cl k33 48 #[agg cs28] fun k35 r34=>∃ s29,some (Value.string s29) = some r34 ∧
 ∀ k36,Up k35 k36→R k36 (bool (ByteArray.toList s29 == ByteArray.toList ⟨#[49]⟩)))) ∧
 ((ByteArray.toList s27 == ByteArray.toList ⟨#[51,48]⟩) = false →
 (∀ k37,Up k33 k37→R k37 (bool false))))) ∧
 ((ByteArray.toList s25 == ByteArray.toList ⟨#[56,48]⟩) = false →
 (∀ k38,Up k31 k38→R k38 (bool false))))) ∧
 ((((l21 : Nat) : Int) == 2) = false →
 (∀ k39,Up k29 k39→R k39 (bool false)))))) ∧
 ((((l20 : Nat) : Int) == 2) = false →
 (∀ k40,Up k29 k40→R k40 (bool false)))))) ∧
 (((n23 : Int) == 0) = false →
 (∀ k41,Up k29 k41→R k41 (bool false))))) ∧
 (((n16 : Int) == 0) = false →
 (∀ k42,Up k29 k42→R k42 (bool false)))) :
   CallsG Tryz.prog 11 #[] k R :=
  aA (cfg:={ opq:=[71] }) (args:=[]) (vals:=[]) (kinds:=[]) (by kernel_rfl) trivial (by kernel_rfl) (by kernel_rfl) h
end Go.Proofs.YtampehijkiencaaGreat

namespace Go.Proofs.YtampehijkiencaaGreat
open Go.RowKit
open Value (agg slice int bool tuple)
open Sy (Up Sees CallsG Seg aA)
set_option maxRecDepth 100000
variable {k : World} {R : World→Value→Prop}
theorem aOr {n0 n1 : Int}
 (h : (((n1 : Int) == 0) = true →
 (Cl k 47 #[int .i64 n0] fun k1 r0=>Gt 3 r0 fun cs2 =>
 ∀ k2,Up k1 k2→R k2 (agg cs2))) ∧
 (((n1 : Int) == 0) = false →
 (Cl k 57 #[int .i64 n0,int .i64 n1] fun k4 r3=>∃ cs2,Seg 3 cs2∧∃ n3,some (tuple #[agg cs2,int .i64 n3]) = some r3 ∧
 ∀ k5,Up k4 k5→R k5 (agg cs2)))) :
  CallsG Tryz.prog 19 #[agg #[int .i64 n0,int .i64 n1]] k R :=
  aA (cfg:={ opq:=[71] }) (args:=[.agg [.var 0,.var 1]]) (vals:=[int .i64 n0,int .i64 n1]) (kinds:=[.int .i64,.int .i64]) (by kernel_rfl) ⟨⟨_,rfl⟩,⟨⟨_,rfl⟩,trivial⟩⟩ (by kernel_rfl) (by kernel_rfl) h
end Go.Proofs.YtampehijkiencaaGreat

namespace Go.Proofs.YtampehijkiencaaGreat
open Go.RowKit Num W32
open Sy (Up Sees CallsG)
section
variable {k k' : World} {R : World→Value→Prop} {x y q : Rat} {K L : Nat} {cs cs' : Array Value} {g : Bool} {A A' : Option Addr} {l c l' c' : Nat}
theorem qR {n d : Int} (hn : In64 n) (hd : In64 d) (C : ∀ k' ds,Up k k'→RatV k' ds (ofQ n d) 1→R k' (.agg ds)) : Cl k 19 #[.agg #[.int .i64 n,.int .i64 d]] R:=by
 intro k0 u0
 refine aOr ⟨fun hb=>?_,fun hb=>?_⟩
 ·have e : d = 0:=eq_of_beq hb
  refine gC hn.1 hn.2 ?_
  intro k1 c1 u1 h1
  refine ⟨c1,h1.seg,rfl,?_⟩
  intro k2 u2
  refine C k2 c1 (u0.trans (u1.trans u2)) ?_
  unfold ofQ
  rw [if_pos e]
  exact h1.up u2
 ·have e : ¬ d = 0:=by simpa using hb
  refine aNs hn.1 hn.2 hd.1 hd.2 ?_
  intro k1 c1 u1 h1
  refine ⟨c1,h1.seg,_,rfl,?_⟩
  intro k2 u2
  refine C k2 c1 (u0.trans (u1.trans u2)) ?_
  unfold ofQ
  rw [if_neg e]
  exact h1.up u2
end
end Go.Proofs.YtampehijkiencaaGreat

namespace Go.Proofs.YtampehijkiencaaGreat
open Go.RowKit
open Value (agg slice int bool tuple)
open Sy (Up Sees CallsG Seg aA)
set_option maxRecDepth 100000
variable {k : World} {R : World→Value→Prop}
theorem aCd {cs0 cs1 : Array Value} (hcs0 : Seg 3 cs0) (hcs1 : Seg 3 cs1)
 (h : Cl k 23 #[agg cs0,agg cs1] fun k1 r0=>∃ n2,some (int .i64 n2) = some r0 ∧
 ∀ k2,Up k1 k2→R k2 (bool (decide ((n2 : Int) < 0)))) :
  CallsG Tryz.prog 69 #[agg cs0,agg cs1] k R :=
  aA (cfg:={ opq:=[71] }) (args:=[.agg [.seg 0 3],.agg [.seg 1 3]]) (vals:=[agg cs0,agg cs1]) (kinds:=[.seg 3,.seg 3]) (by kernel_rfl) ⟨⟨cs0,rfl,hcs0⟩,⟨⟨cs1,rfl,hcs1⟩,trivial⟩⟩ (by kernel_rfl) (by kernel_rfl) h
theorem aKv {cs0 : Array Value} (hcs0 : Seg 3 cs0)
 (h : Cl k 58 #[agg cs0] fun k1 r0=>∃ n1,some (int .i64 n1) = some r0 ∧
 ∀ k2,Up k1 k2→R k2 (bool (decide ((n1 : Int) < 0)))) :
  CallsG Tryz.prog 75 #[agg cs0] k R :=
  aA (cfg:={ opq:=[71] }) (args:=[.agg [.seg 0 3]]) (vals:=[agg cs0]) (kinds:=[.seg 3]) (by kernel_rfl) ⟨⟨cs0,rfl,hcs0⟩,trivial⟩ (by kernel_rfl) (by kernel_rfl) h
theorem aKp {cs0 : Array Value} (hcs0 : Seg 3 cs0)
 (h : Cl k 58 #[agg cs0] fun k1 r0=>∃ n1,some (int .i64 n1) = some r0 ∧
 ∀ k2,Up k1 k2→R k2 (bool (decide ((n1 : Int) > 0)))) :
  CallsG Tryz.prog 90 #[agg cs0] k R :=
  aA (cfg:={ opq:=[71] }) (args:=[.agg [.seg 0 3]]) (vals:=[agg cs0]) (kinds:=[.seg 3]) (by kernel_rfl) ⟨⟨cs0,rfl,hcs0⟩,trivial⟩ (by kernel_rfl) (by kernel_rfl) h
theorem aJw {cs0 cs1 : Array Value} (hcs0 : Seg 3 cs0) (hcs1 : Seg 3 cs1)
 (h : Cl k 76 #[agg cs0,agg cs1] fun k1 r0=>∃ cs2,Seg 3 cs2∧∃ n3,some (tuple #[agg cs2,int .i64 n3]) = some r0 ∧
 ∀ k2,Up k1 k2→R k2 (agg cs2)) :
  CallsG Tryz.prog 92 #[agg cs0,agg cs1] k R :=
  aA (cfg:={ opq:=[71] }) (args:=[.agg [.seg 0 3],.agg [.seg 1 3]]) (vals:=[agg cs0,agg cs1]) (kinds:=[.seg 3,.seg 3]) (by kernel_rfl) ⟨⟨cs0,rfl,hcs0⟩,⟨⟨cs1,rfl,hcs1⟩,trivial⟩⟩ (by kernel_rfl) (by kernel_rfl) h
theorem aEo {A0 : Option Addr} {l0 c0 : Nat}
 (h : true = true∧(((decide (((l0 : Nat) : Int) < 1)) = true →
 (∀ k0,Up k k0→R k0 (int .i64 4))) ∧
 ((decide (((l0 : Nat) : Int) < 1)) = false →
 (true = true∧(((decide (((l0 : Nat) : Int) > 16)) = true →
 (∀ k1,Up k k1→R k1 (int .i64 4))) ∧
 ((decide (((l0 : Nat) : Int) > 16)) = false →
 (true = true∧(∃ I2 : Nat→World→List Value→Prop,(∃ m2,∀ k2,Up k k2→I2 m2 k2 [int .i64 0]) ∧
 ∀ m2 k2 vs2,Up k k2→I2 m2 k2 vs2→∃ n1,some [int .i64 n1] = some vs2 ∧
 ((decide ((n1 : Int) < (l0 : Nat))) = true →
 ((∃ b o,A0 = some ⟨b,o,none⟩)∧((0 : Int)≤n1∧(n1 : Int) < (l0 : Nat)) ∧
 ∃ cs2,Seg 3 cs2∧∃ cs3,Seg 3 cs3∧Sy.ReadAt k2.cell? A0 (Int.toNat n1*6+0) 6 (agg (cs2.toList ++ (cs3.toList ++ ([]))).toArray) ∧
 ((decide ((n1 : Int) > 0)) = true →
 ((∃ b o,A0 = some ⟨b,o,none⟩)∧((0 : Int)≤(IntKind.wrap .i64 (n1 - 1))∧((IntKind.wrap .i64 (n1 - 1)) : Int) < (l0 : Nat)) ∧
 (∃ b o,A0 = some ⟨b,o,none⟩)∧((0 : Int)≤(IntKind.wrap .i64 (n1 - 1))∧((IntKind.wrap .i64 (n1 - 1)) : Int) < (l0 : Nat)) ∧
 ∃ cs4,Seg 3 cs4∧Sy.ReadAt k2.cell? A0 (Int.toNat (IntKind.wrap .i64 (n1 - 1))*6+0) 3 (agg cs4) ∧
 Cl k2 69 #[agg cs4,agg cs2] fun k4 r3=>∃ b5,some (bool b5) = some r3 ∧
 ((!b5) = true →
 (∀ k5,Up k4 k5→R k5 (int .i64 7))) ∧
 ((!b5) = false →
 (Cl k4 75 #[agg cs3] fun k7 r6=>∃ b6,some (bool b6) = some r6 ∧
 (b6 = true →
 (∀ k8,Up k7 k8→R k8 (int .i64 1))) ∧
 (b6 = false →
 (((decide ((n1 : Int) > 0)) = true →
 ((∃ b o,A0 = some ⟨b,o,none⟩)∧((0 : Int)≤(IntKind.wrap .i64 (n1 - 1))∧((IntKind.wrap .i64 (n1 - 1)) : Int) < (l0 : Nat)) ∧
 (∃ b o,A0 = some ⟨b,o,none⟩)∧((0 : Int)≤(IntKind.wrap .i64 (n1 - 1))∧((IntKind.wrap .i64 (n1 - 1)) : Int) < (l0 : Nat)) ∧
 ∃ cs7,Seg 3 cs7∧Sy.ReadAt k7.cell? A0 (Int.toNat (IntKind.wrap .i64 (n1 - 1))*6+3) 3 (agg cs7) ∧
 Cl k7 69 #[agg cs3,agg cs7] fun k10 r9=>∃ b8,some (bool b8) = some r9 ∧
 (b8 = true →
 (∀ k11,Up k10 k11→R k11 (int .i64 7))) ∧
 (b8 = false →
 (∀ k12,Up k10 k12→∃ m,m < m2∧I2 m k12 [int .i64 (IntKind.wrap .i64 (n1+1))])))) ∧
 ((decide ((n1 : Int) > 0)) = false →
 (∀ k13,Up k7 k13→∃ m,m < m2∧I2 m k13 [int .i64 (IntKind.wrap .i64 (n1+1))])))))))) ∧
 ((decide ((n1 : Int) > 0)) = false →
 (Cl k2 75 #[agg cs3] fun k15 r14=>∃ b4,some (bool b4) = some r14 ∧
 (b4 = true →
 (∀ k16,Up k15 k16→R k16 (int .i64 1))) ∧
 (b4 = false →
 (((decide ((n1 : Int) > 0)) = true →
 ((∃ b o,A0 = some ⟨b,o,none⟩)∧((0 : Int)≤(IntKind.wrap .i64 (n1 - 1))∧((IntKind.wrap .i64 (n1 - 1)) : Int) < (l0 : Nat)) ∧
 (∃ b o,A0 = some ⟨b,o,none⟩)∧((0 : Int)≤(IntKind.wrap .i64 (n1 - 1))∧((IntKind.wrap .i64 (n1 - 1)) : Int) < (l0 : Nat)) ∧
 ∃ cs5,Seg 3 cs5∧Sy.ReadAt k15.cell? A0 (Int.toNat (IntKind.wrap .i64 (n1 - 1))*6+3) 3 (agg cs5) ∧
 Cl k15 69 #[agg cs3,agg cs5] fun k18 r17=>∃ b6,some (bool b6) = some r17 ∧
 (b6 = true →
 (∀ k19,Up k18 k19→R k19 (int .i64 7))) ∧
 (b6 = false →
 (∀ k20,Up k18 k20→∃ m,m < m2∧I2 m k20 [int .i64 (IntKind.wrap .i64 (n1+1))])))) ∧
 ((decide ((n1 : Int) > 0)) = false →
 (∀ k21,Up k15 k21→∃ m,m < m2∧I2 m k21 [int .i64 (IntKind.wrap .i64 (n1+1))])))))))) ∧
 ((decide ((n1 : Int) < (l0 : Nat))) = false →
 (∀ k22,Up k2 k22→R k22 (int .i64 0))))))))))) :
   CallsG Tryz.prog 59 #[slice A0 l0 c0] k R :=
  aA (cfg:={ opq:=[71],loops:=[(0,[.tmp 15 false [.int .i64]])] }) (args:=[.one (.var 0)]) (vals:=[slice A0 l0 c0]) (kinds:=[.slice]) (by kernel_rfl) ⟨⟨_,_,_,rfl⟩,trivial⟩ (by kernel_rfl) (by kernel_rfl) h
theorem aKa {A0 : Option Addr} {l0 c0 : Nat} {A1 : Option Addr} {l1 c1 : Nat} {cs2 cs3 : Array Value} (hcs2 : Seg 3 cs2) (hcs3 : Seg 3 cs3)
 (h : Cl k 59 #[slice A0 l0 c0] fun k1 r0=>∃ n4,some (int .i64 n4) = some r0 ∧
 (((n4 : Int) != 0) = true →
 (∀ k2,Up k1 k2→R k2 (int .i64 n4))) ∧
 (((n4 : Int) != 0) = false →
 (Cl k1 59 #[slice A1 l1 c1] fun k4 r3=>∃ n5,some (int .i64 n5) = some r3 ∧
 (((n5 : Int) != 0) = true →
 (∀ k5,Up k4 k5→R k5 (int .i64 n5))) ∧
 (((n5 : Int) != 0) = false →
 (Cl k4 90 #[agg cs2] fun k7 r6=>∃ b6,some (bool b6) = some r6 ∧
 ((!b6) = true →
 (∀ k8,Up k7 k8→R k8 (int .i64 1))) ∧
 ((!b6) = false →
 (Cl k7 90 #[agg cs3] fun k10 r9=>∃ b7,some (bool b7) = some r9 ∧
 ((!b7) = true →
 (∀ k11,Up k10 k11→R k11 (int .i64 1))) ∧
 ((!b7) = false →
 (∀ k12,Up k10 k12→R k12 (int .i64 0)))))))))) :
   CallsG Tryz.prog 65 #[agg ((slice A0 l0 c0) :: ((slice A1 l1 c1) :: (cs2.toList ++ (cs3.toList ++ ([]))))).toArray] k R :=
  aA (cfg:={ opq:=[71] }) (args:=[.agg [.var 0,.var 1,.seg 2 3,.seg 3 3]]) (vals:=[slice A0 l0 c0,slice A1 l1 c1,agg cs2,agg cs3]) (kinds:=[.slice,.slice,.seg 3,.seg 3]) (by kernel_rfl) ⟨⟨_,_,_,rfl⟩,⟨⟨_,_,_,rfl⟩,⟨⟨cs2,rfl,hcs2⟩,⟨⟨cs3,rfl,hcs3⟩,trivial⟩⟩⟩⟩ (by kernel_rfl) (by kernel_rfl) h
theorem aIw {A0 : Option Addr} {l0 c0 : Nat} {A1 : Option Addr} {l1 c1 : Nat} {A2 : Option Addr} {l2 c2 : Nat} {n3 : Int} {cs4 cs5 cs6 : Array Value} (hcs4 : Seg 3 cs4) (hcs5 : Seg 3 cs5) (hcs6 : Seg 3 cs6)
 (h : ((decide ((n3 : Int) < 0)) = true →
 (∀ k0,Up k k0→R k0 (int .i64 1))) ∧
 ((decide ((n3 : Int) < 0)) = false →
 (true = true∧(((decide ((n3 : Int) ≥ (l0 : Nat))) = true →
 (∀ k1,Up k k1→R k1 (int .i64 1))) ∧
 ((decide ((n3 : Int) ≥ (l0 : Nat))) = false →
 (Cl k 90 #[agg cs4] fun k3 r2=>∃ b7,some (bool b7) = some r2 ∧
 ((!b7) = true →
 (∀ k4,Up k3 k4→R k4 (int .i64 1))) ∧
 ((!b7) = false →
 (Cl k3 75 #[agg cs5] fun k6 r5=>∃ b8,some (bool b8) = some r5 ∧
 (b8 = true →
 (∀ k7,Up k6 k7→R k7 (int .i64 1))) ∧
 (b8 = false →
 (Cl k6 75 #[agg cs6] fun k9 r8=>∃ b9,some (bool b9) = some r8 ∧
 (b9 = true →
 (∀ k10,Up k9 k10→R k10 (int .i64 1))) ∧
 (b9 = false →
 (∀ k11,Up k9 k11→R k11 (int .i64 0))))))))))))) :
   CallsG Tryz.prog 66 #[agg #[slice A0 l0 c0,slice A1 l1 c1,slice A2 l2 c2],agg ((int .i64 n3) :: (cs4.toList ++ (cs5.toList ++ (cs6.toList ++ ([]))))).toArray] k R :=
  aA (cfg:={ opq:=[71] }) (args:=[.agg [.var 0,.var 1,.var 2],.agg [.var 3,.seg 4 3,.seg 5 3,.seg 6 3]]) (vals:=[slice A0 l0 c0,slice A1 l1 c1,slice A2 l2 c2,int .i64 n3,agg cs4,agg cs5,agg cs6]) (kinds:=[.slice,.slice,.slice,.int .i64,.seg 3,.seg 3,.seg 3]) (by kernel_rfl) ⟨⟨_,_,_,rfl⟩,⟨⟨_,_,_,rfl⟩,⟨⟨_,_,_,rfl⟩,⟨⟨_,rfl⟩,⟨⟨cs4,rfl,hcs4⟩,⟨⟨cs5,rfl,hcs5⟩,⟨⟨cs6,rfl,hcs6⟩,trivial⟩⟩⟩⟩⟩⟩⟩ (by kernel_rfl) (by kernel_rfl) h
theorem aEw {A0 : Option Addr} {l0 c0 : Nat} {cs1 : Array Value} (hcs1 : Seg 3 cs1)
 (h : true = true∧(∃ I0 : Nat→World→List Value→Prop,(∃ m0,∀ k0,Up k k0→I0 m0 k0 [int .i64 0,agg #[bool false,slice none 0 0,slice none 0 0]]) ∧
 ∀ m0 k0 vs0,Up k k0→I0 m0 k0 vs0→∃ n2,∃ cs3,Seg 3 cs3∧some [int .i64 n2,agg cs3] = some vs0 ∧
 ((decide ((n2 : Int) < (l0 : Nat))) = true →
 ((∃ b o,A0 = some ⟨b,o,none⟩)∧((0 : Int)≤n2∧(n2 : Int) < (l0 : Nat)) ∧
 ∃ cs4,Seg 3 cs4∧∃ cs5,Seg 3 cs5∧Sy.ReadAt k0.cell? A0 (Int.toNat n2*6+0) 6 (agg (cs4.toList ++ (cs5.toList ++ ([]))).toArray) ∧
 Cl k0 69 #[agg cs1,agg cs4] fun k2 r1=>∃ b6,some (bool b6) = some r1 ∧
 (b6 = true →
 (∀ k3,Up k2 k3→R k3 (agg cs3))) ∧
 (b6 = false →
 (∀ k4,Up k2 k4→∃ m,m < m0∧I0 m k4 [int .i64 (IntKind.wrap .i64 (n2+1)),agg cs5])))) ∧
 ((decide ((n2 : Int) < (l0 : Nat))) = false →
 (∀ k5,Up k0 k5→R k5 (agg cs3))))) :
   CallsG Tryz.prog 60 #[slice A0 l0 c0,agg cs1] k R :=
  aA (cfg:={ opq:=[71],loops:=[(0,[.tmp 10 false [.int .i64],.blk 2 [.seg 3]])] }) (args:=[.one (.var 0),.agg [.seg 1 3]]) (vals:=[slice A0 l0 c0,agg cs1]) (kinds:=[.slice,.seg 3]) (by kernel_rfl) ⟨⟨_,_,_,rfl⟩,⟨⟨cs1,rfl,hcs1⟩,trivial⟩⟩ (by kernel_rfl) (by kernel_rfl) h
theorem aCj {A0 : Option Addr} {l0 c0 : Nat} {A1 : Option Addr} {l1 c1 : Nat} {A2 : Option Addr} {l2 c2 : Nat}
 (h : true = true∧(((decide (((l0 : Nat) : Int) < 1)) = true →
 (∀ k0,Up k k0→R k0 (int .i64 4))) ∧
 ((decide (((l0 : Nat) : Int) < 1)) = false →
 (true = true∧(((decide (((l0 : Nat) : Int) > 8)) = true →
 (∀ k1,Up k k1→R k1 (int .i64 4))) ∧
 ((decide (((l0 : Nat) : Int) > 8)) = false →
 (true = true∧(((decide (((l1 : Nat) : Int) < 1)) = true →
 (∀ k2,Up k k2→R k2 (int .i64 4))) ∧
 ((decide (((l1 : Nat) : Int) < 1)) = false →
 (true = true∧(((decide (((l1 : Nat) : Int) > 24)) = true →
 (∀ k3,Up k k3→R k3 (int .i64 4))) ∧
 ((decide (((l1 : Nat) : Int) > 24)) = false →
 (true = true∧(((decide (((l2 : Nat) : Int) > 64)) = true →
 (∀ k4,Up k k4→R k4 (int .i64 4))) ∧
 ((decide (((l2 : Nat) : Int) > 64)) = false →
 (true = true∧(∃ I5 : Nat→World→List Value→Prop,(∃ m5,∀ k5,Up k k5→I5 m5 k5 [int .i64 0]) ∧
 ∀ m5 k5 vs5,Up k k5→I5 m5 k5 vs5→∃ n3,some [int .i64 n3] = some vs5 ∧
 ((decide ((n3 : Int) < (l0 : Nat))) = true →
 ((∃ b o,A0 = some ⟨b,o,none⟩)∧((0 : Int)≤n3∧(n3 : Int) < (l0 : Nat)) ∧
 ∃ A4 l4 c4,∃ A5 l5 c5,∃ cs6,Seg 3 cs6∧∃ cs7,Seg 3 cs7∧Sy.ReadAt k5.cell? A0 (Int.toNat n3*8+0) 8 (agg ((slice A4 l4 c4) :: ((slice A5 l5 c5) :: (cs6.toList ++ (cs7.toList ++ ([]))))).toArray) ∧
 Cl k5 65 #[agg ((slice A4 l4 c4) :: ((slice A5 l5 c5) :: (cs6.toList ++ (cs7.toList ++ ([]))))).toArray] fun k7 r6=>∃ n8,some (int .i64 n8) = some r6 ∧
 (((n8 : Int) != 0) = true →
 (∀ k8,Up k7 k8→R k8 (int .i64 n8))) ∧
 (((n8 : Int) != 0) = false →
 (∀ k9,Up k7 k9→∃ m,m < m5∧I5 m k9 [int .i64 (IntKind.wrap .i64 (n3+1))])))) ∧
 ((decide ((n3 : Int) < (l0 : Nat))) = false →
 (true = true∧(∃ I10 : Nat→World→List Value→Prop,(∃ m10,∀ k10,Up k5 k10→I10 m10 k10 [int .i64 0]) ∧
 ∀ m10 k10 vs10,Up k5 k10→I10 m10 k10 vs10→∃ n4,some [int .i64 n4] = some vs10 ∧
 ((decide ((n4 : Int) < (l1 : Nat))) = true →
 ((∃ b o,A1 = some ⟨b,o,none⟩)∧((0 : Int)≤n4∧(n4 : Int) < (l1 : Nat)) ∧
 ∃ n5,∃ cs6,Seg 3 cs6∧∃ cs7,Seg 3 cs7∧∃ cs8,Seg 3 cs8∧Sy.ReadAt k10.cell? A1 (Int.toNat n4*10+0) 10 (agg ((int .i64 n5) :: (cs6.toList ++ (cs7.toList ++ (cs8.toList ++ ([]))))).toArray) ∧
 Cl k10 66 #[agg #[slice A0 l0 c0,slice A1 l1 c1,slice A2 l2 c2],agg ((int .i64 n5) :: (cs6.toList ++ (cs7.toList ++ (cs8.toList ++ ([]))))).toArray] fun k12 r11=>∃ n9,some (int .i64 n9) = some r11 ∧
 (((n9 : Int) != 0) = true →
 (∀ k13,Up k12 k13→R k13 (int .i64 n9))) ∧
 (((n9 : Int) != 0) = false →
 (∀ k14,Up k12 k14→∃ m,m < m10∧I10 m k14 [int .i64 (IntKind.wrap .i64 (n4+1))])))) ∧
 ((decide ((n4 : Int) < (l1 : Nat))) = false →
 (Cl k10 67 #[agg #[slice A0 l0 c0,slice A1 l1 c1,slice A2 l2 c2]] fun k16 r15=>∃ n5,some (int .i64 n5) = some r15 ∧
 (((n5 : Int) != 0) = true →
 (∀ k17,Up k16 k17→R k17 (int .i64 n5))) ∧
 (((n5 : Int) != 0) = false →
 (Cl k16 68 #[agg #[slice A0 l0 c0,slice A1 l1 c1,slice A2 l2 c2]] fun k19 r18=>∃ M6 : Nat,some (Value.map (some M6)) = some r18 ∧
 true = true∧(∃ I20 : Nat→World→List Value→Prop,(∃ m20,∀ k20,Up k19 k20→I20 m20 k20 [int .i64 0]) ∧
 ∀ m20 k20 vs20,Up k19 k20→I20 m20 k20 vs20→∃ n7,some [int .i64 n7] = some vs20 ∧
 ((decide ((n7 : Int) < (l1 : Nat))) = true →
 ((∃ b o,A1 = some ⟨b,o,none⟩)∧((0 : Int)≤n7∧(n7 : Int) < (l1 : Nat)) ∧
 ∃ n8,∃ cs9,Seg 3 cs9∧∃ cs10,Seg 3 cs10∧∃ cs11,Seg 3 cs11∧Sy.ReadAt k20.cell? A1 (Int.toNat n7*10+0) 10 (agg ((int .i64 n8) :: (cs9.toList ++ (cs10.toList ++ (cs11.toList ++ ([]))))).toArray) ∧
 Cl k20 39 #[agg cs10,agg cs11] fun k22 r21=>Gt 3 r21 fun cs12 =>
 ∃ A13 l13 c13,Sy.LookAt Tryz.prog k22 144 M6 (int .i64 n7) (slice A13 l13 c13) ∧
 true = true∧(∃ I23 : Nat→World→List Value→Prop,(∃ m23,∀ k23,Up k22 k23→I23 m23 k23 [int .i64 0,agg cs12]) ∧
 ∀ m23 k23 vs23,Up k22 k23→I23 m23 k23 vs23→∃ n14,∃ cs15,Seg 3 cs15∧some [int .i64 n14,agg cs15] = some vs23 ∧
 ((decide ((n14 : Int) < (l13 : Nat))) = true →
 ((∃ b o,A13 = some ⟨b,o,none⟩)∧((0 : Int)≤n14∧(n14 : Int) < (l13 : Nat)) ∧
 ∃ n16,∃ n17,∃ cs18,Seg 3 cs18∧Sy.ReadAt k23.cell? A13 (Int.toNat n14*5+0) 5 (agg ((int .i64 n16) :: ((int .i64 n17) :: (cs18.toList ++ ([])))).toArray) ∧
 Cl k23 39 #[agg cs15,agg cs18] fun k25 r24=>Gt 3 r24 fun cs19 =>
 ∀ k26,Up k25 k26→∃ m,m < m23∧I23 m k26 [int .i64 (IntKind.wrap .i64 (n14+1)),agg cs19])) ∧
 ((decide ((n14 : Int) < (l13 : Nat))) = false →
 (Cl k23 69 #[agg cs9,agg cs15] fun k28 r27=>∃ b16,some (bool b16) = some r27 ∧
 (b16 = true →
 (∀ k29,Up k28 k29→R k29 (int .i64 60))) ∧
 (b16 = false →
 (∀ k30,Up k28 k30→∃ m,m < m20∧I20 m k30 [int .i64 (IntKind.wrap .i64 (n7+1))]))))))) ∧
 ((decide ((n7 : Int) < (l1 : Nat))) = false →
 (∀ k31,Up k20 k31→R k31 (int .i64 0)))))))))))))))))))))))))))) :
   CallsG Tryz.prog 29 #[agg #[slice A0 l0 c0,slice A1 l1 c1,slice A2 l2 c2]] k R :=
  aA (cfg:={ opq:=[71],loops:=[(0,[.tmp 47 false [.int .i64]]),(2,[.tmp 60 false [.int .i64]]),(4,[.tmp 81 false [.int .i64]]),(6,[.tmp 95 false [.int .i64],.blk 2 [.seg 3]])] }) (args:=[.agg [.var 0,.var 1,.var 2]]) (vals:=[slice A0 l0 c0,slice A1 l1 c1,slice A2 l2 c2]) (kinds:=[.slice,.slice,.slice]) (by kernel_rfl) ⟨⟨_,_,_,rfl⟩,⟨⟨_,_,_,rfl⟩,⟨⟨_,_,_,rfl⟩,trivial⟩⟩⟩ (by kernel_rfl) (by kernel_rfl) h
theorem aEl {A0 : Option Addr} {l0 c0 : Nat} {A1 : Option Addr} {l1 c1 : Nat} {A2 : Option Addr} {l2 c2 : Nat} {A3 : Option Addr} {l3 c3 : Nat} {A4 : Option Addr} {l4 c4 : Nat} {A5 : Option Addr} {l5 c5 : Nat}
 (h : true = true∧(true = true∧(((((l3 : Nat) : Int) != (l1 : Nat)) = true →
 (∀ k0,Up k k0→R k0 (int .i64 4))) ∧
 ((((l3 : Nat) : Int) != (l1 : Nat)) = false →
 (true = true∧(((((l4 : Nat) : Int) != (l1 : Nat)) = true →
 (∀ k1,Up k k1→R k1 (int .i64 4))) ∧
 ((((l4 : Nat) : Int) != (l1 : Nat)) = false →
 (true = true∧(((((l5 : Nat) : Int) != (l1 : Nat)) = true →
 (∀ k2,Up k k2→R k2 (int .i64 4))) ∧
 ((((l5 : Nat) : Int) != (l1 : Nat)) = false →
 (∀ k3,Up k k3→R k3 (int .i64 0)))))))))))) :
   CallsG Tryz.prog 97 #[agg #[slice A0 l0 c0,slice A1 l1 c1,slice A2 l2 c2],agg #[slice A3 l3 c3,slice A4 l4 c4,slice A5 l5 c5]] k R :=
  aA (cfg:={ opq:=[71] }) (args:=[.agg [.var 0,.var 1,.var 2],.agg [.var 3,.var 4,.var 5]]) (vals:=[slice A0 l0 c0,slice A1 l1 c1,slice A2 l2 c2,slice A3 l3 c3,slice A4 l4 c4,slice A5 l5 c5]) (kinds:=[.slice,.slice,.slice,.slice,.slice,.slice]) (by kernel_rfl) ⟨⟨_,_,_,rfl⟩,⟨⟨_,_,_,rfl⟩,⟨⟨_,_,_,rfl⟩,⟨⟨_,_,_,rfl⟩,⟨⟨_,_,_,rfl⟩,⟨⟨_,_,_,rfl⟩,trivial⟩⟩⟩⟩⟩⟩ (by kernel_rfl) (by kernel_rfl) h
theorem aGd {A0 : Option Addr} {l0 c0 : Nat} {A1 : Option Addr} {l1 c1 : Nat} {A2 : Option Addr} {l2 c2 : Nat} {A3 : Option Addr} {l3 c3 : Nat} {A4 : Option Addr} {l4 c4 : Nat} {A5 : Option Addr} {l5 c5 : Nat}
 (h : Cl k 29 #[agg #[slice A0 l0 c0,slice A1 l1 c1,slice A2 l2 c2]] fun k1 r0=>∃ n6,some (int .i64 n6) = some r0 ∧
 (((n6 : Int) != 0) = true →
 (∀ k2,Up k1 k2→R k2 (int .i64 n6))) ∧
 (((n6 : Int) != 0) = false →
 (Cl k1 97 #[agg #[slice A0 l0 c0,slice A1 l1 c1,slice A2 l2 c2],agg #[slice A3 l3 c3,slice A4 l4 c4,slice A5 l5 c5]] fun k4 r3=>∃ n7,some (int .i64 n7) = some r3 ∧
 ∀ k5,Up k4 k5→R k5 (int .i64 n7)))) :
  CallsG Tryz.prog 49 #[agg #[slice A0 l0 c0,slice A1 l1 c1,slice A2 l2 c2],agg #[slice A3 l3 c3,slice A4 l4 c4,slice A5 l5 c5]] k R :=
  aA (cfg:={ opq:=[71] }) (args:=[.agg [.var 0,.var 1,.var 2],.agg [.var 3,.var 4,.var 5]]) (vals:=[slice A0 l0 c0,slice A1 l1 c1,slice A2 l2 c2,slice A3 l3 c3,slice A4 l4 c4,slice A5 l5 c5]) (kinds:=[.slice,.slice,.slice,.slice,.slice,.slice]) (by kernel_rfl) ⟨⟨_,_,_,rfl⟩,⟨⟨_,_,_,rfl⟩,⟨⟨_,_,_,rfl⟩,⟨⟨_,_,_,rfl⟩,⟨⟨_,_,_,rfl⟩,⟨⟨_,_,_,rfl⟩,trivial⟩⟩⟩⟩⟩⟩ (by kernel_rfl) (by kernel_rfl) h
theorem aJq {A0 : Option Addr} {l0 c0 : Nat} {A1 : Option Addr} {l1 c1 : Nat} {A2 : Option Addr} {l2 c2 : Nat}
 (h : Cl k 68 #[agg #[slice A0 l0 c0,slice A1 l1 c1,slice A2 l2 c2]] fun k1 r0=>∃ M3 : Nat,some (Value.map (some M3)) = some r0 ∧
 ∀ k2,Up k1 k2→R k2 (agg #[slice A0 l0 c0,slice A1 l1 c1,slice A2 l2 c2,Value.map (some M3)])) :
  CallsG Tryz.prog 50 #[agg #[slice A0 l0 c0,slice A1 l1 c1,slice A2 l2 c2]] k R :=
  aA (cfg:={ opq:=[71] }) (args:=[.agg [.var 0,.var 1,.var 2]]) (vals:=[slice A0 l0 c0,slice A1 l1 c1,slice A2 l2 c2]) (kinds:=[.slice,.slice,.slice]) (by kernel_rfl) ⟨⟨_,_,_,rfl⟩,⟨⟨_,_,_,rfl⟩,⟨⟨_,_,_,rfl⟩,trivial⟩⟩⟩ (by kernel_rfl) (by kernel_rfl) h
theorem aCv {n0 n1 : Int} {cs2 : Array Value} {n3 : Int} (hcs2 : Seg 3 cs2)
 (h : ∀ k0,Up k k0→R k0 (int .i64 (IntKind.wrap .i64 ((IntKind.wrap .i64 (n0+n1)) - n3)))) :
 CallsG Tryz.prog 99 #[agg ((int .i64 n0) :: ((int .i64 n1) :: (cs2.toList ++ ([])))).toArray,int .i64 n3] k R :=
 aA (cfg:={ opq:=[71] }) (args:=[.agg [.var 0,.var 1,.seg 2 3],.one (.var 3)]) (vals:=[int .i64 n0,int .i64 n1,agg cs2,int .i64 n3]) (kinds:=[.int .i64,.int .i64,.seg 3,.int .i64]) (by kernel_rfl) ⟨⟨_,rfl⟩,⟨⟨_,rfl⟩,⟨⟨cs2,rfl,hcs2⟩,⟨⟨_,rfl⟩,trivial⟩⟩⟩⟩ (by kernel_rfl) (by kernel_rfl) h
theorem aIn {cs0 : Array Value} (hcs0 : Seg 3 cs0)
 (h : ∀ k0,Up k k0→R k0 (agg cs0)) :
 CallsG Tryz.prog 53 #[agg cs0] k R :=
 aA (cfg:={ opq:=[71] }) (args:=[.agg [.seg 0 3]]) (vals:=[agg cs0]) (kinds:=[.seg 3]) (by kernel_rfl) ⟨⟨cs0,rfl,hcs0⟩,trivial⟩ (by kernel_rfl) (by kernel_rfl) h
theorem aId {A0 : Option Addr} {l0 c0 : Nat} {A1 : Option Addr} {l1 c1 : Nat} {A2 : Option Addr} {l2 c2 : Nat} {M3 : Nat} {A4 : Option Addr} {l4 c4 : Nat} {A5 : Option Addr} {l5 c5 : Nat} {A6 : Option Addr} {l6 c6 : Nat} {cs7 cs8 : Array Value} (hcs7 : Seg 3 cs7) (hcs8 : Seg 3 cs8)
 (h : true = true∧(∃ I0 : Nat→World→List Value→Prop,(∃ m0,∀ k0,Up k k0→I0 m0 k0 [int .i64 0,tuple #[slice none 0 0,agg #[]],tuple #[slice none 0 0,agg #[]],tuple #[slice none 0 0,agg #[]]]) ∧
 ∀ m0 k0 vs0,Up k k0→I0 m0 k0 vs0→∃ n9,∃ A10 l10 c10,∃ cs11,Sy.RowC cs11∧∃ A12 l12 c12,∃ cs13,Sy.RowC cs13∧∃ A14 l14 c14,∃ cs15,Sy.RowC cs15∧some [int .i64 n9,tuple #[slice A10 l10 c10,agg cs11],tuple #[slice A12 l12 c12,agg cs13],tuple #[slice A14 l14 c14,agg cs15]] = some vs0 ∧
 ((decide ((n9 : Int) < (l1 : Nat))) = true →
 ((∃ b o,A1 = some ⟨b,o,none⟩)∧((0 : Int)≤n9∧(n9 : Int) < (l1 : Nat)) ∧
 ∃ n16,∃ cs17,Seg 3 cs17∧∃ cs18,Seg 3 cs18∧∃ cs19,Seg 3 cs19∧Sy.ReadAt k0.cell? A1 (Int.toNat n9*10+0) 10 (agg ((int .i64 n16) :: (cs17.toList ++ (cs18.toList ++ (cs19.toList ++ ([]))))).toArray) ∧
 (∃ b o,A4 = some ⟨b,o,none⟩)∧((0 : Int)≤n9∧(n9 : Int) < (l4 : Nat)) ∧
 ∃ cs20,Seg 3 cs20∧Sy.ReadAt k0.cell? A4 (Int.toNat n9*3+0) 3 (agg cs20) ∧
 Cl k0 41 #[agg cs7,agg cs20] fun k2 r1=>Gt 3 r1 fun cs21 =>
 Cl k2 40 #[agg cs18,agg cs21] fun k4 r3=>Gt 3 r3 fun cs22 =>
 Cl k4 41 #[agg cs8,agg cs20] fun k6 r5=>Gt 3 r5 fun cs23 =>
 Cl k6 40 #[agg cs19,agg cs23] fun k8 r7=>Gt 3 r7 fun cs24 =>
 Cl k8 39 #[agg cs22,agg cs24] fun k10 r9=>Gt 3 r9 fun cs25 =>
 ∃ A26 l26 c26,Sy.LookAt Tryz.prog k10 144 M3 (int .i64 n9) (slice A26 l26 c26) ∧
 true = true∧(∃ I11 : Nat→World→List Value→Prop,(∃ m11,∀ k11,Up k10 k11→I11 m11 k11 [int .i64 0,agg cs25]) ∧
 ∀ m11 k11 vs11,Up k10 k11→I11 m11 k11 vs11→∃ n27,∃ cs28,Seg 3 cs28∧some [int .i64 n27,agg cs28] = some vs11 ∧
 ((decide ((n27 : Int) < (l26 : Nat))) = true →
 ((∃ b o,A26 = some ⟨b,o,none⟩)∧((0 : Int)≤n27∧(n27 : Int) < (l26 : Nat)) ∧
 ∃ n29,∃ n30,∃ cs31,Seg 3 cs31∧Sy.ReadAt k11.cell? A26 (Int.toNat n27*5+0) 5 (agg ((int .i64 n29) :: ((int .i64 n30) :: (cs31.toList ++ ([])))).toArray) ∧
 Cl k11 99 #[agg ((int .i64 n29) :: ((int .i64 n30) :: (cs31.toList ++ ([])))).toArray,int .i64 n9] fun k13 r12=>∃ n32,some (int .i64 n32) = some r12 ∧
 (∃ b o,A4 = some ⟨b,o,none⟩)∧((0 : Int)≤n32∧(n32 : Int) < (l4 : Nat)) ∧
 ∃ cs33,Seg 3 cs33∧Sy.ReadAt k13.cell? A4 (Int.toNat n32*3+0) 3 (agg cs33) ∧
 Cl k13 41 #[agg cs33,agg cs20] fun k15 r14=>Gt 3 r14 fun cs34 =>
 Cl k15 40 #[agg cs31,agg cs34] fun k17 r16=>Gt 3 r16 fun cs35 =>
 Cl k17 39 #[agg cs28,agg cs35] fun k19 r18=>Gt 3 r18 fun cs36 =>
 ∀ k20,Up k19 k20→∃ m,m < m11∧I11 m k20 [int .i64 (IntKind.wrap .i64 (n27+1)),agg cs36])) ∧
 ((decide ((n27 : Int) < (l26 : Nat))) = false →
 ((∃ b o,A0 = some ⟨b,o,none⟩)∧((0 : Int)≤n16∧(n16 : Int) < (l0 : Nat)) ∧
 ∃ A29 l29 c29,∃ A30 l30 c30,∃ cs31,Seg 3 cs31∧∃ cs32,Seg 3 cs32∧Sy.ReadAt k11.cell? A0 (Int.toNat n16*8+0) 8 (agg ((slice A29 l29 c29) :: ((slice A30 l30 c30) :: (cs31.toList ++ (cs32.toList ++ ([]))))).toArray) ∧
 Cl k11 92 #[agg cs28,agg cs17] fun k22 r21=>Gt 3 r21 fun cs33 =>
 Cl k22 39 #[agg cs20,agg cs33] fun k24 r23=>Gt 3 r23 fun cs34 =>
 Cl k24 53 #[agg cs34] fun k26 r25=>Gt 3 r25 fun cs35 =>
 (cs35.toList ++ ([]) : List Value).length = Int.toNat 1*3∧(0 : Int)≤1∧Sy.sizeOk 56 (l10+Int.toNat 1)∧∀ (A36 : Option Addr) (l36 c36 : Nat) (cs37 : Array Value),l36 = l10+Int.toNat 1→cs37 = cs11 ++ (cs35.toList ++ ([]) : List Value).toArray→l36≤c36 →
 (∃ b o,A5 = some ⟨b,o,none⟩)∧((0 : Int)≤n9∧(n9 : Int) < (l5 : Nat)) ∧
 ∃ cs38,Seg 3 cs38∧Sy.ReadAt k26.cell? A5 (Int.toNat n9*3+0) 3 (agg cs38) ∧
 Cl k26 60 #[slice A29 l29 c29,agg cs20] fun k28 r27=>Gt 3 r27 fun cs39 =>
 Cl k28 39 #[agg cs38,agg cs39] fun k30 r29=>Gt 3 r29 fun cs40 =>
 (cs40.toList ++ ([]) : List Value).length = Int.toNat 1*3∧(0 : Int)≤1∧Sy.sizeOk 56 (l12+Int.toNat 1)∧∀ (A41 : Option Addr) (l41 c41 : Nat) (cs42 : Array Value),l41 = l12+Int.toNat 1→cs42 = cs13 ++ (cs40.toList ++ ([]) : List Value).toArray→l41≤c41 →
 (∃ b o,A6 = some ⟨b,o,none⟩)∧((0 : Int)≤n9∧(n9 : Int) < (l6 : Nat)) ∧
 ∃ cs43,Seg 3 cs43∧Sy.ReadAt k30.cell? A6 (Int.toNat n9*3+0) 3 (agg cs43) ∧
 Cl k30 60 #[slice A30 l30 c30,agg cs20] fun k32 r31=>Gt 3 r31 fun cs44 =>
 Cl k32 39 #[agg cs43,agg cs44] fun k34 r33=>Gt 3 r33 fun cs45 =>
 (cs45.toList ++ ([]) : List Value).length = Int.toNat 1*3∧(0 : Int)≤1∧Sy.sizeOk 56 (l14+Int.toNat 1)∧∀ (A46 : Option Addr) (l46 c46 : Nat) (cs47 : Array Value),l46 = l14+Int.toNat 1→cs47 = cs15 ++ (cs45.toList ++ ([]) : List Value).toArray→l46≤c46 →
 ∀ k35,Up k34 k35→∃ m,m < m0∧I0 m k35 [int .i64 (IntKind.wrap .i64 (n9+1)),tuple #[slice A36 l36 c36,agg cs37],tuple #[slice A41 l41 c41,agg cs42],tuple #[slice A46 l46 c46,agg cs47]]))))) ∧
 ((decide ((n9 : Int) < (l1 : Nat))) = false →
 (∀ k36,Up k0 k36→Sy.RowAt k36 A10 cs11 →
 ∀ k37,Up k36 k37→Sy.RowAt k37 A12 cs13 →
 ∀ k38,Up k37 k38→Sy.RowAt k38 A14 cs15 →
 ∀ k39,Up k38 k39→R k39 (agg #[slice A10 l10 c10,slice A12 l12 c12,slice A14 l14 c14]))))) :
  CallsG Tryz.prog 52 #[agg #[slice A0 l0 c0,slice A1 l1 c1,slice A2 l2 c2,Value.map (some M3)],agg #[slice A4 l4 c4,slice A5 l5 c5,slice A6 l6 c6],agg cs7,agg cs8,Value.func (.func 53) #[] #[]] k R :=
  Sy.execFn_use_heap (cfg:={ opq:=[71],loops:=[(0,[.tmp 23 false [.int .i64],.rb 5 0 71 3,.rb 5 1 71 3,.rb 5 2 71 3]),(2,[.tmp 51 false [.int .i64],.blk 8 [.seg 3]])] }) (args:=[.agg [.var 0,.var 1,.var 2,.var 3],.agg [.var 4,.var 5,.var 6],.agg [.seg 7 3],.agg [.seg 8 3],.one (.fn 53 [])]) (vals:=[slice A0 l0 c0,slice A1 l1 c1,slice A2 l2 c2,Value.map (some M3),slice A4 l4 c4,slice A5 l5 c5,slice A6 l6 c6,agg cs7,agg cs8]) (kinds:=[.slice,.slice,.slice,.map,.slice,.slice,.slice,.seg 3,.seg 3]) (blks:=[]) (heap:=[]) (by kernel_rfl) ⟨⟨_,_,_,rfl⟩,⟨⟨_,_,_,rfl⟩,⟨⟨_,_,_,rfl⟩,⟨⟨_,rfl⟩,⟨⟨_,_,_,rfl⟩,⟨⟨_,_,_,rfl⟩,⟨⟨_,_,_,rfl⟩,⟨⟨cs7,rfl,hcs7⟩,⟨⟨cs8,rfl,hcs8⟩,trivial⟩⟩⟩⟩⟩⟩⟩⟩⟩ (by kernel_rfl) trivial (by kernel_rfl) h
theorem zP {A0 : Option Addr} {l0 c0 : Nat} {A1 : Option Addr} {l1 c1 : Nat} {A2 : Option Addr} {l2 c2 : Nat} {A3 : Option Addr} {l3 c3 : Nat} {A4 : Option Addr} {l4 c4 : Nat} {A5 : Option Addr} {l5 c5 : Nat} {cs6 cs7 : Array Value} (hcs6 : Seg 3 cs6) (hcs7 : Seg 3 cs7)
 (h : Cl k 49 #[agg #[slice A0 l0 c0,slice A1 l1 c1,slice A2 l2 c2],agg #[slice A3 l3 c3,slice A4 l4 c4,slice A5 l5 c5]] fun k1 r0=>∃ n8,some (int .i64 n8) = some r0 ∧
 (((n8 : Int) != 0) = true →
 (∀ k2,Up k1 k2→R k2 (tuple #[agg #[slice none 0 0,slice none 0 0,slice none 0 0],int .i64 n8]))) ∧
 (((n8 : Int) != 0) = false →
 (Cl k1 50 #[agg #[slice A0 l0 c0,slice A1 l1 c1,slice A2 l2 c2]] fun k4 r3=>∃ A9 l9 c9,∃ A10 l10 c10,∃ A11 l11 c11,∃ M12 : Nat,some (agg #[slice A9 l9 c9,slice A10 l10 c10,slice A11 l11 c11,Value.map (some M12)]) = some r3 ∧
 Cl k4 52 #[agg #[slice A9 l9 c9,slice A10 l10 c10,slice A11 l11 c11,Value.map (some M12)],agg #[slice A3 l3 c3,slice A4 l4 c4,slice A5 l5 c5],agg cs6,agg cs7,Value.func (.func 53) #[] #[]] fun k6 r5=>∃ A13 l13 c13,∃ A14 l14 c14,∃ A15 l15 c15,some (agg #[slice A13 l13 c13,slice A14 l14 c14,slice A15 l15 c15]) = some r5 ∧
 ∀ k7,Up k6 k7→R k7 (tuple #[agg #[slice A13 l13 c13,slice A14 l14 c14,slice A15 l15 c15],int .i64 0])))) :
  CallsG Tryz.prog 20 #[agg #[slice A0 l0 c0,slice A1 l1 c1,slice A2 l2 c2],agg #[slice A3 l3 c3,slice A4 l4 c4,slice A5 l5 c5],agg cs6,agg cs7] k R :=
  aA (cfg:={ opq:=[71] }) (args:=[.agg [.var 0,.var 1,.var 2],.agg [.var 3,.var 4,.var 5],.agg [.seg 6 3],.agg [.seg 7 3]]) (vals:=[slice A0 l0 c0,slice A1 l1 c1,slice A2 l2 c2,slice A3 l3 c3,slice A4 l4 c4,slice A5 l5 c5,agg cs6,agg cs7]) (kinds:=[.slice,.slice,.slice,.slice,.slice,.slice,.seg 3,.seg 3]) (by kernel_rfl) ⟨⟨_,_,_,rfl⟩,⟨⟨_,_,_,rfl⟩,⟨⟨_,_,_,rfl⟩,⟨⟨_,_,_,rfl⟩,⟨⟨_,_,_,rfl⟩,⟨⟨_,_,_,rfl⟩,⟨⟨cs6,rfl,hcs6⟩,⟨⟨cs7,rfl,hcs7⟩,trivial⟩⟩⟩⟩⟩⟩⟩⟩ (by kernel_rfl) (by kernel_rfl) h
theorem zJ {A0 : Option Addr} {l0 c0 : Nat} {A1 : Option Addr} {l1 c1 : Nat} {A2 : Option Addr} {l2 c2 : Nat}
 (h : Cl k 98 #[slice A0 l0 c0] fun k1 r0=>∃ A3 l3 c3,some (slice A3 l3 c3) = some r0 ∧
 Cl k1 98 #[slice A1 l1 c1] fun k3 r2=>∃ A4 l4 c4,some (slice A4 l4 c4) = some r2 ∧
 Cl k3 98 #[slice A2 l2 c2] fun k5 r4=>∃ A5 l5 c5,some (slice A5 l5 c5) = some r4 ∧
 ∀ k6,Up k5 k6→R k6 (agg #[slice A3 l3 c3,slice A4 l4 c4,slice A5 l5 c5])) :
  CallsG Tryz.prog 51 #[agg #[slice A0 l0 c0,slice A1 l1 c1,slice A2 l2 c2]] k R :=
  aA (cfg:={ opq:=[71] }) (args:=[.agg [.var 0,.var 1,.var 2]]) (vals:=[slice A0 l0 c0,slice A1 l1 c1,slice A2 l2 c2]) (kinds:=[.slice,.slice,.slice]) (by kernel_rfl) ⟨⟨_,_,_,rfl⟩,⟨⟨_,_,_,rfl⟩,⟨⟨_,_,_,rfl⟩,trivial⟩⟩⟩ (by kernel_rfl) (by kernel_rfl) h
theorem aLb {A0 : Option Addr} {l0 c0 : Nat} {A1 : Option Addr} {l1 c1 : Nat} {A2 : Option Addr} {l2 c2 : Nat} {A3 : Option Addr} {l3 c3 : Nat} {A4 : Option Addr} {l4 c4 : Nat} {A5 : Option Addr} {l5 c5 : Nat} {A6 : Option Addr} {l6 c6 : Nat} {A7 : Option Addr} {l7 c7 : Nat}
 (h : Cl k 49 #[agg #[slice A0 l0 c0,slice A1 l1 c1,slice A2 l2 c2],agg #[slice A3 l3 c3,slice A4 l4 c4,slice A5 l5 c5]] fun k1 r0=>∃ n8,some (int .i64 n8) = some r0 ∧
 (((n8 : Int) != 0) = true →
 (∀ k2,Up k1 k2→R k2 (tuple #[agg #[slice none 0 0,slice none 0 0,slice none 0 0],int .i64 n8]))) ∧
 (((n8 : Int) != 0) = false →
 (true = true∧(true = true∧(((((l6 : Nat) : Int) != (l7 : Nat)) = true →
 (∀ k3,Up k1 k3→R k3 (tuple #[agg #[slice none 0 0,slice none 0 0,slice none 0 0],int .i64 4]))) ∧
 ((((l6 : Nat) : Int) != (l7 : Nat)) = false →
 (true = true∧(((decide (((l6 : Nat) : Int) > 2000)) = true →
 (∀ k4,Up k1 k4→R k4 (tuple #[agg #[slice none 0 0,slice none 0 0,slice none 0 0],int .i64 4]))) ∧
 ((decide (((l6 : Nat) : Int) > 2000)) = false →
 (Cl k1 50 #[agg #[slice A0 l0 c0,slice A1 l1 c1,slice A2 l2 c2]] fun k6 r5=>∃ A9 l9 c9,∃ A10 l10 c10,∃ A11 l11 c11,∃ M12 : Nat,some (agg #[slice A9 l9 c9,slice A10 l10 c10,slice A11 l11 c11,Value.map (some M12)]) = some r5 ∧
 Cl k6 51 #[agg #[slice A3 l3 c3,slice A4 l4 c4,slice A5 l5 c5]] fun k8 r7=>∃ A13 l13 c13,∃ A14 l14 c14,∃ A15 l15 c15,some (agg #[slice A13 l13 c13,slice A14 l14 c14,slice A15 l15 c15]) = some r7 ∧
 true = true∧(∃ I9 : Nat→World→List Value→Prop,(∃ m9,∀ k9,Up k8 k9→I9 m9 k9 [int .i64 0,agg #[slice A13 l13 c13,slice A14 l14 c14,slice A15 l15 c15]]) ∧
 ∀ m9 k9 vs9,Up k8 k9→I9 m9 k9 vs9→∃ n16,∃ A17 l17 c17,∃ A18 l18 c18,∃ A19 l19 c19,some [int .i64 n16,agg #[slice A17 l17 c17,slice A18 l18 c18,slice A19 l19 c19]] = some vs9 ∧
 ((decide ((n16 : Int) < (l6 : Nat))) = true →
 ((∃ b o,A6 = some ⟨b,o,none⟩)∧((0 : Int)≤n16∧(n16 : Int) < (l6 : Nat)) ∧
 ∃ cs20,Seg 3 cs20∧Sy.ReadAt k9.cell? A6 (Int.toNat n16*3+0) 3 (agg cs20) ∧
 (∃ b o,A7 = some ⟨b,o,none⟩)∧((0 : Int)≤n16∧(n16 : Int) < (l7 : Nat)) ∧
 ∃ cs21,Seg 3 cs21∧Sy.ReadAt k9.cell? A7 (Int.toNat n16*3+0) 3 (agg cs21) ∧
 Cl k9 52 #[agg #[slice A9 l9 c9,slice A10 l10 c10,slice A11 l11 c11,Value.map (some M12)],agg #[slice A17 l17 c17,slice A18 l18 c18,slice A19 l19 c19],agg cs20,agg cs21,Value.func (.func 53) #[] #[]] fun k11 r10=>∃ A22 l22 c22,∃ A23 l23 c23,∃ A24 l24 c24,some (agg #[slice A22 l22 c22,slice A23 l23 c23,slice A24 l24 c24]) = some r10 ∧
 ∀ k12,Up k11 k12→∃ m,m < m9∧I9 m k12 [int .i64 (IntKind.wrap .i64 (n16+1)),agg #[slice A22 l22 c22,slice A23 l23 c23,slice A24 l24 c24]])) ∧
 ((decide ((n16 : Int) < (l6 : Nat))) = false →
 (∀ k13,Up k9 k13→R k13 (tuple #[agg #[slice A17 l17 c17,slice A18 l18 c18,slice A19 l19 c19],int .i64 0])))))))))))))) :
   CallsG Tryz.prog 15 #[agg #[slice A0 l0 c0,slice A1 l1 c1,slice A2 l2 c2],agg #[slice A3 l3 c3,slice A4 l4 c4,slice A5 l5 c5],slice A6 l6 c6,slice A7 l7 c7] k R :=
  aA (cfg:={ opq:=[71],loops:=[(0,[.tmp 39 false [.int .i64],.blk 4 [.slice,.slice,.slice]])] }) (args:=[.agg [.var 0,.var 1,.var 2],.agg [.var 3,.var 4,.var 5],.one (.var 6),.one (.var 7)]) (vals:=[slice A0 l0 c0,slice A1 l1 c1,slice A2 l2 c2,slice A3 l3 c3,slice A4 l4 c4,slice A5 l5 c5,slice A6 l6 c6,slice A7 l7 c7]) (kinds:=[.slice,.slice,.slice,.slice,.slice,.slice,.slice,.slice]) (by kernel_rfl) ⟨⟨_,_,_,rfl⟩,⟨⟨_,_,_,rfl⟩,⟨⟨_,_,_,rfl⟩,⟨⟨_,_,_,rfl⟩,⟨⟨_,_,_,rfl⟩,⟨⟨_,_,_,rfl⟩,⟨⟨_,_,_,rfl⟩,⟨⟨_,_,_,rfl⟩,trivial⟩⟩⟩⟩⟩⟩⟩⟩ (by kernel_rfl) (by kernel_rfl) h
theorem aCb {A0 : Option Addr} {l0 c0 : Nat} {A1 : Option Addr} {l1 c1 : Nat} {A2 : Option Addr} {l2 c2 : Nat} {cs3 : Array Value} (hcs3 : Seg 3 cs3)
 (h : true = true∧(∃ I0 : Nat→World→List Value→Prop,(∃ m0,∀ k0,Up k k0→I0 m0 k0 [int .i64 0,tuple #[slice none 0 0,agg #[]],tuple #[slice none 0 0,agg #[]],tuple #[slice none 0 0,agg #[]]]) ∧
 ∀ m0 k0 vs0,Up k k0→I0 m0 k0 vs0→∃ n4,∃ A5 l5 c5,∃ cs6,Sy.RowC cs6∧∃ A7 l7 c7,∃ cs8,Sy.RowC cs8∧∃ A9 l9 c9,∃ cs10,Sy.RowC cs10∧some [int .i64 n4,tuple #[slice A5 l5 c5,agg cs6],tuple #[slice A7 l7 c7,agg cs8],tuple #[slice A9 l9 c9,agg cs10]] = some vs0 ∧
 ((decide ((n4 : Int) < (l1 : Nat))) = true →
 ((cs3.toList ++ ([]) : List Value).length = Int.toNat 1*3∧(0 : Int)≤1∧Sy.sizeOk 56 (l5+Int.toNat 1)∧∀ (A11 : Option Addr) (l11 c11 : Nat) (cs12 : Array Value),l11 = l5+Int.toNat 1→cs12 = cs6 ++ (cs3.toList ++ ([]) : List Value).toArray→l11≤c11 →
 ([bool false,slice none 0 0,slice none 0 0] : List Value).length = Int.toNat 1*3∧(0 : Int)≤1∧Sy.sizeOk 56 (l7+Int.toNat 1)∧∀ (A13 : Option Addr) (l13 c13 : Nat) (cs14 : Array Value),l13 = l7+Int.toNat 1→cs14 = cs8 ++ ([bool false,slice none 0 0,slice none 0 0] : List Value).toArray→l13≤c13 →
 ([bool false,slice none 0 0,slice none 0 0] : List Value).length = Int.toNat 1*3∧(0 : Int)≤1∧Sy.sizeOk 56 (l9+Int.toNat 1)∧∀ (A15 : Option Addr) (l15 c15 : Nat) (cs16 : Array Value),l15 = l9+Int.toNat 1→cs16 = cs10 ++ ([bool false,slice none 0 0,slice none 0 0] : List Value).toArray→l15≤c15 →
 ∀ k1,Up k0 k1→∃ m,m < m0∧I0 m k1 [int .i64 (IntKind.wrap .i64 (n4+1)),tuple #[slice A11 l11 c11,agg cs12],tuple #[slice A13 l13 c13,agg cs14],tuple #[slice A15 l15 c15,agg cs16]])) ∧
 ((decide ((n4 : Int) < (l1 : Nat))) = false →
 (∀ k2,Up k0 k2→Sy.RowAt k2 A5 cs6 →
 ∀ k3,Up k2 k3→Sy.RowAt k3 A7 cs8 →
 ∀ k4,Up k3 k4→Sy.RowAt k4 A9 cs10 →
 ∀ k5,Up k4 k5→R k5 (agg #[slice A5 l5 c5,slice A7 l7 c7,slice A9 l9 c9]))))) :
  CallsG Tryz.prog 78 #[agg #[slice A0 l0 c0,slice A1 l1 c1,slice A2 l2 c2],agg cs3] k R :=
  aA (cfg:={ opq:=[71],loops:=[(0,[.tmp 9 false [.int .i64],.rb 3 0 71 3,.rb 3 1 71 3,.rb 3 2 71 3])] }) (args:=[.agg [.var 0,.var 1,.var 2],.agg [.seg 3 3]]) (vals:=[slice A0 l0 c0,slice A1 l1 c1,slice A2 l2 c2,agg cs3]) (kinds:=[.slice,.slice,.slice,.seg 3]) (by kernel_rfl) ⟨⟨_,_,_,rfl⟩,⟨⟨_,_,_,rfl⟩,⟨⟨_,_,_,rfl⟩,⟨⟨cs3,rfl,hcs3⟩,trivial⟩⟩⟩⟩ (by kernel_rfl) (by kernel_rfl) h
end Go.Proofs.YtampehijkiencaaGreat

namespace Go.Proofs.YtampehijkiencaaGreat
open Go.RowKit
open Value (agg slice int bool tuple)
open Sy (Up Sees CallsG Seg aA)
set_option maxRecDepth 100000
variable {k : World} {R : World→Value→Prop}
theorem vM {A0 : Option Addr} {l0 c0 : Nat} {A1 : Option Addr} {l1 c1 : Nat} {A2 : Option Addr} {l2 c2 : Nat} {cs3 : Array Value} (hcs3 : Seg 3 cs3)
 (h : Cl k 29 #[agg #[slice A0 l0 c0,slice A1 l1 c1,slice A2 l2 c2]] fun k1 r0=>∃ n4,some (int .i64 n4) = some r0 ∧
 (((n4 : Int) != 0) = true →
 (∀ k2,Up k1 k2→R k2 (tuple #[agg #[slice none 0 0,slice none 0 0,slice none 0 0],int .i64 n4]))) ∧
 (((n4 : Int) != 0) = false →
 (Cl k1 78 #[agg #[slice A0 l0 c0,slice A1 l1 c1,slice A2 l2 c2],agg cs3] fun k4 r3=>∃ A5 l5 c5,∃ A6 l6 c6,∃ A7 l7 c7,some (agg #[slice A5 l5 c5,slice A6 l6 c6,slice A7 l7 c7]) = some r3 ∧
 ∀ k5,Up k4 k5→R k5 (tuple #[agg #[slice A5 l5 c5,slice A6 l6 c6,slice A7 l7 c7],int .i64 0])))) :
  CallsG Tryz.prog 34 #[agg #[slice A0 l0 c0,slice A1 l1 c1,slice A2 l2 c2],agg cs3] k R :=
  aA (cfg:={ opq:=[71] }) (args:=[.agg [.var 0,.var 1,.var 2],.agg [.seg 3 3]]) (vals:=[slice A0 l0 c0,slice A1 l1 c1,slice A2 l2 c2,agg cs3]) (kinds:=[.slice,.slice,.slice,.seg 3]) (by kernel_rfl) ⟨⟨_,_,_,rfl⟩,⟨⟨_,_,_,rfl⟩,⟨⟨_,_,_,rfl⟩,⟨⟨cs3,rfl,hcs3⟩,trivial⟩⟩⟩⟩ (by kernel_rfl) (by kernel_rfl) h
end Go.Proofs.YtampehijkiencaaGreat

namespace Go.Proofs.YtampehijkiencaaGreat
open Go.RowKit
open Value (agg slice int bool tuple)
open Sy (Up Sees CallsG Seg aA)
set_option maxRecDepth 100000
variable {k : World} {R : World→Value→Prop}
theorem aCx {A0 : Option Addr} {l0 c0 : Nat}
 (h : true = true∧(((((l0 : Nat) : Int) == 0) = true →
 (∀ k0,Up k k0→R k0 (int .i64 4))) ∧
 ((((l0 : Nat) : Int) == 0) = false →
 (true = true∧(((decide (((l0 : Nat) : Int) > 16)) = true →
 (∀ k1,Up k k1→R k1 (int .i64 4))) ∧
 ((decide (((l0 : Nat) : Int) > 16)) = false →
 (∃ I2 : Nat→World→List Value→Prop,(∃ m2,∀ k2,Up k k2→I2 m2 k2 [int .i64 0]) ∧
 ∀ m2 k2 vs2,Up k k2→I2 m2 k2 vs2→∃ n1,some [int .i64 n1] = some vs2 ∧
 true = true∧(((decide ((n1 : Int) < (l0 : Nat))) = true →
 (((decide ((n1 : Int) > 0)) = true →
 ((∃ b o,A0 = some ⟨b,o,none⟩)∧((0 : Int)≤n1∧(n1 : Int) < (l0 : Nat)) ∧
 (∃ b o,A0 = some ⟨b,o,none⟩)∧((0 : Int)≤n1∧(n1 : Int) < (l0 : Nat)) ∧
 ∃ cs2,Seg 3 cs2∧Sy.ReadAt k2.cell? A0 (Int.toNat n1*6+0) 3 (agg cs2) ∧
 (∃ b o,A0 = some ⟨b,o,none⟩)∧((0 : Int)≤(IntKind.wrap .i64 (n1 - 1))∧((IntKind.wrap .i64 (n1 - 1)) : Int) < (l0 : Nat)) ∧
 (∃ b o,A0 = some ⟨b,o,none⟩)∧((0 : Int)≤(IntKind.wrap .i64 (n1 - 1))∧((IntKind.wrap .i64 (n1 - 1)) : Int) < (l0 : Nat)) ∧
 ∃ cs3,Seg 3 cs3∧Sy.ReadAt k2.cell? A0 (Int.toNat (IntKind.wrap .i64 (n1 - 1))*6+0) 3 (agg cs3) ∧
 Cl k2 72 #[agg cs2,agg cs3] fun k4 r3=>∃ n4,some (int .i64 n4) = some r3 ∧
 ((decide ((n4 : Int)≤0)) = true →
 (∀ k5,Up k4 k5→R k5 (int .i64 7))) ∧
 ((decide ((n4 : Int)≤0)) = false →
 ((∃ b o,A0 = some ⟨b,o,none⟩)∧((0 : Int)≤n1∧(n1 : Int) < (l0 : Nat)) ∧
 (∃ b o,A0 = some ⟨b,o,none⟩)∧((0 : Int)≤n1∧(n1 : Int) < (l0 : Nat)) ∧
 ∃ cs5,Seg 3 cs5∧Sy.ReadAt k4.cell? A0 (Int.toNat n1*6+3) 3 (agg cs5) ∧
 Cl k4 70 #[agg cs5] fun k7 r6=>∃ n6,some (int .i64 n6) = some r6 ∧
 ((decide ((n6 : Int) < 0)) = true →
 (∀ k8,Up k7 k8→R k8 (int .i64 1))) ∧
 ((decide ((n6 : Int) < 0)) = false →
 (((decide ((n1 : Int) > 0)) = true →
 ((∃ b o,A0 = some ⟨b,o,none⟩)∧((0 : Int)≤n1∧(n1 : Int) < (l0 : Nat)) ∧
 (∃ b o,A0 = some ⟨b,o,none⟩)∧((0 : Int)≤n1∧(n1 : Int) < (l0 : Nat)) ∧
 ∃ cs7,Seg 3 cs7∧Sy.ReadAt k7.cell? A0 (Int.toNat n1*6+3) 3 (agg cs7) ∧
 (∃ b o,A0 = some ⟨b,o,none⟩)∧((0 : Int)≤(IntKind.wrap .i64 (n1 - 1))∧((IntKind.wrap .i64 (n1 - 1)) : Int) < (l0 : Nat)) ∧
 (∃ b o,A0 = some ⟨b,o,none⟩)∧((0 : Int)≤(IntKind.wrap .i64 (n1 - 1))∧((IntKind.wrap .i64 (n1 - 1)) : Int) < (l0 : Nat)) ∧
 ∃ cs8,Seg 3 cs8∧Sy.ReadAt k7.cell? A0 (Int.toNat (IntKind.wrap .i64 (n1 - 1))*6+3) 3 (agg cs8) ∧
 Cl k7 72 #[agg cs7,agg cs8] fun k10 r9=>∃ n9,some (int .i64 n9) = some r9 ∧
 ((decide ((n9 : Int) < 0)) = true →
 (∀ k11,Up k10 k11→R k11 (int .i64 7))) ∧
 ((decide ((n9 : Int) < 0)) = false →
 (∀ k12,Up k10 k12→∃ m,m < m2∧I2 m k12 [int .i64 (IntKind.wrap .i64 (n1+1))])))) ∧
 ((decide ((n1 : Int) > 0)) = false →
 (∀ k13,Up k7 k13→∃ m,m < m2∧I2 m k13 [int .i64 (IntKind.wrap .i64 (n1+1))])))))))) ∧
 ((decide ((n1 : Int) > 0)) = false →
 ((∃ b o,A0 = some ⟨b,o,none⟩)∧((0 : Int)≤n1∧(n1 : Int) < (l0 : Nat)) ∧
 (∃ b o,A0 = some ⟨b,o,none⟩)∧((0 : Int)≤n1∧(n1 : Int) < (l0 : Nat)) ∧
 ∃ cs2,Seg 3 cs2∧Sy.ReadAt k2.cell? A0 (Int.toNat n1*6+3) 3 (agg cs2) ∧
 Cl k2 70 #[agg cs2] fun k15 r14=>∃ n3,some (int .i64 n3) = some r14 ∧
 ((decide ((n3 : Int) < 0)) = true →
 (∀ k16,Up k15 k16→R k16 (int .i64 1))) ∧
 ((decide ((n3 : Int) < 0)) = false →
 (((decide ((n1 : Int) > 0)) = true →
 ((∃ b o,A0 = some ⟨b,o,none⟩)∧((0 : Int)≤n1∧(n1 : Int) < (l0 : Nat)) ∧
 (∃ b o,A0 = some ⟨b,o,none⟩)∧((0 : Int)≤n1∧(n1 : Int) < (l0 : Nat)) ∧
 ∃ cs4,Seg 3 cs4∧Sy.ReadAt k15.cell? A0 (Int.toNat n1*6+3) 3 (agg cs4) ∧
 (∃ b o,A0 = some ⟨b,o,none⟩)∧((0 : Int)≤(IntKind.wrap .i64 (n1 - 1))∧((IntKind.wrap .i64 (n1 - 1)) : Int) < (l0 : Nat)) ∧
 (∃ b o,A0 = some ⟨b,o,none⟩)∧((0 : Int)≤(IntKind.wrap .i64 (n1 - 1))∧((IntKind.wrap .i64 (n1 - 1)) : Int) < (l0 : Nat)) ∧
 ∃ cs5,Seg 3 cs5∧Sy.ReadAt k15.cell? A0 (Int.toNat (IntKind.wrap .i64 (n1 - 1))*6+3) 3 (agg cs5) ∧
 Cl k15 72 #[agg cs4,agg cs5] fun k18 r17=>∃ n6,some (int .i64 n6) = some r17 ∧
 ((decide ((n6 : Int) < 0)) = true →
 (∀ k19,Up k18 k19→R k19 (int .i64 7))) ∧
 ((decide ((n6 : Int) < 0)) = false →
 (∀ k20,Up k18 k20→∃ m,m < m2∧I2 m k20 [int .i64 (IntKind.wrap .i64 (n1+1))])))) ∧
 ((decide ((n1 : Int) > 0)) = false →
 (∀ k21,Up k15 k21→∃ m,m < m2∧I2 m k21 [int .i64 (IntKind.wrap .i64 (n1+1))])))))))) ∧
 ((decide ((n1 : Int) < (l0 : Nat))) = false →
 (∀ k22,Up k2 k22→R k22 (int .i64 0))))))))))) :
   CallsG Tryz.prog 61 #[slice A0 l0 c0] k R :=
  aA (cfg:={ opq:=[89],loops:=[(0,[.tmp 3 false [.int .i64]])] }) (args:=[.one (.var 0)]) (vals:=[slice A0 l0 c0]) (kinds:=[.slice]) (by kernel_rfl) ⟨⟨_,_,_,rfl⟩,trivial⟩ (by kernel_rfl) (by kernel_rfl) h
theorem yK {n0 n1 : Int}
 (h : ((decide ((n0 : Int) ≥ 0)) = true →
 (∀ k0,Up k k0→R k0 (bool (decide ((n0 : Int) < n1))))) ∧
 ((decide ((n0 : Int) ≥ 0)) = false →
 (∀ k1,Up k k1→R k1 (bool false)))) :
   CallsG Tryz.prog 71 #[int .i64 n0,int .i64 n1] k R :=
  aA (cfg:={ opq:=[89] }) (args:=[.one (.var 0),.one (.var 1)]) (vals:=[int .i64 n0,int .i64 n1]) (kinds:=[.int .i64,.int .i64]) (by kernel_rfl) ⟨⟨_,rfl⟩,⟨⟨_,rfl⟩,trivial⟩⟩ (by kernel_rfl) (by kernel_rfl) h
theorem aEh {A0 : Option Addr} {l0 c0 : Nat} {A1 : Option Addr} {l1 c1 : Nat} {A2 : Option Addr} {l2 c2 : Nat} {n3 : Int}
 (h : (∃ b o,A1 = some ⟨b,o,none⟩)∧((0 : Int)≤n3∧(n3 : Int) < (l1 : Nat)) ∧
 (∃ b o,A1 = some ⟨b,o,none⟩)∧((0 : Int)≤n3∧(n3 : Int) < (l1 : Nat)) ∧
 ∃ cs4,Seg 3 cs4∧Sy.ReadAt k.cell? A1 (Int.toNat n3*10+4) 3 (agg cs4) ∧
 (∃ b o,A1 = some ⟨b,o,none⟩)∧((0 : Int)≤n3∧(n3 : Int) < (l1 : Nat)) ∧
 (∃ b o,A1 = some ⟨b,o,none⟩)∧((0 : Int)≤n3∧(n3 : Int) < (l1 : Nat)) ∧
 ∃ cs5,Seg 3 cs5∧Sy.ReadAt k.cell? A1 (Int.toNat n3*10+7) 3 (agg cs5) ∧
 Cl k 80 #[agg cs4,agg cs5] fun k1 r0=>Gt 3 r0 fun cs6 =>
 ∃ I2 : Nat→World→List Value→Prop,(∃ m2,∀ k2,Up k1 k2→I2 m2 k2 [int .i64 0,agg cs6]) ∧
 ∀ m2 k2 vs2,Up k1 k2→I2 m2 k2 vs2→∃ n7,∃ cs8,Seg 3 cs8∧some [int .i64 n7,agg cs8] = some vs2 ∧
 true = true∧(((decide ((n7 : Int) < (l2 : Nat))) = true →
 ((∃ b o,A2 = some ⟨b,o,none⟩)∧((0 : Int)≤n7∧(n7 : Int) < (l2 : Nat)) ∧
 (∃ b o,A2 = some ⟨b,o,none⟩)∧((0 : Int)≤n7∧(n7 : Int) < (l2 : Nat)) ∧
 ∃ n9,Sy.ReadAt k2.cell? A2 (Int.toNat n7*5+0) 1 (int .i64 n9) ∧
 (((n9 : Int) == n3) = true →
 ((∃ b o,A2 = some ⟨b,o,none⟩)∧((0 : Int)≤n7∧(n7 : Int) < (l2 : Nat)) ∧
 (∃ b o,A2 = some ⟨b,o,none⟩)∧((0 : Int)≤n7∧(n7 : Int) < (l2 : Nat)) ∧
 ∃ cs10,Seg 3 cs10∧Sy.ReadAt k2.cell? A2 (Int.toNat n7*5+2) 3 (agg cs10) ∧
 Cl k2 80 #[agg cs8,agg cs10] fun k4 r3=>Gt 3 r3 fun cs11 =>
 ∀ k5,Up k4 k5→∃ m,m < m2∧I2 m k5 [int .i64 (IntKind.wrap .i64 (n7+1)),agg cs11])) ∧
 (((n9 : Int) == n3) = false →
 ((∃ b o,A2 = some ⟨b,o,none⟩)∧((0 : Int)≤n7∧(n7 : Int) < (l2 : Nat)) ∧
 (∃ b o,A2 = some ⟨b,o,none⟩)∧((0 : Int)≤n7∧(n7 : Int) < (l2 : Nat)) ∧
 ∃ n10,Sy.ReadAt k2.cell? A2 (Int.toNat n7*5+1) 1 (int .i64 n10) ∧
 (((n10 : Int) == n3) = true →
 ((∃ b o,A2 = some ⟨b,o,none⟩)∧((0 : Int)≤n7∧(n7 : Int) < (l2 : Nat)) ∧
 (∃ b o,A2 = some ⟨b,o,none⟩)∧((0 : Int)≤n7∧(n7 : Int) < (l2 : Nat)) ∧
 ∃ cs11,Seg 3 cs11∧Sy.ReadAt k2.cell? A2 (Int.toNat n7*5+2) 3 (agg cs11) ∧
 Cl k2 80 #[agg cs8,agg cs11] fun k7 r6=>Gt 3 r6 fun cs12 =>
 ∀ k8,Up k7 k8→∃ m,m < m2∧I2 m k8 [int .i64 (IntKind.wrap .i64 (n7+1)),agg cs12])) ∧
 (((n10 : Int) == n3) = false →
 (∀ k9,Up k2 k9→∃ m,m < m2∧I2 m k9 [int .i64 (IntKind.wrap .i64 (n7+1)),agg cs8])))))) ∧
 ((decide ((n7 : Int) < (l2 : Nat))) = false →
 (∀ k10,Up k2 k10→R k10 (agg cs8))))) :
   CallsG Tryz.prog 73 #[agg #[slice A0 l0 c0,slice A1 l1 c1,slice A2 l2 c2],int .i64 n3] k R :=
  aA (cfg:={ opq:=[89],loops:=[(0,[.tmp 6 false [.int .i64],.blk 2 [.seg 3]])] }) (args:=[.agg [.var 0,.var 1,.var 2],.one (.var 3)]) (vals:=[slice A0 l0 c0,slice A1 l1 c1,slice A2 l2 c2,int .i64 n3]) (kinds:=[.slice,.slice,.slice,.int .i64]) (by kernel_rfl) ⟨⟨_,_,_,rfl⟩,⟨⟨_,_,_,rfl⟩,⟨⟨_,_,_,rfl⟩,⟨⟨_,rfl⟩,trivial⟩⟩⟩⟩ (by kernel_rfl) (by kernel_rfl) h
theorem aDe {A0 : Option Addr} {l0 c0 : Nat} {A1 : Option Addr} {l1 c1 : Nat} {A2 : Option Addr} {l2 c2 : Nat}
 (h : true = true∧(((((l0 : Nat) : Int) == 0) = true →
 (∀ k0,Up k k0→R k0 (int .i64 4))) ∧
 ((((l0 : Nat) : Int) == 0) = false →
 (true = true∧(((decide (((l0 : Nat) : Int) > 8)) = true →
 (∀ k1,Up k k1→R k1 (int .i64 4))) ∧
 ((decide (((l0 : Nat) : Int) > 8)) = false →
 (true = true∧(((((l1 : Nat) : Int) == 0) = true →
 (∀ k2,Up k k2→R k2 (int .i64 4))) ∧
 ((((l1 : Nat) : Int) == 0) = false →
 (true = true∧(((decide (((l1 : Nat) : Int) > 24)) = true →
 (∀ k3,Up k k3→R k3 (int .i64 4))) ∧
 ((decide (((l1 : Nat) : Int) > 24)) = false →
 (true = true∧(((decide (((l2 : Nat) : Int) > 64)) = true →
 (∀ k4,Up k k4→R k4 (int .i64 4))) ∧
 ((decide (((l2 : Nat) : Int) > 64)) = false →
 (∃ I5 : Nat→World→List Value→Prop,(∃ m5,∀ k5,Up k k5→I5 m5 k5 [int .i64 0]) ∧
 ∀ m5 k5 vs5,Up k k5→I5 m5 k5 vs5→∃ n3,some [int .i64 n3] = some vs5 ∧
 true = true∧(((decide ((n3 : Int) < (l0 : Nat))) = true →
 ((∃ b o,A0 = some ⟨b,o,none⟩)∧((0 : Int)≤n3∧(n3 : Int) < (l0 : Nat)) ∧
 ∃ A4 l4 c4,∃ A5 l5 c5,∃ cs6,Seg 3 cs6∧∃ cs7,Seg 3 cs7∧Sy.ReadAt k5.cell? A0 (Int.toNat n3*8+0) 8 (agg ((slice A4 l4 c4) :: ((slice A5 l5 c5) :: (cs6.toList ++ (cs7.toList ++ ([]))))).toArray) ∧
 Cl k5 61 #[slice A4 l4 c4] fun k7 r6=>∃ n8,some (int .i64 n8) = some r6 ∧
 (((n8 : Int) != 0) = true →
 (∀ k8,Up k7 k8→R k8 (int .i64 n8))) ∧
 (((n8 : Int) != 0) = false →
 (Cl k7 61 #[slice A5 l5 c5] fun k10 r9=>∃ n9,some (int .i64 n9) = some r9 ∧
 (((n9 : Int) != 0) = true →
 (∀ k11,Up k10 k11→R k11 (int .i64 n9))) ∧
 (((n9 : Int) != 0) = false →
 (Cl k10 70 #[agg cs6] fun k13 r12=>∃ n10,some (int .i64 n10) = some r12 ∧
 ((decide ((n10 : Int)≤0)) = true →
 (∀ k14,Up k13 k14→R k14 (int .i64 1))) ∧
 ((decide ((n10 : Int)≤0)) = false →
 (Cl k13 70 #[agg cs7] fun k16 r15=>∃ n11,some (int .i64 n11) = some r15 ∧
 ((decide ((n11 : Int)≤0)) = true →
 (∀ k17,Up k16 k17→R k17 (int .i64 1))) ∧
 ((decide ((n11 : Int)≤0)) = false →
 (∀ k18,Up k16 k18→∃ m,m < m5∧I5 m k18 [int .i64 (IntKind.wrap .i64 (n3+1))])))))))))) ∧
 ((decide ((n3 : Int) < (l0 : Nat))) = false →
 (∃ I19 : Nat→World→List Value→Prop,(∃ m19,∀ k19,Up k5 k19→I19 m19 k19 [int .i64 0]) ∧
 ∀ m19 k19 vs19,Up k5 k19→I19 m19 k19 vs19→∃ n4,some [int .i64 n4] = some vs19 ∧
 true = true∧(((decide ((n4 : Int) < (l1 : Nat))) = true →
 ((∃ b o,A1 = some ⟨b,o,none⟩)∧((0 : Int)≤n4∧(n4 : Int) < (l1 : Nat)) ∧
 ∃ n5,∃ cs6,Seg 3 cs6∧∃ cs7,Seg 3 cs7∧∃ cs8,Seg 3 cs8∧Sy.ReadAt k19.cell? A1 (Int.toNat n4*10+0) 10 (agg ((int .i64 n5) :: (cs6.toList ++ (cs7.toList ++ (cs8.toList ++ ([]))))).toArray) ∧
 true = true∧(Cl k19 71 #[int .i64 n5,int .i64 (l0 : Nat)] fun k21 r20=>∃ b9,some (bool b9) = some r20 ∧
 ((!b9) = true →
 (∀ k22,Up k21 k22→R k22 (int .i64 1))) ∧
 ((!b9) = false →
 (Cl k21 70 #[agg cs6] fun k24 r23=>∃ n10,some (int .i64 n10) = some r23 ∧
 ((decide ((n10 : Int)≤0)) = true →
 (∀ k25,Up k24 k25→R k25 (int .i64 1))) ∧
 ((decide ((n10 : Int)≤0)) = false →
 (Cl k24 70 #[agg cs7] fun k27 r26=>∃ n11,some (int .i64 n11) = some r26 ∧
 ((decide ((n11 : Int) < 0)) = true →
 (∀ k28,Up k27 k28→R k28 (int .i64 1))) ∧
 ((decide ((n11 : Int) < 0)) = false →
 (Cl k27 70 #[agg cs8] fun k30 r29=>∃ n12,some (int .i64 n12) = some r29 ∧
 ((decide ((n12 : Int) < 0)) = true →
 (∀ k31,Up k30 k31→R k31 (int .i64 1))) ∧
 ((decide ((n12 : Int) < 0)) = false →
 (∀ k32,Up k30 k32→∃ m,m < m19∧I19 m k32 [int .i64 (IntKind.wrap .i64 (n4+1))]))))))))))) ∧
 ((decide ((n4 : Int) < (l1 : Nat))) = false →
 (∃ I33 : Nat→World→List Value→Prop,(∃ m33,∀ k33,Up k19 k33→I33 m33 k33 [int .i64 0]) ∧
 ∀ m33 k33 vs33,Up k19 k33→I33 m33 k33 vs33→∃ n5,some [int .i64 n5] = some vs33 ∧
 true = true∧(((decide ((n5 : Int) < (l2 : Nat))) = true →
 ((∃ b o,A2 = some ⟨b,o,none⟩)∧((0 : Int)≤n5∧(n5 : Int) < (l2 : Nat)) ∧
 ∃ n6,∃ n7,∃ cs8,Seg 3 cs8∧Sy.ReadAt k33.cell? A2 (Int.toNat n5*5+0) 5 (agg ((int .i64 n6) :: ((int .i64 n7) :: (cs8.toList ++ ([])))).toArray) ∧
 true = true∧(Cl k33 71 #[int .i64 n6,int .i64 (l1 : Nat)] fun k35 r34=>∃ b9,some (bool b9) = some r34 ∧
 ((!b9) = true →
 (∀ k36,Up k35 k36→R k36 (int .i64 1))) ∧
 ((!b9) = false →
 (true = true∧(Cl k35 71 #[int .i64 n7,int .i64 (l1 : Nat)] fun k38 r37=>∃ b10,some (bool b10) = some r37 ∧
 ((!b10) = true →
 (∀ k39,Up k38 k39→R k39 (int .i64 1))) ∧
 ((!b10) = false →
 ((((n6 : Int) == n7) = true →
 (∀ k40,Up k38 k40→R k40 (int .i64 1))) ∧
 (((n6 : Int) == n7) = false →
 (Cl k38 70 #[agg cs8] fun k42 r41=>∃ n11,some (int .i64 n11) = some r41 ∧
 ((decide ((n11 : Int) < 0)) = true →
 (∀ k43,Up k42 k43→R k43 (int .i64 1))) ∧
 ((decide ((n11 : Int) < 0)) = false →
 (∃ I44 : Nat→World→List Value→Prop,(∃ m44,∀ k44,Up k42 k44→I44 m44 k44 [int .i64 0]) ∧
 ∀ m44 k44 vs44,Up k42 k44→I44 m44 k44 vs44→∃ n12,some [int .i64 n12] = some vs44 ∧
 ((decide ((n12 : Int) < n5)) = true →
 ((∃ b o,A2 = some ⟨b,o,none⟩)∧((0 : Int)≤n12∧(n12 : Int) < (l2 : Nat)) ∧
 ∃ n13,∃ n14,∃ cs15,Seg 3 cs15∧Sy.ReadAt k44.cell? A2 (Int.toNat n12*5+0) 5 (agg ((int .i64 n13) :: ((int .i64 n14) :: (cs15.toList ++ ([])))).toArray) ∧
 (((n13 : Int) == n6) = true →
 ((((n14 : Int) == n7) = true →
 (∀ k45,Up k44 k45→R k45 (int .i64 8))) ∧
 (((n14 : Int) == n7) = false →
 ((((n13 : Int) == n7) = true →
 ((((n14 : Int) == n6) = true →
 (∀ k46,Up k44 k46→R k46 (int .i64 8))) ∧
 (((n14 : Int) == n6) = false →
 (∀ k47,Up k44 k47→∃ m,m < m44∧I44 m k47 [int .i64 (IntKind.wrap .i64 (n12+1))])))) ∧
 (((n13 : Int) == n7) = false →
 (∀ k48,Up k44 k48→∃ m,m < m44∧I44 m k48 [int .i64 (IntKind.wrap .i64 (n12+1))])))))) ∧
 (((n13 : Int) == n6) = false →
 ((((n13 : Int) == n7) = true →
 ((((n14 : Int) == n6) = true →
 (∀ k49,Up k44 k49→R k49 (int .i64 8))) ∧
 (((n14 : Int) == n6) = false →
 (∀ k50,Up k44 k50→∃ m,m < m44∧I44 m k50 [int .i64 (IntKind.wrap .i64 (n12+1))])))) ∧
 (((n13 : Int) == n7) = false →
 (∀ k51,Up k44 k51→∃ m,m < m44∧I44 m k51 [int .i64 (IntKind.wrap .i64 (n12+1))])))))) ∧
 ((decide ((n12 : Int) < n5)) = false →
 (∀ k52,Up k44 k52→∃ m,m < m33∧I33 m k52 [int .i64 (IntKind.wrap .i64 (n5+1))])))))))))))))) ∧
 ((decide ((n5 : Int) < (l2 : Nat))) = false →
 (∃ I53 : Nat→World→List Value→Prop,(∃ m53,∀ k53,Up k33 k53→I53 m53 k53 [int .i64 0]) ∧
 ∀ m53 k53 vs53,Up k33 k53→I53 m53 k53 vs53→∃ n6,some [int .i64 n6] = some vs53 ∧
 true = true∧(((decide ((n6 : Int) < (l1 : Nat))) = true →
 ((∃ b o,A1 = some ⟨b,o,none⟩)∧((0 : Int)≤n6∧(n6 : Int) < (l1 : Nat)) ∧
 (∃ b o,A1 = some ⟨b,o,none⟩)∧((0 : Int)≤n6∧(n6 : Int) < (l1 : Nat)) ∧
 ∃ cs7,Seg 3 cs7∧Sy.ReadAt k53.cell? A1 (Int.toNat n6*10+1) 3 (agg cs7) ∧
 Cl k53 73 #[agg #[slice A0 l0 c0,slice A1 l1 c1,slice A2 l2 c2],int .i64 n6] fun k55 r54=>Gt 3 r54 fun cs8 =>
 Cl k55 72 #[agg cs8,agg cs7] fun k57 r56=>∃ n9,some (int .i64 n9) = some r56 ∧
 ((decide ((n9 : Int) > 0)) = true →
 (∀ k58,Up k57 k58→R k58 (int .i64 60))) ∧
 ((decide ((n9 : Int) > 0)) = false →
 (∀ k59,Up k57 k59→∃ m,m < m53∧I53 m k59 [int .i64 (IntKind.wrap .i64 (n6+1))])))) ∧
 ((decide ((n6 : Int) < (l1 : Nat))) = false →
 (∀ k60,Up k53 k60→R k60 (int .i64 0))))))))))))))))))))))))))))) :
   CallsG Tryz.prog 30 #[agg #[slice A0 l0 c0,slice A1 l1 c1,slice A2 l2 c2]] k R :=
  aA (cfg:={ opq:=[89],loops:=[(0,[.tmp 3 false [.int .i64]]),(2,[.tmp 7 false [.int .i64]]),(4,[.tmp 9 false [.int .i64]]),(6,[.tmp 11 false [.int .i64]]),(8,[.tmp 13 false [.int .i64]])] }) (args:=[.agg [.var 0,.var 1,.var 2]]) (vals:=[slice A0 l0 c0,slice A1 l1 c1,slice A2 l2 c2]) (kinds:=[.slice,.slice,.slice]) (by kernel_rfl) ⟨⟨_,_,_,rfl⟩,⟨⟨_,_,_,rfl⟩,⟨⟨_,_,_,rfl⟩,trivial⟩⟩⟩ (by kernel_rfl) (by kernel_rfl) h
theorem aCw {A0 : Option Addr} {l0 c0 : Nat} {A1 : Option Addr} {l1 c1 : Nat} {A2 : Option Addr} {l2 c2 : Nat} {A3 : Option Addr} {l3 c3 : Nat} {A4 : Option Addr} {l4 c4 : Nat} {A5 : Option Addr} {l5 c5 : Nat}
 (h : true = true∧(true = true∧(((((l3 : Nat) : Int) == (l1 : Nat)) = true →
 (true = true∧(((((l4 : Nat) : Int) == (l1 : Nat)) = true →
 (true = true∧(∀ k0,Up k k0→R k0 (bool (((l5 : Nat) : Int) == (l1 : Nat)))))) ∧
 ((((l4 : Nat) : Int) == (l1 : Nat)) = false →
 (∀ k1,Up k k1→R k1 (bool false)))))) ∧
 ((((l3 : Nat) : Int) == (l1 : Nat)) = false →
 (∀ k2,Up k k2→R k2 (bool false)))))) :
   CallsG Tryz.prog 100 #[agg #[slice A0 l0 c0,slice A1 l1 c1,slice A2 l2 c2],agg #[slice A3 l3 c3,slice A4 l4 c4,slice A5 l5 c5]] k R :=
  aA (cfg:={ opq:=[89] }) (args:=[.agg [.var 0,.var 1,.var 2],.agg [.var 3,.var 4,.var 5]]) (vals:=[slice A0 l0 c0,slice A1 l1 c1,slice A2 l2 c2,slice A3 l3 c3,slice A4 l4 c4,slice A5 l5 c5]) (kinds:=[.slice,.slice,.slice,.slice,.slice,.slice]) (by kernel_rfl) ⟨⟨_,_,_,rfl⟩,⟨⟨_,_,_,rfl⟩,⟨⟨_,_,_,rfl⟩,⟨⟨_,_,_,rfl⟩,⟨⟨_,_,_,rfl⟩,⟨⟨_,_,_,rfl⟩,trivial⟩⟩⟩⟩⟩⟩ (by kernel_rfl) (by kernel_rfl) h
theorem aHn {A0 : Option Addr} {l0 c0 : Nat} {A1 : Option Addr} {l1 c1 : Nat} {A2 : Option Addr} {l2 c2 : Nat} {A3 : Option Addr} {l3 c3 : Nat} {A4 : Option Addr} {l4 c4 : Nat} {A5 : Option Addr} {l5 c5 : Nat}
 (h : Cl k 30 #[agg #[slice A0 l0 c0,slice A1 l1 c1,slice A2 l2 c2]] fun k1 r0=>∃ n6,some (int .i64 n6) = some r0 ∧
 (((n6 : Int) != 0) = true →
 (∀ k2,Up k1 k2→R k2 (int .i64 n6))) ∧
 (((n6 : Int) != 0) = false →
 (Cl k1 100 #[agg #[slice A0 l0 c0,slice A1 l1 c1,slice A2 l2 c2],agg #[slice A3 l3 c3,slice A4 l4 c4,slice A5 l5 c5]] fun k4 r3=>∃ b7,some (bool b7) = some r3 ∧
 ((!b7) = true →
 (∀ k5,Up k4 k5→R k5 (int .i64 4))) ∧
 ((!b7) = false →
 (∀ k6,Up k4 k6→R k6 (int .i64 0)))))) :
   CallsG Tryz.prog 54 #[agg #[slice A0 l0 c0,slice A1 l1 c1,slice A2 l2 c2],agg #[slice A3 l3 c3,slice A4 l4 c4,slice A5 l5 c5]] k R :=
  aA (cfg:={ opq:=[89] }) (args:=[.agg [.var 0,.var 1,.var 2],.agg [.var 3,.var 4,.var 5]]) (vals:=[slice A0 l0 c0,slice A1 l1 c1,slice A2 l2 c2,slice A3 l3 c3,slice A4 l4 c4,slice A5 l5 c5]) (kinds:=[.slice,.slice,.slice,.slice,.slice,.slice]) (by kernel_rfl) ⟨⟨_,_,_,rfl⟩,⟨⟨_,_,_,rfl⟩,⟨⟨_,_,_,rfl⟩,⟨⟨_,_,_,rfl⟩,⟨⟨_,_,_,rfl⟩,⟨⟨_,_,_,rfl⟩,trivial⟩⟩⟩⟩⟩⟩ (by kernel_rfl) (by kernel_rfl) h
theorem aFc {A0 : Option Addr} {l0 c0 : Nat} {A1 : Option Addr} {l1 c1 : Nat} {A2 : Option Addr} {l2 c2 : Nat} {A3 : Option Addr} {l3 c3 : Nat} {A4 : Option Addr} {l4 c4 : Nat} {A5 : Option Addr} {l5 c5 : Nat}
 (h : Cl k 62 #[int .i64 0] fun k1 r0=>Gt 3 r0 fun cs6 =>
 Cl k1 54 #[agg #[slice A0 l0 c0,slice A1 l1 c1,slice A2 l2 c2],agg #[slice A3 l3 c3,slice A4 l4 c4,slice A5 l5 c5]] fun k3 r2=>∃ n7,some (int .i64 n7) = some r2 ∧
 (((n7 : Int) != 0) = true →
 (∀ k4,Up k3 k4→R k4 (tuple #[agg cs6,int .i64 n7]))) ∧
 (((n7 : Int) != 0) = false →
 (∃ I5 : Nat→World→List Value→Prop,(∃ m5,∀ k5,Up k3 k5→I5 m5 k5 [int .i64 0,agg cs6]) ∧
 ∀ m5 k5 vs5,Up k3 k5→I5 m5 k5 vs5→∃ n8,∃ cs9,Seg 3 cs9∧some [int .i64 n8,agg cs9] = some vs5 ∧
 true = true∧(((decide ((n8 : Int) < (l1 : Nat))) = true →
 ((∃ b o,A1 = some ⟨b,o,none⟩)∧((0 : Int)≤n8∧(n8 : Int) < (l1 : Nat)) ∧
 (∃ b o,A1 = some ⟨b,o,none⟩)∧((0 : Int)≤n8∧(n8 : Int) < (l1 : Nat)) ∧
 ∃ cs10,Seg 3 cs10∧Sy.ReadAt k5.cell? A1 (Int.toNat n8*10+1) 3 (agg cs10) ∧
 (∃ b o,A3 = some ⟨b,o,none⟩)∧((0 : Int)≤n8∧(n8 : Int) < (l3 : Nat)) ∧
 ∃ cs11,Seg 3 cs11∧Sy.ReadAt k5.cell? A3 (Int.toNat n8*3+0) 3 (agg cs11) ∧
 Cl k5 81 #[agg cs10,agg cs11] fun k7 r6=>Gt 3 r6 fun cs12 =>
 Cl k7 80 #[agg cs9,agg cs12] fun k9 r8=>Gt 3 r8 fun cs13 =>
 ∀ k10,Up k9 k10→∃ m,m < m5∧I5 m k10 [int .i64 (IntKind.wrap .i64 (n8+1)),agg cs13])) ∧
 ((decide ((n8 : Int) < (l1 : Nat))) = false →
 (∀ k11,Up k5 k11→R k11 (tuple #[agg cs9,int .i64 0]))))))) :
   CallsG Tryz.prog 38 #[agg #[slice A0 l0 c0,slice A1 l1 c1,slice A2 l2 c2],agg #[slice A3 l3 c3,slice A4 l4 c4,slice A5 l5 c5]] k R :=
  aA (cfg:={ opq:=[89],loops:=[(0,[.tmp 8 false [.int .i64],.blk 3 [.seg 3]])] }) (args:=[.agg [.var 0,.var 1,.var 2],.agg [.var 3,.var 4,.var 5]]) (vals:=[slice A0 l0 c0,slice A1 l1 c1,slice A2 l2 c2,slice A3 l3 c3,slice A4 l4 c4,slice A5 l5 c5]) (kinds:=[.slice,.slice,.slice,.slice,.slice,.slice]) (by kernel_rfl) ⟨⟨_,_,_,rfl⟩,⟨⟨_,_,_,rfl⟩,⟨⟨_,_,_,rfl⟩,⟨⟨_,_,_,rfl⟩,⟨⟨_,_,_,rfl⟩,⟨⟨_,_,_,rfl⟩,trivial⟩⟩⟩⟩⟩⟩ (by kernel_rfl) (by kernel_rfl) h
end Go.Proofs.YtampehijkiencaaGreat

namespace Go.Proofs.YtampehijkiencaaGreat
open Go.RowKit
open Value (agg slice int bool tuple)
open Sy (Up Sees CallsG Seg aA)
set_option maxRecDepth 100000
variable {k : World} {R : World→Value→Prop}
theorem wA {A0 : Option Addr} {l0 c0 : Nat} {A1 : Option Addr} {l1 c1 : Nat} {A2 : Option Addr} {l2 c2 : Nat} {A3 : Option Addr} {l3 c3 : Nat} {A4 : Option Addr} {l4 c4 : Nat} {A5 : Option Addr} {l5 c5 : Nat} {n6 n7 n8 n9 : Int}
 (h : Cl k 18 #[agg #[slice A0 l0 c0,slice A1 l1 c1,slice A2 l2 c2],agg #[slice A3 l3 c3,slice A4 l4 c4,slice A5 l5 c5],int .i64 8] fun k1 r0=>∃ A10 l10 c10,∃ A11 l11 c11,∃ A12 l12 c12,∃ A13 l13 c13,∃ A14 l14 c14,∃ A15 l15 c15,∃ b16,some (tuple #[agg #[slice A10 l10 c10,slice A11 l11 c11,slice A12 l12 c12],agg #[slice A13 l13 c13,slice A14 l14 c14,slice A15 l15 c15],bool b16]) = some r0 ∧
 ((!b16) = true →
 (Cl k1 11 #[] fun k3 r2=>∃ b17,some (bool b17) = some r2 ∧
 ∀ k4,Up k3 k4→R k4 (bool b17))) ∧
 ((!b16) = false →
 (Cl k1 19 #[agg #[int .i64 n6,int .i64 n7]] fun k6 r5=>Gt 3 r5 fun cs17 =>
 Cl k6 19 #[agg #[int .i64 n8,int .i64 n9]] fun k8 r7=>Gt 3 r7 fun cs18 =>
 Cl k8 20 #[agg #[slice A10 l10 c10,slice A11 l11 c11,slice A12 l12 c12],agg #[slice A13 l13 c13,slice A14 l14 c14,slice A15 l15 c15],agg cs17,agg cs18] fun k10 r9=>∃ A19 l19 c19,∃ A20 l20 c20,∃ A21 l21 c21,∃ n22,some (tuple #[agg #[slice A19 l19 c19,slice A20 l20 c20,slice A21 l21 c21],int .i64 n22]) = some r9 ∧
 (((n22 : Int) != 0) = true →
 (∀ k11,Up k10 k11→R k11 (bool false))) ∧
 (((n22 : Int) != 0) = false →
 (Cl k10 21 #[agg #[slice A10 l10 c10,slice A11 l11 c11,slice A12 l12 c12],agg #[slice A19 l19 c19,slice A20 l20 c20,slice A21 l21 c21]] fun k13 r12=>∃ b23,some (bool b23) = some r12 ∧
 ((!b23) = true →
 (∀ k14,Up k13 k14→R k14 (bool false))) ∧
 ((!b23) = false →
 ((∃ b o,A13 = some ⟨b,o,none⟩)∧((0 : Int)≤0∧(0 : Int) < (l13 : Nat)) ∧
 ∃ cs24,Seg 3 cs24∧Sy.ReadAt k13.cell? A13 (Int.toNat 0*3+0) 3 (agg cs24) ∧
 (∃ b o,A13 = some ⟨b,o,none⟩)∧((0 : Int)≤0∧(0 : Int) < (l13 : Nat)) ∧
 ∃ cs25,Seg 3 cs25∧Sy.ReadAt k13.cell? A13 (Int.toNat 0*3+0) 3 (agg cs25) ∧
 true = true∧(∃ I15 : Nat→World→List Value→Prop,(∃ m15,∀ k15,Up k13 k15→I15 m15 k15 [int .i64 0,agg cs24,agg cs25]) ∧
 ∀ m15 k15 vs15,Up k13 k15→I15 m15 k15 vs15→∃ n26,∃ cs27,Seg 3 cs27∧∃ cs28,Seg 3 cs28∧some [int .i64 n26,agg cs27,agg cs28] = some vs15 ∧
 ((decide ((n26 : Int) < (l11 : Nat))) = true →
 ((∃ b o,A11 = some ⟨b,o,none⟩)∧((0 : Int)≤n26∧(n26 : Int) < (l11 : Nat)) ∧
 ∃ n29,∃ cs30,Seg 3 cs30∧∃ cs31,Seg 3 cs31∧∃ cs32,Seg 3 cs32∧Sy.ReadAt k15.cell? A11 (Int.toNat n26*10+0) 10 (agg ((int .i64 n29) :: (cs30.toList ++ (cs31.toList ++ (cs32.toList ++ ([]))))).toArray) ∧
 (∃ b o,A13 = some ⟨b,o,none⟩)∧((0 : Int)≤n26∧(n26 : Int) < (l13 : Nat)) ∧
 ∃ cs33,Seg 3 cs33∧Sy.ReadAt k15.cell? A13 (Int.toNat n26*3+0) 3 (agg cs33) ∧
 ∀ k16,Up k15 k16→Sy.CallsB Tryz.prog 22 [agg cs33] k16 71 71 (cs27.toList ++ ([])).toArray (cs28.toList ++ ([])).toArray fun k17 cs34 cs35 =>
 Cl k17 24 #[agg cs31] fun k19 r18=>∃ b36,some (bool b36) = some r18 ∧
 ((!b36) = true →
 (∀ k20,Up k19 k20→Sy.CallsB Tryz.prog 22 [agg cs17] k20 71 71 (cs34.toList ++ ([])).toArray (cs35.toList ++ ([])).toArray fun k21 cs37 cs38 =>
 Cl k21 24 #[agg cs32] fun k23 r22=>∃ b39,some (bool b39) = some r22 ∧
 ((!b39) = true →
 (∀ k24,Up k23 k24→Sy.CallsB Tryz.prog 22 [agg cs18] k24 71 71 (cs37.toList ++ ([])).toArray (cs38.toList ++ ([])).toArray fun k25 cs40 cs41 =>
 ∀ k26,Up k25 k26→∃ m,m < m15∧I15 m k26 [int .i64 (IntKind.wrap .i64 (n26+1)),agg cs40,agg cs41])) ∧
 ((!b39) = false →
 (∀ k27,Up k23 k27→∃ m,m < m15∧I15 m k27 [int .i64 (IntKind.wrap .i64 (n26+1)),agg cs37,agg cs38])))) ∧
 ((!b36) = false →
 (Cl k19 24 #[agg cs32] fun k29 r28=>∃ b37,some (bool b37) = some r28 ∧
 ((!b37) = true →
 (∀ k30,Up k29 k30→Sy.CallsB Tryz.prog 22 [agg cs18] k30 71 71 (cs34.toList ++ ([])).toArray (cs35.toList ++ ([])).toArray fun k31 cs38 cs39 =>
 ∀ k32,Up k31 k32→∃ m,m < m15∧I15 m k32 [int .i64 (IntKind.wrap .i64 (n26+1)),agg cs38,agg cs39])) ∧
 ((!b37) = false →
 (∀ k33,Up k29 k33→∃ m,m < m15∧I15 m k33 [int .i64 (IntKind.wrap .i64 (n26+1)),agg cs34,agg cs35])))))) ∧
 ((decide ((n26 : Int) < (l11 : Nat))) = false →
 (true = true∧(∃ I34 : Nat→World→List Value→Prop,(∃ m34,∀ k34,Up k15 k34→I34 m34 k34 [int .i64 0]) ∧
 ∀ m34 k34 vs34,Up k15 k34→I34 m34 k34 vs34→∃ n29,some [int .i64 n29] = some vs34 ∧
 ((decide ((n29 : Int) < (l11 : Nat))) = true →
 ((∃ b o,A19 = some ⟨b,o,none⟩)∧((0 : Int)≤n29∧(n29 : Int) < (l19 : Nat)) ∧
 ∃ cs30,Seg 3 cs30∧Sy.ReadAt k34.cell? A19 (Int.toNat n29*3+0) 3 (agg cs30) ∧
 Cl k34 23 #[agg cs30,agg cs27] fun k36 r35=>∃ n31,some (int .i64 n31) = some r35 ∧
 ((decide ((n31 : Int) < 0)) = true →
 (∀ k37,Up k36 k37→R k37 (bool false))) ∧
 ((decide ((n31 : Int) < 0)) = false →
 ((∃ b o,A19 = some ⟨b,o,none⟩)∧((0 : Int)≤n29∧(n29 : Int) < (l19 : Nat)) ∧
 ∃ cs32,Seg 3 cs32∧Sy.ReadAt k36.cell? A19 (Int.toNat n29*3+0) 3 (agg cs32) ∧
 Cl k36 23 #[agg cs32,agg cs28] fun k39 r38=>∃ n33,some (int .i64 n33) = some r38 ∧
 ((decide ((n33 : Int) > 0)) = true →
 (∀ k40,Up k39 k40→R k40 (bool false))) ∧
 ((decide ((n33 : Int) > 0)) = false →
 ((∃ b o,A20 = some ⟨b,o,none⟩)∧((0 : Int)≤n29∧(n29 : Int) < (l20 : Nat)) ∧
 ∃ cs34,Seg 3 cs34∧Sy.ReadAt k39.cell? A20 (Int.toNat n29*3+0) 3 (agg cs34) ∧
 (∃ b o,A14 = some ⟨b,o,none⟩)∧((0 : Int)≤n29∧(n29 : Int) < (l14 : Nat)) ∧
 ∃ cs35,Seg 3 cs35∧Sy.ReadAt k39.cell? A14 (Int.toNat n29*3+0) 3 (agg cs35) ∧
 Cl k39 23 #[agg cs34,agg cs35] fun k42 r41=>∃ n36,some (int .i64 n36) = some r41 ∧
 ((decide ((n36 : Int) < 0)) = true →
 (∀ k43,Up k42 k43→R k43 (bool false))) ∧
 ((decide ((n36 : Int) < 0)) = false →
 ((∃ b o,A21 = some ⟨b,o,none⟩)∧((0 : Int)≤n29∧(n29 : Int) < (l21 : Nat)) ∧
 ∃ cs37,Seg 3 cs37∧Sy.ReadAt k42.cell? A21 (Int.toNat n29*3+0) 3 (agg cs37) ∧
 (∃ b o,A15 = some ⟨b,o,none⟩)∧((0 : Int)≤n29∧(n29 : Int) < (l15 : Nat)) ∧
 ∃ cs38,Seg 3 cs38∧Sy.ReadAt k42.cell? A15 (Int.toNat n29*3+0) 3 (agg cs38) ∧
 Cl k42 23 #[agg cs37,agg cs38] fun k45 r44=>∃ n39,some (int .i64 n39) = some r44 ∧
 ((decide ((n39 : Int) < 0)) = true →
 (∀ k46,Up k45 k46→R k46 (bool false))) ∧
 ((decide ((n39 : Int) < 0)) = false →
 (∀ k47,Up k45 k47→∃ m,m < m34∧I34 m k47 [int .i64 (IntKind.wrap .i64 (n29+1))])))))))))) ∧
 ((decide ((n29 : Int) < (l11 : Nat))) = false →
 (Cl k34 11 #[] fun k49 r48=>∃ b30,some (bool b30) = some r48 ∧
 ∀ k50,Up k49 k50→R k50 (bool b30)))))))))))))) :
  CallsG Tryz.prog 4 #[agg #[slice A0 l0 c0,slice A1 l1 c1,slice A2 l2 c2],agg #[slice A3 l3 c3,slice A4 l4 c4,slice A5 l5 c5],agg #[int .i64 n6,int .i64 n7],agg #[int .i64 n8,int .i64 n9]] k R :=
  aA (cfg:={ opq:=[71,89],loops:=[(0,[.tmp 64 false [.int .i64],.blk 9 [.seg 3],.blk 10 [.seg 3]]),(2,[.tmp 94 false [.int .i64]])],wr:=[22] }) (args:=[.agg [.var 0,.var 1,.var 2],.agg [.var 3,.var 4,.var 5],.agg [.var 6,.var 7],.agg [.var 8,.var 9]]) (vals:=[slice A0 l0 c0,slice A1 l1 c1,slice A2 l2 c2,slice A3 l3 c3,slice A4 l4 c4,slice A5 l5 c5,int .i64 n6,int .i64 n7,int .i64 n8,int .i64 n9]) (kinds:=[.slice,.slice,.slice,.slice,.slice,.slice,.int .i64,.int .i64,.int .i64,.int .i64]) (by kernel_rfl) ⟨⟨_,_,_,rfl⟩,⟨⟨_,_,_,rfl⟩,⟨⟨_,_,_,rfl⟩,⟨⟨_,_,_,rfl⟩,⟨⟨_,_,_,rfl⟩,⟨⟨_,_,_,rfl⟩,⟨⟨_,rfl⟩,⟨⟨_,rfl⟩,⟨⟨_,rfl⟩,⟨⟨_,rfl⟩,trivial⟩⟩⟩⟩⟩⟩⟩⟩⟩⟩ (by kernel_rfl) (by kernel_rfl) h
end Go.Proofs.YtampehijkiencaaGreat

