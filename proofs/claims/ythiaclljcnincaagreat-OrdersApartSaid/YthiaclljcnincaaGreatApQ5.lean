/- Several texts in one. (Printed by prep.py.) -/
import Derived.Test.YthiaclljcnincaaGreatApS6
namespace Go.Proofs.YthiaclljcnincaaGreat
open Go.RowKit
open Value (agg slice int bool tuple)
open Sy (Up Sees CallsG Seg execFn_use)
set_option maxRecDepth 100000
variable {k:World}{R:World→Value→Prop}
end Go.Proofs.YthiaclljcnincaaGreat

namespace Go.Proofs.YthiaclljcnincaaGreat
open Go.RowKit Num Plain
open Sy (Up Sees CallsG Seg)
section
variable {k:World}{R:World→Value→Prop}{K L:Nat}
def ofQ (n d:Int):Rat:=if d=0 then (n:Rat) else (n:Rat) / (d:Rat)
def In64 (n:Int):Prop:=-9223372036854775808≤n∧n<9223372036854775808
end
open IntKind (wrap)
open Value (agg slice int bool tuple)
open Sy (Up Sees CallsG Seg execFn_use)
set_option maxRecDepth 100000
variable {k:World}{R:World→Value→Prop}{A0 A1:Option Addr}{c0 c1 l0 l1:Nat}{n0 n1:Int}
theorem aUc 
 (h:Tt∧(∃I0:Nat→World→List Value→Prop,(∃m0,∀k0,Up k k0→I0 m0 k0 [int .i64 (l0:Nat)])∧
 ∀m0 k0 vs0,Up k k0→I0 m0 k0 vs0→∃n1,some [int .i64 n1]=some vs0∧
 Br (decide ((n1:Int) > 0)) (Ad A0∧((0:Int)≤(wrap .i64 (n1-1))∧((wrap .i64 (n1-1)):Int)<(l0:Nat))∧
 ∃n2,Sy.ReadAt k0.cell? A0 (Int.toNat (wrap .i64 (n1-1))*1+0) 1 (int .u32 n2)∧
 Br ((n2:Int) == 0) (∀k1,Up k0 k1→∃m,m<m0∧I0 m k1 [int .i64 (wrap .i64 (n1-1))]) (∃A3 l3 c3,Sy.slcD 1 (slice A0 l0 c0) (int .i64 0) (int .i64 n1)=some (slice A3 l3 c3)∧
 Rt R k0 (slice A3 l3 c3))) (∃A2 l2 c2,Sy.slcD 1 (slice A0 l0 c0) (int .i64 0) (int .i64 n1)=some (slice A2 l2 c2)∧
 Rt R k0 (slice A2 l2 c2)))) :
  CallsG Tryz.prog 123 #[slice A0 l0 c0] k R:=
  qY { opq:=[],loops:=[(0,[.tmp 3 false [.int .i64]])] } h
theorem aUd 
 (h:∀p1 k0,Up k k0→Sy.Blk k0 p1 148 #[int .u32 (wrap .u32 n0),int .u32 (wrap .u32 (Int.fdiv n0 (2^(min (Int.toNat 32) (IntKind.bits .u64)))))]→
 Cl k0 123 #[slice (some ⟨p1,0,none⟩) 2 2] fun k2 r1=>∃A2 l2 c2,some (slice A2 l2 c2)=some r1∧
 Rt R k2 (slice A2 l2 c2)) :
  CallsG Tryz.prog 98 #[int .u64 n0] k R:=
  qY { opq:=[] } h
theorem aIl 
 (h:Tt∧(Tt∧(Br (decide (((l0:Nat):Int)<(l1:Nat))) (Rt R k (int .i64 (-1))) (Tt∧(Tt∧(Br (decide (((l0:Nat):Int) > (l1:Nat))) (Rt R k (int .i64 1)) (Tt∧(∃I2:Nat→World→List Value→Prop,(∃m2,∀k2,Up k k2→I2 m2 k2 [int .i64 (wrap .i64 ((l0:Nat)-1))])∧
 ∀m2 k2 vs2,Up k k2→I2 m2 k2 vs2→∃n2,some [int .i64 n2]=some vs2∧
 Br (decide ((n2:Int) ≥ 0)) (Ad A0∧Ix n2 l0∧
 ∃n3,Sy.ReadAt k2.cell? A0 (Int.toNat n2*1+0) 1 (int .u32 n3)∧
 Ad A1∧Ix n2 l1∧
 ∃n4,Sy.ReadAt k2.cell? A1 (Int.toNat n2*1+0) 1 (int .u32 n4)∧
 Br (decide ((n3:Int)<n4)) (Rt R k2 (int .i64 (-1))) (Ad A0∧Ix n2 l0∧
 ∃n5,Sy.ReadAt k2.cell? A0 (Int.toNat n2*1+0) 1 (int .u32 n5)∧
 Ad A1∧Ix n2 l1∧
 ∃n6,Sy.ReadAt k2.cell? A1 (Int.toNat n2*1+0) 1 (int .u32 n6)∧
 Br (decide ((n5:Int) > n6)) (Rt R k2 (int .i64 1)) (∀k5,Up k2 k5→∃m,m<m2∧I2 m k5 [int .i64 (wrap .i64 (n2-1))]))) (Rt R k2 (int .i64 0)))))))))) :
  CallsG Tryz.prog 128 #[slice A0 l0 c0,slice A1 l1 c1] k R:=
  qY { opq:=[],loops:=[(0,[.tmp 5 false [.int .i64]])] } h
theorem aUf 
 (h:∀(A2:Option Addr) (l2 c2:Nat) (cs3:Array Value),l2=0→cs3=([]:List Value).toArray→l2≤c2→
 ∃I0:Nat→World→List Value→Prop,(∃m0,∀k0,Up k k0→I0 m0 k0 [tuple #[slice A2 l2 c2,agg cs3],int .u64 0,int .i64 0])∧
 ∀m0 k0 vs0,Up k k0→I0 m0 k0 vs0→∃A4 l4 c4,∃cs5,Sy.RowC cs5∧∃n6,∃n7,some [tuple #[slice A4 l4 c4,agg cs5],int .u64 n6,int .i64 n7]=some vs0∧
 Tt∧(Br (decide ((n7:Int)<(l0:Nat))) (Tt∧(Br (decide ((n7:Int)<(l0:Nat))) (Ad A0∧Ix n7 l0∧
 ∃n8,Sy.ReadAt k0.cell? A0 (Int.toNat n7*1+0) 1 (int .u32 n8)∧
 Tt∧(Br (decide ((n7:Int)<(l1:Nat))) (Ad A1∧Ix n7 l1∧
 ∃n9,Sy.ReadAt k0.cell? A1 (Int.toNat n7*1+0) 1 (int .u32 n9)∧
 ([int .u32 (wrap .u32 (wrap .u64 ((wrap .u64 (n6+(wrap .u64 n8)))+(wrap .u64 n9))))]:List Value).length=Int.toNat 1*1∧(0:Int)≤1∧Sy.sizeOk 4 (l4+Int.toNat 1)∧∀(A10:Option Addr) (l10 c10:Nat) (cs11:Array Value),l10=l4+Int.toNat 1→cs11=cs5++([int .u32 (wrap .u32 (wrap .u64 ((wrap .u64 (n6+(wrap .u64 n8)))+(wrap .u64 n9))))]:List Value).toArray→l10≤c10→
 ∀k1,Up k0 k1→∃m,m<m0∧I0 m k1 [tuple #[slice A10 l10 c10,agg cs11],int .u64 (Int.fdiv (wrap .u64 ((wrap .u64 (n6+(wrap .u64 n8)))+(wrap .u64 n9))) (2^(min (Int.toNat 32) (IntKind.bits .u64)))),int .i64 (wrap .i64 (n7+1))]) (([int .u32 (wrap .u32 (wrap .u64 (n6+(wrap .u64 n8))))]:List Value).length=Int.toNat 1*1∧(0:Int)≤1∧Sy.sizeOk 4 (l4+Int.toNat 1)∧∀(A9:Option Addr) (l9 c9:Nat) (cs10:Array Value),l9=l4+Int.toNat 1→cs10=cs5++([int .u32 (wrap .u32 (wrap .u64 (n6+(wrap .u64 n8))))]:List Value).toArray→l9≤c9→
 ∀k2,Up k0 k2→∃m,m<m0∧I0 m k2 [tuple #[slice A9 l9 c9,agg cs10],int .u64 (Int.fdiv (wrap .u64 (n6+(wrap .u64 n8))) (2^(min (Int.toNat 32) (IntKind.bits .u64)))),int .i64 (wrap .i64 (n7+1))]))) (Tt∧(Br (decide ((n7:Int)<(l1:Nat))) (Ad A1∧Ix n7 l1∧
 ∃n8,Sy.ReadAt k0.cell? A1 (Int.toNat n7*1+0) 1 (int .u32 n8)∧
 ([int .u32 (wrap .u32 (wrap .u64 (n6+(wrap .u64 n8))))]:List Value).length=Int.toNat 1*1∧(0:Int)≤1∧Sy.sizeOk 4 (l4+Int.toNat 1)∧∀(A9:Option Addr) (l9 c9:Nat) (cs10:Array Value),l9=l4+Int.toNat 1→cs10=cs5++([int .u32 (wrap .u32 (wrap .u64 (n6+(wrap .u64 n8))))]:List Value).toArray→l9≤c9→
 ∀k3,Up k0 k3→∃m,m<m0∧I0 m k3 [tuple #[slice A9 l9 c9,agg cs10],int .u64 (Int.fdiv (wrap .u64 (n6+(wrap .u64 n8))) (2^(min (Int.toNat 32) (IntKind.bits .u64)))),int .i64 (wrap .i64 (n7+1))]) (([int .u32 (wrap .u32 n6)]:List Value).length=Int.toNat 1*1∧(0:Int)≤1∧Sy.sizeOk 4 (l4+Int.toNat 1)∧∀(A8:Option Addr) (l8 c8:Nat) (cs9:Array Value),l8=l4+Int.toNat 1→cs9=cs5++([int .u32 (wrap .u32 n6)]:List Value).toArray→l8≤c8→
 ∀k4,Up k0 k4→∃m,m<m0∧I0 m k4 [tuple #[slice A8 l8 c8,agg cs9],int .u64 (Int.fdiv n6 (2^(min (Int.toNat 32) (IntKind.bits .u64)))),int .i64 (wrap .i64 (n7+1))]))))) (Tt∧(Br (decide ((n7:Int)<(l1:Nat))) (Tt∧(Br (decide ((n7:Int)<(l0:Nat))) (Ad A0∧Ix n7 l0∧
 ∃n8,Sy.ReadAt k0.cell? A0 (Int.toNat n7*1+0) 1 (int .u32 n8)∧
 Tt∧(Br (decide ((n7:Int)<(l1:Nat))) (Ad A1∧Ix n7 l1∧
 ∃n9,Sy.ReadAt k0.cell? A1 (Int.toNat n7*1+0) 1 (int .u32 n9)∧
 ([int .u32 (wrap .u32 (wrap .u64 ((wrap .u64 (n6+(wrap .u64 n8)))+(wrap .u64 n9))))]:List Value).length=Int.toNat 1*1∧(0:Int)≤1∧Sy.sizeOk 4 (l4+Int.toNat 1)∧∀(A10:Option Addr) (l10 c10:Nat) (cs11:Array Value),l10=l4+Int.toNat 1→cs11=cs5++([int .u32 (wrap .u32 (wrap .u64 ((wrap .u64 (n6+(wrap .u64 n8)))+(wrap .u64 n9))))]:List Value).toArray→l10≤c10→
 ∀k5,Up k0 k5→∃m,m<m0∧I0 m k5 [tuple #[slice A10 l10 c10,agg cs11],int .u64 (Int.fdiv (wrap .u64 ((wrap .u64 (n6+(wrap .u64 n8)))+(wrap .u64 n9))) (2^(min (Int.toNat 32) (IntKind.bits .u64)))),int .i64 (wrap .i64 (n7+1))]) (([int .u32 (wrap .u32 (wrap .u64 (n6+(wrap .u64 n8))))]:List Value).length=Int.toNat 1*1∧(0:Int)≤1∧Sy.sizeOk 4 (l4+Int.toNat 1)∧∀(A9:Option Addr) (l9 c9:Nat) (cs10:Array Value),l9=l4+Int.toNat 1→cs10=cs5++([int .u32 (wrap .u32 (wrap .u64 (n6+(wrap .u64 n8))))]:List Value).toArray→l9≤c9→
 ∀k6,Up k0 k6→∃m,m<m0∧I0 m k6 [tuple #[slice A9 l9 c9,agg cs10],int .u64 (Int.fdiv (wrap .u64 (n6+(wrap .u64 n8))) (2^(min (Int.toNat 32) (IntKind.bits .u64)))),int .i64 (wrap .i64 (n7+1))]))) (Tt∧(Br (decide ((n7:Int)<(l1:Nat))) (Ad A1∧Ix n7 l1∧
 ∃n8,Sy.ReadAt k0.cell? A1 (Int.toNat n7*1+0) 1 (int .u32 n8)∧
 ([int .u32 (wrap .u32 (wrap .u64 (n6+(wrap .u64 n8))))]:List Value).length=Int.toNat 1*1∧(0:Int)≤1∧Sy.sizeOk 4 (l4+Int.toNat 1)∧∀(A9:Option Addr) (l9 c9:Nat) (cs10:Array Value),l9=l4+Int.toNat 1→cs10=cs5++([int .u32 (wrap .u32 (wrap .u64 (n6+(wrap .u64 n8))))]:List Value).toArray→l9≤c9→
 ∀k7,Up k0 k7→∃m,m<m0∧I0 m k7 [tuple #[slice A9 l9 c9,agg cs10],int .u64 (Int.fdiv (wrap .u64 (n6+(wrap .u64 n8))) (2^(min (Int.toNat 32) (IntKind.bits .u64)))),int .i64 (wrap .i64 (n7+1))]) (([int .u32 (wrap .u32 n6)]:List Value).length=Int.toNat 1*1∧(0:Int)≤1∧Sy.sizeOk 4 (l4+Int.toNat 1)∧∀(A8:Option Addr) (l8 c8:Nat) (cs9:Array Value),l8=l4+Int.toNat 1→cs9=cs5++([int .u32 (wrap .u32 n6)]:List Value).toArray→l8≤c8→
 ∀k8,Up k0 k8→∃m,m<m0∧I0 m k8 [tuple #[slice A8 l8 c8,agg cs9],int .u64 (Int.fdiv n6 (2^(min (Int.toNat 32) (IntKind.bits .u64)))),int .i64 (wrap .i64 (n7+1))]))))) (([int .u32 (wrap .u32 n6)]:List Value).length=Int.toNat 1*1∧(0:Int)≤1∧Sy.sizeOk 4 (l4+Int.toNat 1)∧∀(A8:Option Addr) (l8 c8:Nat) (cs9:Array Value),l8=l4+Int.toNat 1→cs9=cs5++([int .u32 (wrap .u32 n6)]:List Value).toArray→l8≤c8→
 ∀k9,Up k0 k9→Sy.RowAt k9 A8 cs9→
 Cl k9 123 #[slice A8 l8 c8] fun k11 r10=>∃A10 l10 c10,some (slice A10 l10 c10)=some r10∧
 Rt R k11 (slice A10 l10 c10)))))) :
  CallsG Tryz.prog 127 #[slice A0 l0 c0,slice A1 l1 c1] k R:=
  qY { opq:=[],loops:=[(0,[.rw 5 148 1,.tmp 6 false [.int .u64],.tmp 7 false [.int .i64]])] } h
theorem aNi 
 (h:∀(A2:Option Addr) (l2 c2:Nat) (cs3:Array Value),l2=0→cs3=([]:List Value).toArray→l2≤c2→
 ∃I0:Nat→World→List Value→Prop,(∃m0,∀k0,Up k k0→I0 m0 k0 [tuple #[slice A2 l2 c2,agg cs3],int .i64 0,int .i64 0])∧
 ∀m0 k0 vs0,Up k k0→I0 m0 k0 vs0→∃A4 l4 c4,∃cs5,Sy.RowC cs5∧∃n6,∃n7,some [tuple #[slice A4 l4 c4,agg cs5],int .i64 n6,int .i64 n7]=some vs0∧
 Tt∧(Br (decide ((n7:Int)<(l0:Nat))) (Ad A0∧Ix n7 l0∧
 ∃n8,Sy.ReadAt k0.cell? A0 (Int.toNat n7*1+0) 1 (int .u32 n8)∧
 Tt∧(Br (decide ((n7:Int)<(l1:Nat))) (Ad A1∧Ix n7 l1∧
 ∃n9,Sy.ReadAt k0.cell? A1 (Int.toNat n7*1+0) 1 (int .u32 n9)∧
 Br (decide (((wrap .i64 ((wrap .i64 ((wrap .i64 n8)-n6))-(wrap .i64 n9))):Int)<0)) (([int .u32 (wrap .u32 (wrap .i64 ((wrap .i64 ((wrap .i64 ((wrap .i64 n8)-n6))-(wrap .i64 n9)))+4294967296)))]:List Value).length=Int.toNat 1*1∧(0:Int)≤1∧Sy.sizeOk 4 (l4+Int.toNat 1)∧∀(A10:Option Addr) (l10 c10:Nat) (cs11:Array Value),l10=l4+Int.toNat 1→cs11=cs5++([int .u32 (wrap .u32 (wrap .i64 ((wrap .i64 ((wrap .i64 ((wrap .i64 n8)-n6))-(wrap .i64 n9)))+4294967296)))]:List Value).toArray→l10≤c10→
 ∀k1,Up k0 k1→∃m,m<m0∧I0 m k1 [tuple #[slice A10 l10 c10,agg cs11],int .i64 1,int .i64 (wrap .i64 (n7+1))]) (([int .u32 (wrap .u32 (wrap .i64 ((wrap .i64 ((wrap .i64 n8)-n6))-(wrap .i64 n9))))]:List Value).length=Int.toNat 1*1∧(0:Int)≤1∧Sy.sizeOk 4 (l4+Int.toNat 1)∧∀(A10:Option Addr) (l10 c10:Nat) (cs11:Array Value),l10=l4+Int.toNat 1→cs11=cs5++([int .u32 (wrap .u32 (wrap .i64 ((wrap .i64 ((wrap .i64 n8)-n6))-(wrap .i64 n9))))]:List Value).toArray→l10≤c10→
 ∀k2,Up k0 k2→∃m,m<m0∧I0 m k2 [tuple #[slice A10 l10 c10,agg cs11],int .i64 0,int .i64 (wrap .i64 (n7+1))])) (Br (decide (((wrap .i64 ((wrap .i64 n8)-n6)):Int)<0)) (([int .u32 (wrap .u32 (wrap .i64 ((wrap .i64 ((wrap .i64 n8)-n6))+4294967296)))]:List Value).length=Int.toNat 1*1∧(0:Int)≤1∧Sy.sizeOk 4 (l4+Int.toNat 1)∧∀(A9:Option Addr) (l9 c9:Nat) (cs10:Array Value),l9=l4+Int.toNat 1→cs10=cs5++([int .u32 (wrap .u32 (wrap .i64 ((wrap .i64 ((wrap .i64 n8)-n6))+4294967296)))]:List Value).toArray→l9≤c9→
 ∀k3,Up k0 k3→∃m,m<m0∧I0 m k3 [tuple #[slice A9 l9 c9,agg cs10],int .i64 1,int .i64 (wrap .i64 (n7+1))]) (([int .u32 (wrap .u32 (wrap .i64 ((wrap .i64 n8)-n6)))]:List Value).length=Int.toNat 1*1∧(0:Int)≤1∧Sy.sizeOk 4 (l4+Int.toNat 1)∧∀(A9:Option Addr) (l9 c9:Nat) (cs10:Array Value),l9=l4+Int.toNat 1→cs10=cs5++([int .u32 (wrap .u32 (wrap .i64 ((wrap .i64 n8)-n6)))]:List Value).toArray→l9≤c9→
 ∀k4,Up k0 k4→∃m,m<m0∧I0 m k4 [tuple #[slice A9 l9 c9,agg cs10],int .i64 0,int .i64 (wrap .i64 (n7+1))])))) (∀k5,Up k0 k5→Sy.RowAt k5 A4 cs5→
 Cl k5 123 #[slice A4 l4 c4] fun k7 r6=>∃A8 l8 c8,some (slice A8 l8 c8)=some r6∧
 Rt R k7 (slice A8 l8 c8)))) :
  CallsG Tryz.prog 129 #[slice A0 l0 c0,slice A1 l1 c1] k R:=
  qY { opq:=[],loops:=[(0,[.rw 5 148 1,.tmp 6 false [.int .i64],.tmp 7 false [.int .i64]])] } h
theorem aNl 
 (h:Tt∧(Tt∧((0:Int)≤(wrap .i64 ((l0:Nat)+(l1:Nat)))∧Sy.sizeOk 4 (Int.toNat (wrap .i64 ((l0:Nat)+(l1:Nat))))∧∀(A2:Option Addr) (l2 c2:Nat) (cs3:Array Value),l2=Int.toNat (wrap .i64 ((l0:Nat)+(l1:Nat)))→cs3=madeCells [int .u32 0].toArray (Int.toNat (wrap .i64 ((l0:Nat)+(l1:Nat)))*1)→l2≤c2→
 ∃I0:Nat→World→List Value→Prop,(∃m0,∀k0,Up k k0→I0 m0 k0 [tuple #[slice A2 l2 c2,agg cs3],int .i64 0])∧
 ∀m0 k0 vs0,Up k k0→I0 m0 k0 vs0→∃A4 l4 c4,∃cs5,Sy.RowC cs5∧∃n6,some [tuple #[slice A4 l4 c4,agg cs5],int .i64 n6]=some vs0∧
 Tt∧(Br (decide ((n6:Int)<(l0:Nat))) (∃I1:Nat→World→List Value→Prop,(∃m1,∀k1,Up k0 k1→I1 m1 k1 [tuple #[slice A4 l4 c4,agg cs5],int .u64 0,int .i64 0])∧
 ∀m1 k1 vs1,Up k0 k1→I1 m1 k1 vs1→∃A7 l7 c7,∃cs8,Sy.RowC cs8∧∃n9,∃n10,some [tuple #[slice A7 l7 c7,agg cs8],int .u64 n9,int .i64 n10]=some vs1∧
 Tt∧(Br (decide ((n10:Int)<(l1:Nat))) (Ad A0∧Ix n6 l0∧
 ∃n11,Sy.ReadAt k1.cell? A0 (Int.toNat n6*1+0) 1 (int .u32 n11)∧
 Ad A1∧Ix n10 l1∧
 ∃n12,Sy.ReadAt k1.cell? A1 (Int.toNat n10*1+0) 1 (int .u32 n12)∧
 (decide ((0:Int)≤(wrap .i64 (n6+n10))∧((wrap .i64 (n6+n10)):Int)<(l7:Nat)))=true∧
 (∃n13,Sy.ReadIn cs8 (Int.toNat (wrap .i64 (n6+n10))*1+0) 1 (int .u32 n13)∧
 (decide ((0:Int)≤(wrap .i64 (n6+n10))∧((wrap .i64 (n6+n10)):Int)<(l7:Nat)))=true∧
 (((0:Int)≤(wrap .i64 (n6+n10))∧((wrap .i64 (n6+n10)):Int)<(l7:Nat))∧∀cs14:Array Value,cs14=Sy.over cs8 (Int.toNat (wrap .i64 (n6+n10))*1+0) ([int .u32 (wrap .u32 (wrap .u64 ((wrap .u64 (n9+(wrap .u64 ((wrap .u64 n11)*(wrap .u64 n12)))))+(wrap .u64 n13))))])→
 ∀k2,Up k1 k2→∃m,m<m1∧I1 m k2 [tuple #[slice A7 l7 c7,agg cs14],int .u64 (Int.fdiv (wrap .u64 ((wrap .u64 (n9+(wrap .u64 ((wrap .u64 n11)*(wrap .u64 n12)))))+(wrap .u64 n13))) (2^(min (Int.toNat 32) (IntKind.bits .u64)))),int .i64 (wrap .i64 (n10+1))]))) (Tt∧((decide ((0:Int)≤(wrap .i64 (n6+(l1:Nat)))∧((wrap .i64 (n6+(l1:Nat))):Int)<(l7:Nat)))=true∧
 (((0:Int)≤(wrap .i64 (n6+(l1:Nat)))∧((wrap .i64 (n6+(l1:Nat))):Int)<(l7:Nat))∧∀cs11:Array Value,cs11=Sy.over cs8 (Int.toNat (wrap .i64 (n6+(l1:Nat)))*1+0) ([int .u32 (wrap .u32 n9)])→
 ∀k3,Up k1 k3→∃m,m<m0∧I0 m k3 [tuple #[slice A7 l7 c7,agg cs11],int .i64 (wrap .i64 (n6+1))]))))) (∀k4,Up k0 k4→Sy.RowAt k4 A4 cs5→
 Cl k4 123 #[slice A4 l4 c4] fun k6 r5=>∃A7 l7 c7,some (slice A7 l7 c7)=some r5∧
 Rt R k6 (slice A7 l7 c7)))))) :
  CallsG Tryz.prog 126 #[slice A0 l0 c0,slice A1 l1 c1] k R:=
  qY { opq:=[],loops:=[(0,[.rw 5 148 1,.tmp 6 false [.int .i64]]),(2,[.rw 5 148 1,.tmp 7 false [.int .u64],.tmp 8 false [.int .i64]])] } h
theorem aNh 
 (h:Tt∧(Br (((l0:Nat):Int) == 0) (Rt R k (int .i64 0)) (Tt∧(Tt∧(Ad A0∧((0:Int)≤(wrap .i64 ((l0:Nat)-1))∧((wrap .i64 ((l0:Nat)-1)):Int)<(l0:Nat))∧
 ∃n1,Sy.ReadAt k.cell? A0 (Int.toNat (wrap .i64 ((l0:Nat)-1))*1+0) 1 (int .u32 n1)∧
 ∃I1:Nat→World→List Value→Prop,(∃m1,∀k1,Up k k1→I1 m1 k1 [int .i64 (wrap .i64 (32*(wrap .i64 ((l0:Nat)-1)))),int .u32 n1])∧
 ∀m1 k1 vs1,Up k k1→I1 m1 k1 vs1→∃n2,∃n3,some [int .i64 n2,int .u32 n3]=some vs1∧
 Br (decide ((n3:Int) > 0)) (∀k2,Up k1 k2→∃m,m<m1∧I1 m k2 [int .i64 (wrap .i64 (n2+1)),int .u32 (Int.fdiv n3 (2^(min (Int.toNat 1) (IntKind.bits .u32))))]) (Rt R k1 (int .i64 n2))))))) :
  CallsG Tryz.prog 139 #[slice A0 l0 c0] k R:=
  qY { opq:=[],loops:=[(0,[.tmp 3 false [.int .i64],.tmp 4 false [.int .u32]])] } h
theorem aDd 
 (h:Tt∧(Br (((l0:Nat):Int) == 0) (Rt R k (slice none 0 0)) ((0:Int)≤(wrap .i64 (Int.tdiv n1 32))∧Sy.sizeOk 4 (Int.toNat (wrap .i64 (Int.tdiv n1 32)))∧∀(A2:Option Addr) (l2 c2:Nat) (cs3:Array Value),l2=Int.toNat (wrap .i64 (Int.tdiv n1 32))→cs3=madeCells [int .u32 0].toArray (Int.toNat (wrap .i64 (Int.tdiv n1 32))*1)→l2≤c2→
 ∃I1:Nat→World→List Value→Prop,(∃m1,∀k1,Up k k1→I1 m1 k1 [tuple #[slice A2 l2 c2,agg cs3],int .u64 0,int .i64 0])∧
 ∀m1 k1 vs1,Up k k1→I1 m1 k1 vs1→∃A4 l4 c4,∃cs5,Sy.RowC cs5∧∃n6,∃n7,some [tuple #[slice A4 l4 c4,agg cs5],int .u64 n6,int .i64 n7]=some vs1∧
 Tt∧(Br (decide ((n7:Int)<(l0:Nat))) (Ad A0∧Ix n7 l0∧
 ∃n8,Sy.ReadAt k1.cell? A0 (Int.toNat n7*1+0) 1 (int .u32 n8)∧
 (decide ((0:Int)≤(wrap .u64 (Int.tmod n1 32))))=true∧
 (([int .u32 (wrap .u32 (wrap .u64 (BitVec.toNat (BitVec.ofInt (IntKind.bits .u64) (wrap .u64 ((wrap .u64 n8)*2^(min (Int.toNat (wrap .u64 (Int.tmod n1 32))) (IntKind.bits .u64)))) ||| BitVec.ofInt (IntKind.bits .u64) n6))))]:List Value).length=Int.toNat 1*1∧(0:Int)≤1∧Sy.sizeOk 4 (l4+Int.toNat 1)∧∀(A9:Option Addr) (l9 c9:Nat) (cs10:Array Value),l9=l4+Int.toNat 1→cs10=cs5++([int .u32 (wrap .u32 (wrap .u64 (BitVec.toNat (BitVec.ofInt (IntKind.bits .u64) (wrap .u64 ((wrap .u64 n8)*2^(min (Int.toNat (wrap .u64 (Int.tmod n1 32))) (IntKind.bits .u64)))) ||| BitVec.ofInt (IntKind.bits .u64) n6))))]:List Value).toArray→l9≤c9→
 ∀k2,Up k1 k2→∃m,m<m1∧I1 m k2 [tuple #[slice A9 l9 c9,agg cs10],int .u64 (Int.fdiv (wrap .u64 (BitVec.toNat (BitVec.ofInt (IntKind.bits .u64) (wrap .u64 ((wrap .u64 n8)*2^(min (Int.toNat (wrap .u64 (Int.tmod n1 32))) (IntKind.bits .u64)))) ||| BitVec.ofInt (IntKind.bits .u64) n6))) (2^(min (Int.toNat 32) (IntKind.bits .u64)))),int .i64 (wrap .i64 (n7+1))])) (([int .u32 (wrap .u32 n6)]:List Value).length=Int.toNat 1*1∧(0:Int)≤1∧Sy.sizeOk 4 (l4+Int.toNat 1)∧∀(A8:Option Addr) (l8 c8:Nat) (cs9:Array Value),l8=l4+Int.toNat 1→cs9=cs5++([int .u32 (wrap .u32 n6)]:List Value).toArray→l8≤c8→
 ∀k3,Up k1 k3→Sy.RowAt k3 A8 cs9→
 Cl k3 123 #[slice A8 l8 c8] fun k5 r4=>∃A10 l10 c10,some (slice A10 l10 c10)=some r4∧
 Rt R k5 (slice A10 l10 c10)))))) :
  CallsG Tryz.prog 140 #[slice A0 l0 c0,int .i64 n1] k R:=
  qY { opq:=[],loops:=[(0,[.rw 5 148 1,.tmp 6 false [.int .u64],.tmp 7 false [.int .i64]])] } h
theorem aAq 
 (h:∀(A2:Option Addr) (l2 c2:Nat) (cs3:Array Value),l2=0→cs3=([]:List Value).toArray→l2≤c2→
 ∃I0:Nat→World→List Value→Prop,(∃m0,∀k0,Up k k0→I0 m0 k0 [tuple #[slice A2 l2 c2,agg cs3],int .i64 (wrap .i64 (Int.tdiv n1 32))])∧
 ∀m0 k0 vs0,Up k k0→I0 m0 k0 vs0→∃A4 l4 c4,∃cs5,Sy.RowC cs5∧∃n6,some [tuple #[slice A4 l4 c4,agg cs5],int .i64 n6]=some vs0∧
 Tt∧(Br (decide ((n6:Int)<(l0:Nat))) (Ad A0∧Ix n6 l0∧
 ∃n7,Sy.ReadAt k0.cell? A0 (Int.toNat n6*1+0) 1 (int .u32 n7)∧
 Tt∧(Br (decide (((wrap .i64 (n6+1)):Int)<(l0:Nat))) (Ad A0∧((0:Int)≤(wrap .i64 (n6+1))∧((wrap .i64 (n6+1)):Int)<(l0:Nat))∧
 ∃n8,Sy.ReadAt k0.cell? A0 (Int.toNat (wrap .i64 (n6+1))*1+0) 1 (int .u32 n8)∧
 (decide ((0:Int)≤(wrap .u64 (Int.tmod n1 32))))=true∧
 (([int .u32 (wrap .u32 (Int.fdiv (wrap .u64 (BitVec.toNat (BitVec.ofInt (IntKind.bits .u64) (wrap .u64 n7) ||| BitVec.ofInt (IntKind.bits .u64) (wrap .u64 ((wrap .u64 n8)*2^(min (Int.toNat 32) (IntKind.bits .u64))))))) (2^(min (Int.toNat (wrap .u64 (Int.tmod n1 32))) (IntKind.bits .u64)))))]:List Value).length=Int.toNat 1*1∧(0:Int)≤1∧Sy.sizeOk 4 (l4+Int.toNat 1)∧∀(A9:Option Addr) (l9 c9:Nat) (cs10:Array Value),l9=l4+Int.toNat 1→cs10=cs5++([int .u32 (wrap .u32 (Int.fdiv (wrap .u64 (BitVec.toNat (BitVec.ofInt (IntKind.bits .u64) (wrap .u64 n7) ||| BitVec.ofInt (IntKind.bits .u64) (wrap .u64 ((wrap .u64 n8)*2^(min (Int.toNat 32) (IntKind.bits .u64))))))) (2^(min (Int.toNat (wrap .u64 (Int.tmod n1 32))) (IntKind.bits .u64)))))]:List Value).toArray→l9≤c9→
 ∀k1,Up k0 k1→∃m,m<m0∧I0 m k1 [tuple #[slice A9 l9 c9,agg cs10],int .i64 (wrap .i64 (n6+1))])) ((decide ((0:Int)≤(wrap .u64 (Int.tmod n1 32))))=true∧
 (([int .u32 (wrap .u32 (Int.fdiv (wrap .u64 n7) (2^(min (Int.toNat (wrap .u64 (Int.tmod n1 32))) (IntKind.bits .u64)))))]:List Value).length=Int.toNat 1*1∧(0:Int)≤1∧Sy.sizeOk 4 (l4+Int.toNat 1)∧∀(A8:Option Addr) (l8 c8:Nat) (cs9:Array Value),l8=l4+Int.toNat 1→cs9=cs5++([int .u32 (wrap .u32 (Int.fdiv (wrap .u64 n7) (2^(min (Int.toNat (wrap .u64 (Int.tmod n1 32))) (IntKind.bits .u64)))))]:List Value).toArray→l8≤c8→
 ∀k2,Up k0 k2→∃m,m<m0∧I0 m k2 [tuple #[slice A8 l8 c8,agg cs9],int .i64 (wrap .i64 (n6+1))])))) (∀k3,Up k0 k3→Sy.RowAt k3 A4 cs5→
 Cl k3 123 #[slice A4 l4 c4] fun k5 r4=>∃A7 l7 c7,some (slice A7 l7 c7)=some r4∧
 Rt R k5 (slice A7 l7 c7)))) :
  CallsG Tryz.prog 141 #[slice A0 l0 c0,int .i64 n1] k R:=
  qY { opq:=[],loops:=[(0,[.rw 5 148 1,.tmp 6 false [.int .i64]])] } h
theorem aDa 
 (h:Tt∧((0:Int)≤(l0:Nat)∧Sy.sizeOk 4 (Int.toNat (l0:Nat))∧∀(A2:Option Addr) (l2 c2:Nat) (cs3:Array Value),l2=Int.toNat (l0:Nat)→cs3=madeCells [int .u32 0].toArray (Int.toNat (l0:Nat)*1)→l2≤c2→
 Tt∧(∃I0:Nat→World→List Value→Prop,(∃m0,∀k0,Up k k0→I0 m0 k0 [tuple #[slice A2 l2 c2,agg cs3],int .u64 0,int .i64 (wrap .i64 ((l0:Nat)-1))])∧
 ∀m0 k0 vs0,Up k k0→I0 m0 k0 vs0→∃A4 l4 c4,∃cs5,Sy.RowC cs5∧∃n6,∃n7,some [tuple #[slice A4 l4 c4,agg cs5],int .u64 n6,int .i64 n7]=some vs0∧
 Br (decide ((n7:Int) ≥ 0)) (Ad A0∧Ix n7 l0∧
 ∃n8,Sy.ReadAt k0.cell? A0 (Int.toNat n7*1+0) 1 (int .u32 n8)∧
 (decide (((wrap .u64 n1):Int)≠0))=true∧
 ((decide ((0:Int)≤n7∧(n7:Int)<(l4:Nat)))=true∧
 (Ix n7 l4∧∀cs9:Array Value,cs9=Sy.over cs5 (Int.toNat n7*1+0) ([int .u32 (wrap .u32 (wrap .u64 (Int.tdiv (wrap .u64 (BitVec.toNat (BitVec.ofInt (IntKind.bits .u64) (wrap .u64 (n6*2^(min (Int.toNat 32) (IntKind.bits .u64)))) ||| BitVec.ofInt (IntKind.bits .u64) (wrap .u64 n8)))) (wrap .u64 n1))))])→
 (decide (((wrap .u64 n1):Int)≠0))=true∧
 (∀k1,Up k0 k1→∃m,m<m0∧I0 m k1 [tuple #[slice A4 l4 c4,agg cs9],int .u64 (Int.tmod (wrap .u64 (BitVec.toNat (BitVec.ofInt (IntKind.bits .u64) (wrap .u64 (n6*2^(min (Int.toNat 32) (IntKind.bits .u64)))) ||| BitVec.ofInt (IntKind.bits .u64) (wrap .u64 n8)))) (wrap .u64 n1)),int .i64 (wrap .i64 (n7-1))])))) (∀k2,Up k0 k2→Sy.RowAt k2 A4 cs5→
 Cl k2 123 #[slice A4 l4 c4] fun k4 r3=>∃A8 l8 c8,some (slice A8 l8 c8)=some r3∧
 Rt R k4 (tuple #[slice A8 l8 c8,int .u32 (wrap .u32 n6)]))))) :
  CallsG Tryz.prog 138 #[slice A0 l0 c0,int .u32 n1] k R:=
  qY { opq:=[],loops:=[(0,[.rw 6 148 1,.tmp 7 false [.int .u64],.tmp 8 false [.int .i64]])] } h
theorem aUe 
 (h:Cl k 128 #[slice A0 l0 c0,slice A1 l1 c1] fun k1 r0=>Gi r0 fun n2=>
 Br (decide ((n2:Int)<0)) (Rt R k1 (tuple #[slice none 0 0,slice A0 l0 c0])) (Tt∧(Br (((l1:Nat):Int) == 1) (Ad A1∧((0:Int)≤0∧(0:Int)<(l1:Nat))∧
 ∃n3,Sy.ReadAt k1.cell? A1 (Int.toNat 0*1+0) 1 (int .u32 n3)∧
 Cl k1 138 #[slice A0 l0 c0,int .u32 n3] fun k4 r3=>∃A4 l4 c4,∃n5,some (tuple #[slice A4 l4 c4,int .u32 n5])=some r3∧
 Cl k4 98 #[int .u64 (wrap .u64 n5)] fun k6 r5=>∃A6 l6 c6,some (slice A6 l6 c6)=some r5∧
 Rt R k6 (tuple #[slice A4 l4 c4,slice A6 l6 c6])) (Tt∧(Cl k1 139 #[slice A1 l1 c1] fun k9 r8=>Gi r8 fun n3=>
 Cl k9 140 #[slice A1 l1 c1,int .i64 (wrap .i64 ((wrap .i64 (32*(l1:Nat)))-n3))] fun k11 r10=>∃A4 l4 c4,some (slice A4 l4 c4)=some r10∧
 Cl k11 140 #[slice A0 l0 c0,int .i64 (wrap .i64 ((wrap .i64 (32*(l1:Nat)))-n3))] fun k13 r12=>∃A5 l5 c5,some (slice A5 l5 c5)=some r12∧
 Tt∧(Tt∧((0:Int)≤(wrap .i64 ((wrap .i64 ((l0:Nat)-(l4:Nat)))+2))∧Sy.sizeOk 4 (Int.toNat (wrap .i64 ((wrap .i64 ((l0:Nat)-(l4:Nat)))+2)))∧∀(A6:Option Addr) (l6 c6:Nat) (cs7:Array Value),l6=Int.toNat (wrap .i64 ((wrap .i64 ((l0:Nat)-(l4:Nat)))+2))→cs7=madeCells [int .u32 0].toArray (Int.toNat (wrap .i64 ((wrap .i64 ((l0:Nat)-(l4:Nat)))+2))*1)→l6≤c6→
 Tt∧(∃I14:Nat→World→List Value→Prop,(∃m14,∀k14,Up k13 k14→I14 m14 k14 [tuple #[slice A6 l6 c6,agg cs7],slice A5 l5 c5,int .i64 (wrap .i64 ((l6:Nat)-1))])∧
 ∀m14 k14 vs14,Up k13 k14→I14 m14 k14 vs14→∃A8 l8 c8,∃cs9,Sy.RowC cs9∧∃A10 l10 c10,∃n11,some [tuple #[slice A8 l8 c8,agg cs9],slice A10 l10 c10,int .i64 n11]=some vs14∧
 Br (decide ((n11:Int) ≥ 0)) (∀(A12:Option Addr) (l12 c12:Nat) (cs13:Array Value),l12=0→cs13=([]:List Value).toArray→l12≤c12→
 Tt∧(Br (decide ((n11:Int)<(l10:Nat))) (∃A14 l14 c14,Sy.slcD 1 (slice A10 l10 c10) (int .i64 n11) (int .i64 (l10:Nat))=some (slice A14 l14 c14)∧
 Cl k14 128 #[slice A14 l14 c14,slice A4 l4 c4] fun k16 r15=>Gi r15 fun n15=>
 Br (decide ((n15:Int)<0)) (∀k17,Up k16 k17→∃m,m<m14∧I14 m k17 [tuple #[slice A8 l8 c8,agg cs9],slice A10 l10 c10,int .i64 (wrap .i64 (n11-1))]) (Ad A14∧((0:Int)≤(wrap .i64 ((l4:Nat)-1))∧((wrap .i64 ((l4:Nat)-1)):Int)<(l14:Nat))∧
 ∃n16,Sy.ReadAt k16.cell? A14 (Int.toNat (wrap .i64 ((l4:Nat)-1))*1+0) 1 (int .u32 n16)∧
 Tt∧(Br (decide (((l14:Nat):Int) > (l4:Nat))) (Ad A14∧((0:Int)≤(l4:Nat)∧((l4:Nat):Int)<(l14:Nat))∧
 ∃n17,Sy.ReadAt k16.cell? A14 (Int.toNat (l4:Nat)*1+0) 1 (int .u32 n17)∧
 Ad A4∧((0:Int)≤(wrap .i64 ((l4:Nat)-1))∧((wrap .i64 ((l4:Nat)-1)):Int)<(l4:Nat))∧
 ∃n18,Sy.ReadAt k16.cell? A4 (Int.toNat (wrap .i64 ((l4:Nat)-1))*1+0) 1 (int .u32 n18)∧
 (decide (((wrap .u64 n18):Int)≠0))=true∧
 (Br (decide (((wrap .u64 (Int.tdiv (wrap .u64 (BitVec.toNat (BitVec.ofInt (IntKind.bits .u64) (wrap .u64 n16) ||| BitVec.ofInt (IntKind.bits .u64) (wrap .u64 ((wrap .u64 n17)*2^(min (Int.toNat 32) (IntKind.bits .u64))))))) (wrap .u64 n18))):Int) > 4294967295)) (Cl k16 98 #[int .u64 4294967295] fun k19 r18=>∃A19 l19 c19,some (slice A19 l19 c19)=some r18∧
 Cl k19 126 #[slice A4 l4 c4,slice A19 l19 c19] fun k21 r20=>∃A20 l20 c20,some (slice A20 l20 c20)=some r20∧
 ∃I22:Nat→World→List Value→Prop,(∃m22,∀k22,Up k21 k22→I22 m22 k22 [int .u64 4294967295,slice A20 l20 c20])∧
 ∀m22 k22 vs22,Up k21 k22→I22 m22 k22 vs22→∃n21,∃A22 l22 c22,some [int .u64 n21,slice A22 l22 c22]=some vs22∧
 Cl k22 128 #[slice A22 l22 c22,slice A14 l14 c14] fun k24 r23=>Gi r23 fun n23=>
 Br (decide ((n23:Int) > 0)) (Cl k24 129 #[slice A22 l22 c22,slice A4 l4 c4] fun k26 r25=>∃A24 l24 c24,some (slice A24 l24 c24)=some r25∧
 ∀k27,Up k26 k27→∃m,m<m22∧I22 m k27 [int .u64 (wrap .u64 (n21-1)),slice A24 l24 c24]) ((decide ((0:Int)≤n11∧(n11:Int)<(l8:Nat)))=true∧
 (Ix n11 l8∧∀cs24:Array Value,cs24=Sy.over cs9 (Int.toNat n11*1+0) ([int .u32 (wrap .u32 n21)])→
 ∀(_A25:Option Addr) (l25 c25:Nat) (cs26:Array Value),l25=0→cs26=([]:List Value).toArray→l25≤c25→
 ∃A27 l27 c27,Sy.slcD 1 (slice A10 l10 c10) (int .i64 0) (int .i64 n11)=some (slice A27 l27 c27)∧
 ∃cs28,Sy.RowC cs28∧(cs28.size=l27*1∧∀(p:Nat) (u:Value),cs28[p]?=some u→Sy.cellAt k24.cell? A27 p=some u)∧
 (cs28.toList:List Value).length=Int.toNat (l27:Nat)*1∧(0:Int)≤(l27:Nat)∧Sy.sizeOk 4 (l25+Int.toNat (l27:Nat))∧∀(_A29:Option Addr) (l29 c29:Nat) (cs30:Array Value),l29=l25+Int.toNat (l27:Nat)→cs30=cs26++(cs28.toList:List Value).toArray→l29≤c29→
 Cl k24 129 #[slice A14 l14 c14,slice A22 l22 c22] fun k29 r28=>∃A31 l31 c31,some (slice A31 l31 c31)=some r28∧
 ∃cs32,Sy.RowC cs32∧(cs32.size=l31*1∧∀(p:Nat) (u:Value),cs32[p]?=some u→Sy.cellAt k29.cell? A31 p=some u)∧
 (cs32.toList:List Value).length=Int.toNat (l31:Nat)*1∧(0:Int)≤(l31:Nat)∧Sy.sizeOk 4 (l29+Int.toNat (l31:Nat))∧∀(A33:Option Addr) (l33 c33:Nat) (cs34:Array Value),l33=l29+Int.toNat (l31:Nat)→cs34=cs30++(cs32.toList:List Value).toArray→l33≤c33→
 ∀k30,Up k29 k30→Sy.RowAt k30 A33 cs34→
 Cl k30 123 #[slice A33 l33 c33] fun k32 r31=>∃A35 l35 c35,some (slice A35 l35 c35)=some r31∧
 ∀k33,Up k32 k33→∃m,m<m14∧I14 m k33 [tuple #[slice A8 l8 c8,agg cs24],slice A35 l35 c35,int .i64 (wrap .i64 (n11-1))]))) (Cl k16 98 #[int .u64 (wrap .u64 (Int.tdiv (wrap .u64 (BitVec.toNat (BitVec.ofInt (IntKind.bits .u64) (wrap .u64 n16) ||| BitVec.ofInt (IntKind.bits .u64) (wrap .u64 ((wrap .u64 n17)*2^(min (Int.toNat 32) (IntKind.bits .u64))))))) (wrap .u64 n18)))] fun k35 r34=>∃A19 l19 c19,some (slice A19 l19 c19)=some r34∧
 Cl k35 126 #[slice A4 l4 c4,slice A19 l19 c19] fun k37 r36=>∃A20 l20 c20,some (slice A20 l20 c20)=some r36∧
 ∃I38:Nat→World→List Value→Prop,(∃m38,∀k38,Up k37 k38→I38 m38 k38 [int .u64 (wrap .u64 (Int.tdiv (wrap .u64 (BitVec.toNat (BitVec.ofInt (IntKind.bits .u64) (wrap .u64 n16) ||| BitVec.ofInt (IntKind.bits .u64) (wrap .u64 ((wrap .u64 n17)*2^(min (Int.toNat 32) (IntKind.bits .u64))))))) (wrap .u64 n18))),slice A20 l20 c20])∧
 ∀m38 k38 vs38,Up k37 k38→I38 m38 k38 vs38→∃n21,∃A22 l22 c22,some [int .u64 n21,slice A22 l22 c22]=some vs38∧
 Cl k38 128 #[slice A22 l22 c22,slice A14 l14 c14] fun k40 r39=>Gi r39 fun n23=>
 Br (decide ((n23:Int) > 0)) (Cl k40 129 #[slice A22 l22 c22,slice A4 l4 c4] fun k42 r41=>∃A24 l24 c24,some (slice A24 l24 c24)=some r41∧
 ∀k43,Up k42 k43→∃m,m<m38∧I38 m k43 [int .u64 (wrap .u64 (n21-1)),slice A24 l24 c24]) ((decide ((0:Int)≤n11∧(n11:Int)<(l8:Nat)))=true∧
 (Ix n11 l8∧∀cs24:Array Value,cs24=Sy.over cs9 (Int.toNat n11*1+0) ([int .u32 (wrap .u32 n21)])→
 ∀(_A25:Option Addr) (l25 c25:Nat) (cs26:Array Value),l25=0→cs26=([]:List Value).toArray→l25≤c25→
 ∃A27 l27 c27,Sy.slcD 1 (slice A10 l10 c10) (int .i64 0) (int .i64 n11)=some (slice A27 l27 c27)∧
 ∃cs28,Sy.RowC cs28∧(cs28.size=l27*1∧∀(p:Nat) (u:Value),cs28[p]?=some u→Sy.cellAt k40.cell? A27 p=some u)∧
 (cs28.toList:List Value).length=Int.toNat (l27:Nat)*1∧(0:Int)≤(l27:Nat)∧Sy.sizeOk 4 (l25+Int.toNat (l27:Nat))∧∀(_A29:Option Addr) (l29 c29:Nat) (cs30:Array Value),l29=l25+Int.toNat (l27:Nat)→cs30=cs26++(cs28.toList:List Value).toArray→l29≤c29→
 Cl k40 129 #[slice A14 l14 c14,slice A22 l22 c22] fun k45 r44=>∃A31 l31 c31,some (slice A31 l31 c31)=some r44∧
 ∃cs32,Sy.RowC cs32∧(cs32.size=l31*1∧∀(p:Nat) (u:Value),cs32[p]?=some u→Sy.cellAt k45.cell? A31 p=some u)∧
 (cs32.toList:List Value).length=Int.toNat (l31:Nat)*1∧(0:Int)≤(l31:Nat)∧Sy.sizeOk 4 (l29+Int.toNat (l31:Nat))∧∀(A33:Option Addr) (l33 c33:Nat) (cs34:Array Value),l33=l29+Int.toNat (l31:Nat)→cs34=cs30++(cs32.toList:List Value).toArray→l33≤c33→
 ∀k46,Up k45 k46→Sy.RowAt k46 A33 cs34→
 Cl k46 123 #[slice A33 l33 c33] fun k48 r47=>∃A35 l35 c35,some (slice A35 l35 c35)=some r47∧
 ∀k49,Up k48 k49→∃m,m<m14∧I14 m k49 [tuple #[slice A8 l8 c8,agg cs24],slice A35 l35 c35,int .i64 (wrap .i64 (n11-1))]))))) (Ad A4∧((0:Int)≤(wrap .i64 ((l4:Nat)-1))∧((wrap .i64 ((l4:Nat)-1)):Int)<(l4:Nat))∧
 ∃n17,Sy.ReadAt k16.cell? A4 (Int.toNat (wrap .i64 ((l4:Nat)-1))*1+0) 1 (int .u32 n17)∧
 (decide (((wrap .u64 n17):Int)≠0))=true∧
 (Br (decide (((wrap .u64 (Int.tdiv (wrap .u64 n16) (wrap .u64 n17))):Int) > 4294967295)) (Cl k16 98 #[int .u64 4294967295] fun k51 r50=>∃A18 l18 c18,some (slice A18 l18 c18)=some r50∧
 Cl k51 126 #[slice A4 l4 c4,slice A18 l18 c18] fun k53 r52=>∃A19 l19 c19,some (slice A19 l19 c19)=some r52∧
 ∃I54:Nat→World→List Value→Prop,(∃m54,∀k54,Up k53 k54→I54 m54 k54 [int .u64 4294967295,slice A19 l19 c19])∧
 ∀m54 k54 vs54,Up k53 k54→I54 m54 k54 vs54→∃n20,∃A21 l21 c21,some [int .u64 n20,slice A21 l21 c21]=some vs54∧
 Cl k54 128 #[slice A21 l21 c21,slice A14 l14 c14] fun k56 r55=>Gi r55 fun n22=>
 Br (decide ((n22:Int) > 0)) (Cl k56 129 #[slice A21 l21 c21,slice A4 l4 c4] fun k58 r57=>∃A23 l23 c23,some (slice A23 l23 c23)=some r57∧
 ∀k59,Up k58 k59→∃m,m<m54∧I54 m k59 [int .u64 (wrap .u64 (n20-1)),slice A23 l23 c23]) ((decide ((0:Int)≤n11∧(n11:Int)<(l8:Nat)))=true∧
 (Ix n11 l8∧∀cs23:Array Value,cs23=Sy.over cs9 (Int.toNat n11*1+0) ([int .u32 (wrap .u32 n20)])→
 ∀(_A24:Option Addr) (l24 c24:Nat) (cs25:Array Value),l24=0→cs25=([]:List Value).toArray→l24≤c24→
 ∃A26 l26 c26,Sy.slcD 1 (slice A10 l10 c10) (int .i64 0) (int .i64 n11)=some (slice A26 l26 c26)∧
 ∃cs27,Sy.RowC cs27∧(cs27.size=l26*1∧∀(p:Nat) (u:Value),cs27[p]?=some u→Sy.cellAt k56.cell? A26 p=some u)∧
 (cs27.toList:List Value).length=Int.toNat (l26:Nat)*1∧(0:Int)≤(l26:Nat)∧Sy.sizeOk 4 (l24+Int.toNat (l26:Nat))∧∀(_A28:Option Addr) (l28 c28:Nat) (cs29:Array Value),l28=l24+Int.toNat (l26:Nat)→cs29=cs25++(cs27.toList:List Value).toArray→l28≤c28→
 Cl k56 129 #[slice A14 l14 c14,slice A21 l21 c21] fun k61 r60=>∃A30 l30 c30,some (slice A30 l30 c30)=some r60∧
 ∃cs31,Sy.RowC cs31∧(cs31.size=l30*1∧∀(p:Nat) (u:Value),cs31[p]?=some u→Sy.cellAt k61.cell? A30 p=some u)∧
 (cs31.toList:List Value).length=Int.toNat (l30:Nat)*1∧(0:Int)≤(l30:Nat)∧Sy.sizeOk 4 (l28+Int.toNat (l30:Nat))∧∀(A32:Option Addr) (l32 c32:Nat) (cs33:Array Value),l32=l28+Int.toNat (l30:Nat)→cs33=cs29++(cs31.toList:List Value).toArray→l32≤c32→
 ∀k62,Up k61 k62→Sy.RowAt k62 A32 cs33→
 Cl k62 123 #[slice A32 l32 c32] fun k64 r63=>∃A34 l34 c34,some (slice A34 l34 c34)=some r63∧
 ∀k65,Up k64 k65→∃m,m<m14∧I14 m k65 [tuple #[slice A8 l8 c8,agg cs23],slice A34 l34 c34,int .i64 (wrap .i64 (n11-1))]))) (Cl k16 98 #[int .u64 (wrap .u64 (Int.tdiv (wrap .u64 n16) (wrap .u64 n17)))] fun k67 r66=>∃A18 l18 c18,some (slice A18 l18 c18)=some r66∧
 Cl k67 126 #[slice A4 l4 c4,slice A18 l18 c18] fun k69 r68=>∃A19 l19 c19,some (slice A19 l19 c19)=some r68∧
 ∃I70:Nat→World→List Value→Prop,(∃m70,∀k70,Up k69 k70→I70 m70 k70 [int .u64 (wrap .u64 (Int.tdiv (wrap .u64 n16) (wrap .u64 n17))),slice A19 l19 c19])∧
 ∀m70 k70 vs70,Up k69 k70→I70 m70 k70 vs70→∃n20,∃A21 l21 c21,some [int .u64 n20,slice A21 l21 c21]=some vs70∧
 Cl k70 128 #[slice A21 l21 c21,slice A14 l14 c14] fun k72 r71=>Gi r71 fun n22=>
 Br (decide ((n22:Int) > 0)) (Cl k72 129 #[slice A21 l21 c21,slice A4 l4 c4] fun k74 r73=>∃A23 l23 c23,some (slice A23 l23 c23)=some r73∧
 ∀k75,Up k74 k75→∃m,m<m70∧I70 m k75 [int .u64 (wrap .u64 (n20-1)),slice A23 l23 c23]) ((decide ((0:Int)≤n11∧(n11:Int)<(l8:Nat)))=true∧
 (Ix n11 l8∧∀cs23:Array Value,cs23=Sy.over cs9 (Int.toNat n11*1+0) ([int .u32 (wrap .u32 n20)])→
 ∀(_A24:Option Addr) (l24 c24:Nat) (cs25:Array Value),l24=0→cs25=([]:List Value).toArray→l24≤c24→
 ∃A26 l26 c26,Sy.slcD 1 (slice A10 l10 c10) (int .i64 0) (int .i64 n11)=some (slice A26 l26 c26)∧
 ∃cs27,Sy.RowC cs27∧(cs27.size=l26*1∧∀(p:Nat) (u:Value),cs27[p]?=some u→Sy.cellAt k72.cell? A26 p=some u)∧
 (cs27.toList:List Value).length=Int.toNat (l26:Nat)*1∧(0:Int)≤(l26:Nat)∧Sy.sizeOk 4 (l24+Int.toNat (l26:Nat))∧∀(_A28:Option Addr) (l28 c28:Nat) (cs29:Array Value),l28=l24+Int.toNat (l26:Nat)→cs29=cs25++(cs27.toList:List Value).toArray→l28≤c28→
 Cl k72 129 #[slice A14 l14 c14,slice A21 l21 c21] fun k77 r76=>∃A30 l30 c30,some (slice A30 l30 c30)=some r76∧
 ∃cs31,Sy.RowC cs31∧(cs31.size=l30*1∧∀(p:Nat) (u:Value),cs31[p]?=some u→Sy.cellAt k77.cell? A30 p=some u)∧
 (cs31.toList:List Value).length=Int.toNat (l30:Nat)*1∧(0:Int)≤(l30:Nat)∧Sy.sizeOk 4 (l28+Int.toNat (l30:Nat))∧∀(A32:Option Addr) (l32 c32:Nat) (cs33:Array Value),l32=l28+Int.toNat (l30:Nat)→cs33=cs29++(cs31.toList:List Value).toArray→l32≤c32→
 ∀k78,Up k77 k78→Sy.RowAt k78 A32 cs33→
 Cl k78 123 #[slice A32 l32 c32] fun k80 r79=>∃A34 l34 c34,some (slice A34 l34 c34)=some r79∧
 ∀k81,Up k80 k81→∃m,m<m14∧I14 m k81 [tuple #[slice A8 l8 c8,agg cs23],slice A34 l34 c34,int .i64 (wrap .i64 (n11-1))])))))))) (∀k82,Up k14 k82→Sy.RowAt k82 A12 cs13→
 Cl k82 128 #[slice A12 l12 c12,slice A4 l4 c4] fun k84 r83=>Gi r83 fun n14=>
 Br (decide ((n14:Int)<0)) (∀k85,Up k84 k85→∃m,m<m14∧I14 m k85 [tuple #[slice A8 l8 c8,agg cs9],slice A10 l10 c10,int .i64 (wrap .i64 (n11-1))]) (Ad A12∧((0:Int)≤(wrap .i64 ((l4:Nat)-1))∧((wrap .i64 ((l4:Nat)-1)):Int)<(l12:Nat))∧
 ∃n15,Sy.ReadAt k84.cell? A12 (Int.toNat (wrap .i64 ((l4:Nat)-1))*1+0) 1 (int .u32 n15)∧
 Tt∧(Br (decide (((l12:Nat):Int) > (l4:Nat))) (Ad A12∧((0:Int)≤(l4:Nat)∧((l4:Nat):Int)<(l12:Nat))∧
 ∃n16,Sy.ReadAt k84.cell? A12 (Int.toNat (l4:Nat)*1+0) 1 (int .u32 n16)∧
 Ad A4∧((0:Int)≤(wrap .i64 ((l4:Nat)-1))∧((wrap .i64 ((l4:Nat)-1)):Int)<(l4:Nat))∧
 ∃n17,Sy.ReadAt k84.cell? A4 (Int.toNat (wrap .i64 ((l4:Nat)-1))*1+0) 1 (int .u32 n17)∧
 (decide (((wrap .u64 n17):Int)≠0))=true∧
 (Br (decide (((wrap .u64 (Int.tdiv (wrap .u64 (BitVec.toNat (BitVec.ofInt (IntKind.bits .u64) (wrap .u64 n15) ||| BitVec.ofInt (IntKind.bits .u64) (wrap .u64 ((wrap .u64 n16)*2^(min (Int.toNat 32) (IntKind.bits .u64))))))) (wrap .u64 n17))):Int) > 4294967295)) (Cl k84 98 #[int .u64 4294967295] fun k87 r86=>∃A18 l18 c18,some (slice A18 l18 c18)=some r86∧
 Cl k87 126 #[slice A4 l4 c4,slice A18 l18 c18] fun k89 r88=>∃A19 l19 c19,some (slice A19 l19 c19)=some r88∧
 ∃I90:Nat→World→List Value→Prop,(∃m90,∀k90,Up k89 k90→I90 m90 k90 [int .u64 4294967295,slice A19 l19 c19])∧
 ∀m90 k90 vs90,Up k89 k90→I90 m90 k90 vs90→∃n20,∃A21 l21 c21,some [int .u64 n20,slice A21 l21 c21]=some vs90∧
 Cl k90 128 #[slice A21 l21 c21,slice A12 l12 c12] fun k92 r91=>Gi r91 fun n22=>
 Br (decide ((n22:Int) > 0)) (Cl k92 129 #[slice A21 l21 c21,slice A4 l4 c4] fun k94 r93=>∃A23 l23 c23,some (slice A23 l23 c23)=some r93∧
 ∀k95,Up k94 k95→∃m,m<m90∧I90 m k95 [int .u64 (wrap .u64 (n20-1)),slice A23 l23 c23]) ((decide ((0:Int)≤n11∧(n11:Int)<(l8:Nat)))=true∧
 (Ix n11 l8∧∀cs23:Array Value,cs23=Sy.over cs9 (Int.toNat n11*1+0) ([int .u32 (wrap .u32 n20)])→
 ∀(_A24:Option Addr) (l24 c24:Nat) (cs25:Array Value),l24=0→cs25=([]:List Value).toArray→l24≤c24→
 ∃A26 l26 c26,Sy.slcD 1 (slice A10 l10 c10) (int .i64 0) (int .i64 n11)=some (slice A26 l26 c26)∧
 ∃cs27,Sy.RowC cs27∧(cs27.size=l26*1∧∀(p:Nat) (u:Value),cs27[p]?=some u→Sy.cellAt k92.cell? A26 p=some u)∧
 (cs27.toList:List Value).length=Int.toNat (l26:Nat)*1∧(0:Int)≤(l26:Nat)∧Sy.sizeOk 4 (l24+Int.toNat (l26:Nat))∧∀(_A28:Option Addr) (l28 c28:Nat) (cs29:Array Value),l28=l24+Int.toNat (l26:Nat)→cs29=cs25++(cs27.toList:List Value).toArray→l28≤c28→
 Cl k92 129 #[slice A12 l12 c12,slice A21 l21 c21] fun k97 r96=>∃A30 l30 c30,some (slice A30 l30 c30)=some r96∧
 ∃cs31,Sy.RowC cs31∧(cs31.size=l30*1∧∀(p:Nat) (u:Value),cs31[p]?=some u→Sy.cellAt k97.cell? A30 p=some u)∧
 (cs31.toList:List Value).length=Int.toNat (l30:Nat)*1∧(0:Int)≤(l30:Nat)∧Sy.sizeOk 4 (l28+Int.toNat (l30:Nat))∧∀(A32:Option Addr) (l32 c32:Nat) (cs33:Array Value),l32=l28+Int.toNat (l30:Nat)→cs33=cs29++(cs31.toList:List Value).toArray→l32≤c32→
 ∀k98,Up k97 k98→Sy.RowAt k98 A32 cs33→
 Cl k98 123 #[slice A32 l32 c32] fun k100 r99=>∃A34 l34 c34,some (slice A34 l34 c34)=some r99∧
 ∀k101,Up k100 k101→∃m,m<m14∧I14 m k101 [tuple #[slice A8 l8 c8,agg cs23],slice A34 l34 c34,int .i64 (wrap .i64 (n11-1))]))) (Cl k84 98 #[int .u64 (wrap .u64 (Int.tdiv (wrap .u64 (BitVec.toNat (BitVec.ofInt (IntKind.bits .u64) (wrap .u64 n15) ||| BitVec.ofInt (IntKind.bits .u64) (wrap .u64 ((wrap .u64 n16)*2^(min (Int.toNat 32) (IntKind.bits .u64))))))) (wrap .u64 n17)))] fun k103 r102=>∃A18 l18 c18,some (slice A18 l18 c18)=some r102∧
 Cl k103 126 #[slice A4 l4 c4,slice A18 l18 c18] fun k105 r104=>∃A19 l19 c19,some (slice A19 l19 c19)=some r104∧
 ∃I106:Nat→World→List Value→Prop,(∃m106,∀k106,Up k105 k106→I106 m106 k106 [int .u64 (wrap .u64 (Int.tdiv (wrap .u64 (BitVec.toNat (BitVec.ofInt (IntKind.bits .u64) (wrap .u64 n15) ||| BitVec.ofInt (IntKind.bits .u64) (wrap .u64 ((wrap .u64 n16)*2^(min (Int.toNat 32) (IntKind.bits .u64))))))) (wrap .u64 n17))),slice A19 l19 c19])∧
 ∀m106 k106 vs106,Up k105 k106→I106 m106 k106 vs106→∃n20,∃A21 l21 c21,some [int .u64 n20,slice A21 l21 c21]=some vs106∧
 Cl k106 128 #[slice A21 l21 c21,slice A12 l12 c12] fun k108 r107=>Gi r107 fun n22=>
 Br (decide ((n22:Int) > 0)) (Cl k108 129 #[slice A21 l21 c21,slice A4 l4 c4] fun k110 r109=>∃A23 l23 c23,some (slice A23 l23 c23)=some r109∧
 ∀k111,Up k110 k111→∃m,m<m106∧I106 m k111 [int .u64 (wrap .u64 (n20-1)),slice A23 l23 c23]) ((decide ((0:Int)≤n11∧(n11:Int)<(l8:Nat)))=true∧
 (Ix n11 l8∧∀cs23:Array Value,cs23=Sy.over cs9 (Int.toNat n11*1+0) ([int .u32 (wrap .u32 n20)])→
 ∀(_A24:Option Addr) (l24 c24:Nat) (cs25:Array Value),l24=0→cs25=([]:List Value).toArray→l24≤c24→
 ∃A26 l26 c26,Sy.slcD 1 (slice A10 l10 c10) (int .i64 0) (int .i64 n11)=some (slice A26 l26 c26)∧
 ∃cs27,Sy.RowC cs27∧(cs27.size=l26*1∧∀(p:Nat) (u:Value),cs27[p]?=some u→Sy.cellAt k108.cell? A26 p=some u)∧
 (cs27.toList:List Value).length=Int.toNat (l26:Nat)*1∧(0:Int)≤(l26:Nat)∧Sy.sizeOk 4 (l24+Int.toNat (l26:Nat))∧∀(_A28:Option Addr) (l28 c28:Nat) (cs29:Array Value),l28=l24+Int.toNat (l26:Nat)→cs29=cs25++(cs27.toList:List Value).toArray→l28≤c28→
 Cl k108 129 #[slice A12 l12 c12,slice A21 l21 c21] fun k113 r112=>∃A30 l30 c30,some (slice A30 l30 c30)=some r112∧
 ∃cs31,Sy.RowC cs31∧(cs31.size=l30*1∧∀(p:Nat) (u:Value),cs31[p]?=some u→Sy.cellAt k113.cell? A30 p=some u)∧
 (cs31.toList:List Value).length=Int.toNat (l30:Nat)*1∧(0:Int)≤(l30:Nat)∧Sy.sizeOk 4 (l28+Int.toNat (l30:Nat))∧∀(A32:Option Addr) (l32 c32:Nat) (cs33:Array Value),l32=l28+Int.toNat (l30:Nat)→cs33=cs29++(cs31.toList:List Value).toArray→l32≤c32→
 ∀k114,Up k113 k114→Sy.RowAt k114 A32 cs33→
 Cl k114 123 #[slice A32 l32 c32] fun k116 r115=>∃A34 l34 c34,some (slice A34 l34 c34)=some r115∧
 ∀k117,Up k116 k117→∃m,m<m14∧I14 m k117 [tuple #[slice A8 l8 c8,agg cs23],slice A34 l34 c34,int .i64 (wrap .i64 (n11-1))]))))) (Ad A4∧((0:Int)≤(wrap .i64 ((l4:Nat)-1))∧((wrap .i64 ((l4:Nat)-1)):Int)<(l4:Nat))∧
 ∃n16,Sy.ReadAt k84.cell? A4 (Int.toNat (wrap .i64 ((l4:Nat)-1))*1+0) 1 (int .u32 n16)∧
 (decide (((wrap .u64 n16):Int)≠0))=true∧
 (Br (decide (((wrap .u64 (Int.tdiv (wrap .u64 n15) (wrap .u64 n16))):Int) > 4294967295)) (Cl k84 98 #[int .u64 4294967295] fun k119 r118=>∃A17 l17 c17,some (slice A17 l17 c17)=some r118∧
 Cl k119 126 #[slice A4 l4 c4,slice A17 l17 c17] fun k121 r120=>∃A18 l18 c18,some (slice A18 l18 c18)=some r120∧
 ∃I122:Nat→World→List Value→Prop,(∃m122,∀k122,Up k121 k122→I122 m122 k122 [int .u64 4294967295,slice A18 l18 c18])∧
 ∀m122 k122 vs122,Up k121 k122→I122 m122 k122 vs122→∃n19,∃A20 l20 c20,some [int .u64 n19,slice A20 l20 c20]=some vs122∧
 Cl k122 128 #[slice A20 l20 c20,slice A12 l12 c12] fun k124 r123=>Gi r123 fun n21=>
 Br (decide ((n21:Int) > 0)) (Cl k124 129 #[slice A20 l20 c20,slice A4 l4 c4] fun k126 r125=>∃A22 l22 c22,some (slice A22 l22 c22)=some r125∧
 ∀k127,Up k126 k127→∃m,m<m122∧I122 m k127 [int .u64 (wrap .u64 (n19-1)),slice A22 l22 c22]) ((decide ((0:Int)≤n11∧(n11:Int)<(l8:Nat)))=true∧
 (Ix n11 l8∧∀cs22:Array Value,cs22=Sy.over cs9 (Int.toNat n11*1+0) ([int .u32 (wrap .u32 n19)])→
 ∀(_A23:Option Addr) (l23 c23:Nat) (cs24:Array Value),l23=0→cs24=([]:List Value).toArray→l23≤c23→
 ∃A25 l25 c25,Sy.slcD 1 (slice A10 l10 c10) (int .i64 0) (int .i64 n11)=some (slice A25 l25 c25)∧
 ∃cs26,Sy.RowC cs26∧(cs26.size=l25*1∧∀(p:Nat) (u:Value),cs26[p]?=some u→Sy.cellAt k124.cell? A25 p=some u)∧
 (cs26.toList:List Value).length=Int.toNat (l25:Nat)*1∧(0:Int)≤(l25:Nat)∧Sy.sizeOk 4 (l23+Int.toNat (l25:Nat))∧∀(_A27:Option Addr) (l27 c27:Nat) (cs28:Array Value),l27=l23+Int.toNat (l25:Nat)→cs28=cs24++(cs26.toList:List Value).toArray→l27≤c27→
 Cl k124 129 #[slice A12 l12 c12,slice A20 l20 c20] fun k129 r128=>∃A29 l29 c29,some (slice A29 l29 c29)=some r128∧
 ∃cs30,Sy.RowC cs30∧(cs30.size=l29*1∧∀(p:Nat) (u:Value),cs30[p]?=some u→Sy.cellAt k129.cell? A29 p=some u)∧
 (cs30.toList:List Value).length=Int.toNat (l29:Nat)*1∧(0:Int)≤(l29:Nat)∧Sy.sizeOk 4 (l27+Int.toNat (l29:Nat))∧∀(A31:Option Addr) (l31 c31:Nat) (cs32:Array Value),l31=l27+Int.toNat (l29:Nat)→cs32=cs28++(cs30.toList:List Value).toArray→l31≤c31→
 ∀k130,Up k129 k130→Sy.RowAt k130 A31 cs32→
 Cl k130 123 #[slice A31 l31 c31] fun k132 r131=>∃A33 l33 c33,some (slice A33 l33 c33)=some r131∧
 ∀k133,Up k132 k133→∃m,m<m14∧I14 m k133 [tuple #[slice A8 l8 c8,agg cs22],slice A33 l33 c33,int .i64 (wrap .i64 (n11-1))]))) (Cl k84 98 #[int .u64 (wrap .u64 (Int.tdiv (wrap .u64 n15) (wrap .u64 n16)))] fun k135 r134=>∃A17 l17 c17,some (slice A17 l17 c17)=some r134∧
 Cl k135 126 #[slice A4 l4 c4,slice A17 l17 c17] fun k137 r136=>∃A18 l18 c18,some (slice A18 l18 c18)=some r136∧
 ∃I138:Nat→World→List Value→Prop,(∃m138,∀k138,Up k137 k138→I138 m138 k138 [int .u64 (wrap .u64 (Int.tdiv (wrap .u64 n15) (wrap .u64 n16))),slice A18 l18 c18])∧
 ∀m138 k138 vs138,Up k137 k138→I138 m138 k138 vs138→∃n19,∃A20 l20 c20,some [int .u64 n19,slice A20 l20 c20]=some vs138∧
 Cl k138 128 #[slice A20 l20 c20,slice A12 l12 c12] fun k140 r139=>Gi r139 fun n21=>
 Br (decide ((n21:Int) > 0)) (Cl k140 129 #[slice A20 l20 c20,slice A4 l4 c4] fun k142 r141=>∃A22 l22 c22,some (slice A22 l22 c22)=some r141∧
 ∀k143,Up k142 k143→∃m,m<m138∧I138 m k143 [int .u64 (wrap .u64 (n19-1)),slice A22 l22 c22]) ((decide ((0:Int)≤n11∧(n11:Int)<(l8:Nat)))=true∧
 (Ix n11 l8∧∀cs22:Array Value,cs22=Sy.over cs9 (Int.toNat n11*1+0) ([int .u32 (wrap .u32 n19)])→
 ∀(_A23:Option Addr) (l23 c23:Nat) (cs24:Array Value),l23=0→cs24=([]:List Value).toArray→l23≤c23→
 ∃A25 l25 c25,Sy.slcD 1 (slice A10 l10 c10) (int .i64 0) (int .i64 n11)=some (slice A25 l25 c25)∧
 ∃cs26,Sy.RowC cs26∧(cs26.size=l25*1∧∀(p:Nat) (u:Value),cs26[p]?=some u→Sy.cellAt k140.cell? A25 p=some u)∧
 (cs26.toList:List Value).length=Int.toNat (l25:Nat)*1∧(0:Int)≤(l25:Nat)∧Sy.sizeOk 4 (l23+Int.toNat (l25:Nat))∧∀(_A27:Option Addr) (l27 c27:Nat) (cs28:Array Value),l27=l23+Int.toNat (l25:Nat)→cs28=cs24++(cs26.toList:List Value).toArray→l27≤c27→
 Cl k140 129 #[slice A12 l12 c12,slice A20 l20 c20] fun k145 r144=>∃A29 l29 c29,some (slice A29 l29 c29)=some r144∧
 ∃cs30,Sy.RowC cs30∧(cs30.size=l29*1∧∀(p:Nat) (u:Value),cs30[p]?=some u→Sy.cellAt k145.cell? A29 p=some u)∧
 (cs30.toList:List Value).length=Int.toNat (l29:Nat)*1∧(0:Int)≤(l29:Nat)∧Sy.sizeOk 4 (l27+Int.toNat (l29:Nat))∧∀(A31:Option Addr) (l31 c31:Nat) (cs32:Array Value),l31=l27+Int.toNat (l29:Nat)→cs32=cs28++(cs30.toList:List Value).toArray→l31≤c31→
 ∀k146,Up k145 k146→Sy.RowAt k146 A31 cs32→
 Cl k146 123 #[slice A31 l31 c31] fun k148 r147=>∃A33 l33 c33,some (slice A33 l33 c33)=some r147∧
 ∀k149,Up k148 k149→∃m,m<m14∧I14 m k149 [tuple #[slice A8 l8 c8,agg cs22],slice A33 l33 c33,int .i64 (wrap .i64 (n11-1))])))))))))) (∀k150,Up k14 k150→Sy.RowAt k150 A8 cs9→
 Cl k150 123 #[slice A8 l8 c8] fun k152 r151=>∃A12 l12 c12,some (slice A12 l12 c12)=some r151∧
 Cl k152 141 #[slice A10 l10 c10,int .i64 (wrap .i64 ((wrap .i64 (32*(l1:Nat)))-n3))] fun k154 r153=>∃A13 l13 c13,some (slice A13 l13 c13)=some r153∧
 Rt R k154 (tuple #[slice A12 l12 c12,slice A13 l13 c13])))))))))) :
  CallsG Tryz.prog 122 #[slice A0 l0 c0,slice A1 l1 c1] k R:=
  qY { opq:=[],loops:=[(0,[.rw 12 148 1,.tmp 10 false [.slice],.tmp 13 false [.int .i64]]),(2,[.tmp 16 false [.int .u64],.tmp 17 false [.slice]])] } h
theorem aAp 
 (h:∃I0:Nat→World→List Value→Prop,(∃m0,∀k0,Up k k0→I0 m0 k0 [slice A0 l0 c0,slice A1 l1 c1])∧
 ∀m0 k0 vs0,Up k k0→I0 m0 k0 vs0→∃A2 l2 c2,∃A3 l3 c3,some [slice A2 l2 c2,slice A3 l3 c3]=some vs0∧
 Tt∧(Br (decide (((l3:Nat):Int) > 0)) (Cl k0 122 #[slice A2 l2 c2,slice A3 l3 c3] fun k2 r1=>∃A4 l4 c4,∃A5 l5 c5,some (tuple #[slice A4 l4 c4,slice A5 l5 c5])=some r1∧
 ∀k3,Up k2 k3→∃m,m<m0∧I0 m k3 [slice A3 l3 c3,slice A5 l5 c5]) (Rt R k0 (slice A2 l2 c2)))) :
  CallsG Tryz.prog 121 #[slice A0 l0 c0,slice A1 l1 c1] k R:=
  qY { opq:=[],loops:=[(0,[.tmp 0 false [.slice],.tmp 1 false [.slice]])] } h
end Go.Proofs.YthiaclljcnincaaGreat

namespace Go.Proofs.YthiaclljcnincaaGreat.W32
open IntKind (wrap)
open Go.RowKit Num
open Sy (Up Sees CallsG cellAt ReadAt ReadIn RowAt RowC sizeOk)
def B:Nat:=4294967296
theorem bF:0<B:=oz
theorem wO:B=2^32:=rfl
def wq (m i:Nat):Nat:=wd B m i
theorem bN (n i:Nat):wq n i<4294967296:=qg _ oz
def nw (m:Nat):Nat:=nwk 32 m
theorem cJ (m:Nat):Len B m (nw m):=by rw [wO];exact aFr (k:=32) oz m
theorem kI {m k:Nat}(h:Len B m k):nw m=k:=(cJ m).unique bF h
theorem nw_zero:nw 0=0:=kI Len.nil
theorem bS {m:Nat}:nw m=0↔m=0:=(cJ m).zero_iff bF
theorem aY {m n:Nat}(h:m<B^n):nw m≤n:=by
 refine zw fun hlt=>?_;have h1:=(cJ m).le oq;have:=qb bF (show n≤nw m-1 by omega);omega
theorem dA (m:Nat):m<B^nw m:=(cJ m).lt
theorem bJ {a b:Nat}(h:a≤b):nw a≤nw b:=aY (jm h (dA b))
def row (m n:Nat):Array Value:=((List.range n).map fun i=>Value.int .u32 (wq m i)).toArray
theorem uD (m n:Nat):(row m n).size=n:=by simp [row]
theorem aGa (m:Nat) {n i:Nat}(h:i<n):(row m n)[i]?=some (.int .u32 (wq m i)):=by simp [row,h]
theorem aPw (m n:Nat):row m n++#[Value.int .u32 (wq m n)]=row m (n+1):=by
 unfold row;rw [List.range_succ,List.map_append];simp
theorem iK (m n:Nat):RowC (row m n):=by
 intro u hu;unfold row at hu;simp only [xh]at hu;obtain⟨_,_,rfl⟩:=hu;exact⟨rfl,rfl⟩
structure RowN (k:World) (A:Option Addr) (n c m:Nat):Prop where
 lt:m<B^n
 cap:n≤c
 at_:∀p,p<n→cellAt k.cell? A p=some (.int .u32 (wq m p))
def NatN (k:World) (A:Option Addr) (n c m:Nat):Prop:=RowN k A n c m∧n=nw m
section
variable {k k':World}{A A':Option Addr}{n c m n' c' m':Nat}{R:World→Value→Prop}
theorem aEy {p:Nat}{v:Value}(h:cellAt k.cell? A p=some v) (hu:Up k k'):cellAt k'.cell? A p=some v:=Sy.cellAt_le (fun _ _ e=>hu.cell e) h
theorem RowN.up (h:RowN k A n c m) (hu:Up k k'):RowN k' A n c m:=⟨h.lt,h.cap,fun p hp=>aEy (h.at_ p hp) hu⟩
theorem NatN.up (h:NatN k A n c m) (hu:Up k k'):NatN k' A n c m:=⟨h.1.up hu,h.2⟩
theorem RowN.addr (h:RowN k A n c m) {p:Nat}(hp:p<n):∃b o,A=some ⟨b,o,none⟩:=by
 have:=h.at_ p hp;unfold cellAt at this;split at this
 ·exact⟨_,_,rfl⟩
 ·cases this
theorem aDs {mem:Addr→Option Value}{p q:Nat}{v:Value}(hv:v.cells=#[v]) (h:cellAt mem A p=some v) (hq:q=p):ReadAt mem A q 1 v:=by
 subst hq;refine⟨by rw [hv];rfl,fun j u hu=>?_⟩;rw [hv]at hu;cases j with
 | zero=>simp at hu;subst hu;exact h
 | succ j=>simp at hu
theorem RowN.read (h:RowN k A n c m) {p q:Nat}(hp:p<n) (hq:q=p):ReadAt k.cell? A q 1 (.int .u32 (wq m p)):=aDs rfl (h.at_ p hp) hq
theorem RowN.of_row (h:RowAt k A (row m n)) (hlt:m<B^n) (hc:n≤c):RowN k A n c m:=
 ⟨hlt,hc,fun p hp=>by
   obtain⟨b,rfl,_,h3⟩:=h p _ (aGa m hp);unfold cellAt;simp only [qc,h3]
   rfl⟩
theorem w64 {x:Int}(h0:-9223372036854775808≤x) (h1:x≤9223372036854775807):wrap .i64 x=x:=by rw [xk];omega
theorem wu64 {x:Int}(h0:0≤x) (h1:x<18446744073709551616):wrap .u64 x=x:=by rw [IntKind.wrap_u64];omega
theorem wu32 (x:Int):wrap .u32 x=x % 4294967296:=by rw [IntKind.wrap_u32]
theorem aBq {s:Nat}{kk kk':IntKind}{hi:Int}(h0:0≤hi) (h1:hi≤c):Sy.slcD s (.slice A n c) (.int kk 0) (.int kk' hi)=some (.slice A hi.toNat c):=by
 unfold Sy.slcD;dsimp only;rw [og ⟨Int.le_refl _,h0,h1⟩];have e:(A.map fun a=>a.add (Int.toNat 0*s))=A:=by
  cases A with
  | none=>rfl
  | some a=>simp [Addr.add]
 rw [e];split <;> simp
theorem nP (h:RowN k A n c m) (hn:n≤1099511627776) (C:∀k',Up k k'→NatN k' A (nw m) c m→R k' (.slice A (nw m) c)):Cl k 123 #[.slice A n c] R:=by
 intro k0 u0;replace h:=h.up u0;replace C:=fun k' u=>C k' (u0.trans u);refine aUc ⟨rfl,fun j k1 vs=>j≤n∧m<B^j∧vs=[.int .i64 (j:Int)],⟨n,fun k1 u1=>⟨oy _,h.lt,rfl⟩⟩,?_⟩;rintro j k1 vs u1 ⟨hj,hm,rfl⟩;replace h:=h.up u1;replace C:=fun k' u=>C k' (u1.trans u);have fin:∀ {j:Nat},j=nw m→∃A3 l3 c3,Sy.slcD 1 (Value.slice A n c) (Value.int .i64 0) (Value.int .i64 (j:Int))=some (Value.slice A3 l3 c3)∧∀k2,Up k1 k2→R k2 (Value.slice A3 l3 c3):=by
  rintro j rfl;have hle:nw m≤n:=aY h.lt;refine⟨_,_,_,aBq oq (by have:=h.cap;omega),fun k2 u2=>?_⟩;rw [oo];exact C k2 u2 ⟨⟨dA m,by have:=h.cap;omega,fun p hp=>aEy (h.at_ p oq) u2⟩,rfl⟩
 refine⟨(j:Int),rfl,fun hp=>?_,fun hp=>?_⟩
 ·have hp:0<j:=by have:=ow hp;omega
  have e:wrap .i64 ((j:Int)-1)=((j-1:Nat):Int):=by rw [w64 oq oq];omega
  rw [e];refine⟨h.addr (p:=0) oq,⟨oq,oq⟩,_,h.read (p:=j-1) oq oq,fun hz=>?_,fun hz=>?_⟩
  ·intro k2 u2;refine⟨j-1,oq,oq,?_,rfl⟩;have hz:wq m (j-1)=0:=by have:=eq_of_beq hz;omega
   exact vP bF (by rw [xy hp];exact hm) hz
  ·refine fin (kI (Len.of_top hm fun _=>?_)).symm;intro e0;have:wq m (j-1)=0:=e0;rw [this]at hz;cases hz
 ·have hp:j=0:=by have:=ov hp;omega
  subst hp;exact fin (kI (Len.of_top hm fun h=>absurd h oq)).symm
theorem aFp {x:Nat}(hx:x<18446744073709551616) (C:∀k' A c,Up k k'→NatN k' A (nw x) c x→R k' (.slice A (nw x) c)):Cl k 98 #[.int .u64 (x:Int)] R:=by
 intro k0 u0;refine aUd fun p k1 u1 hb=>?_;have e0:wrap .u32 (x:Int)=(wq x 0:Int):=by rw [wu32];unfold wq wd B;simp
 have e1:wrap .u32 (Int.fdiv (x:Int) (2^(min (Int.toNat 32) (IntKind.bits .u64))))=(wq x 1:Int):=by
  have:(2:Int)^(min (Int.toNat 32) (IntKind.bits .u64))=4294967296:=oz
  rw [this,wu32,ve _ oz];unfold wq wd B;omega
 rw [e0,e1]at hb
 have hrow:RowN k1 (some ⟨p,0,none⟩) 2 2 x:=⟨by unfold B;omega,oy _,fun q hq=>by
  unfold cellAt;simp only [qc,hb.cell];rcases q with _|_|q
  ·rfl
  ·rfl
  ·omega⟩
 refine nP hrow oq fun k2 u2 hN=>?_;exact⟨_,_,_,rfl,fun k3 u3=>C k3 _ _ (((u0.trans u1).trans u2).trans u3) (hN.up u3)⟩
end
section
variable {k k':World}{A A':Option Addr}{n c m n' c' m' a b:Nat}{R:World→Value→Prop}
def ord (a b:Nat):Int:=if a<b then -1 else if b<a then 1 else 0
theorem oF (h:NatN k A n c a) (h':NatN k A' n' c' b) (hn:n≤1099511627776) (hn':n'≤1099511627776) (C:∀k',Up k k'→R k' (.int .i64 (ord a b))):Cl k 128 #[.slice A n c,.slice A' n' c'] R:=by
 intro k0 u0;replace h:=h.up u0;replace h':=h'.up u0;replace C:=fun k' u=>C k' (u0.trans u);have hla:Len B a n:=by rw [h.2];exact cJ a
 have hlb:Len B b n':=by rw [h'.2];exact cJ b
 refine aIl ⟨rfl,rfl,fun hlt=>?_,fun hlt=>⟨rfl,rfl,fun hgt=>?_,fun hgt=>⟨rfl,fun j k1 vs=>vs=[.int .i64 ((j:Int)-1)]∧j≤n∧a/B^j=b/B^j,⟨n,fun k1 u1=>?_⟩,?_⟩⟩⟩
 ·intro k1 u1;have hlt:=ow hlt;have:a<b:=hla.lt_of bF hlb oq;have e:ord a b=-1:=by unfold ord;rw [og this]
  rw [←e];exact C k1 u1
 ·intro k1 u1;have hgt:=ow hgt;have:b<a:=hlb.lt_of bF hla oq;have e:ord a b=1:=by unfold ord;rw [oh oq,og this]
  rw [←e];exact C k1 u1
 ·have hlt:=ov hlt;have hgt:=ov hgt;have hnn:n'=n:=oq
  refine⟨by rw [w64 oq oq],oy _,?_⟩;rw [qa h.1.lt,qa (by rw [←hnn];exact h'.1.lt)]
 ·have hlt:=ov hlt;have hgt:=ov hgt;have hnn:n'=n:=oq
  subst hnn;rintro j k1 vs u1 ⟨rfl,hj,he⟩;replace h:=h.up u1;replace h':=h'.up u1;replace C:=fun k' u=>C k' (u1.trans u);refine⟨(j:Int)-1,rfl,fun hp=>?_,fun hp=>?_⟩
  ·have hp:=ow hp;have e0:((j:Int)-1).toNat=j-1:=oq
   have hj1:j-1+1=j:=oq
   refine⟨h.1.addr (p:=0) oq,⟨oq,oq⟩,_,h.1.read (p:=j-1) oq oq,h'.1.addr (p:=0) oq,⟨oq,oq⟩,_,h'.1.read (p:=j-1) oq oq,fun h1=>?_,fun h1=>?_⟩
   ·intro k2 u2;have h1:=ow h1;have:a<b:=wW (b:=B) (i:=j-1) (by rw [hj1];exact he) (by unfold wq at h1;omega);have e:ord a b=-1:=by unfold ord;rw [og this]
    rw [←e];exact C k2 u2
   ·have h1:=ov h1;refine⟨h.1.addr (p:=0) oq,⟨oq,oq⟩,_,h.1.read (p:=j-1) oq oq,h'.1.addr (p:=0) oq,⟨oq,oq⟩,_,h'.1.read (p:=j-1) oq oq,fun h2=>?_,fun h2=>?_⟩
    ·intro k2 u2;have h2:=ow h2;have:b<a:=wW (b:=B) (i:=j-1) (by rw [hj1];exact he.symm) (by unfold wq at h2;omega);have e:ord a b=1:=by unfold ord;rw [oh oq,og this]
     rw [←e];exact C k2 u2
    ·have h2:=ov h2;intro k2 u2;refine⟨j-1,oq,?_,oq,?_⟩
     ·rw [w64 oq oq];have:((j-1:Nat):Int)=(j:Int)-1:=oq
      rw [this]
     ·exact aLu (b:=B) (by rw [hj1];exact he) (by unfold wq at h1 h2;omega)
  ·have hp:=ov hp;have:j=0:=oq
   subst this;have hab:a=b:=by simpa using he
   intro k2 u2;have e:ord a b=0:=by unfold ord;rw [oh oq,oh oq]
   rw [←e];exact C k2 u2
theorem jF {s i:Nat}{cs':Array Value}{v:Int}(hv:v=(wq s i:Int)) (hcs:cs'=row s i++([Value.int .u32 v]:List Value).toArray):cs'=row s (i+1):=by
 rw [hcs,hv,←aPw]
theorem gZ {p:Nat}(h:RowN k A n c a) (hp:n≤p):wq a p=0:=rH bF h.lt hp
theorem bAv {K:Nat}(h:RowN k A n c a) (h':RowN k A' n' c' b) (hn:n≤K) (hn':n'≤K) (hK:K≤137438953472) (C:∀k' A c,Up k k'→NatN k' A (nw (a+b)) c (a+b)→nw (a+b)≤K+1→R k' (.slice A (nw (a+b)) c)) :
 Cl k 127 #[.slice A n c,.slice A' n' c'] R:=by
 intro k0 u0;replace h:=h.up u0;replace h':=h'.up u0;replace C:=fun k' A c u=>C k' A c (u0.trans u);refine aUf fun A2 l2 c2 cs3 hl2 hcs3 hlc2=>?_;refine⟨fun j k1 vs=>∃i A l c,vs=[.tuple #[.slice A l c,.agg (row (a+b) i)],.int .u64 (carry B a b i:Nat),.int .i64 (i:Nat)]∧l=i∧l≤c∧i≤max n n'∧j+i=max n n',⟨max n n',fun k1 u1=>⟨0,A2,l2,c2,by rw [hcs3,sO];rfl,hl2,hlc2,oq,oq⟩⟩,?_⟩;rintro j k1 vs u1 ⟨i,A4,l4,c4,rfl,hl4,hlc,hi,hj⟩;have hl4':=hl4.symm;subst hl4';replace h:=h.up u1;replace h':=h'.up u1;replace C:=fun k' A c u=>C k' A c (u1.trans u);have hc1:=zL bF a b i;have hxa:=bN a i;have hxb:=bN b i;have hB:B=4294967296:=rfl;have hs:=aEp bF a b i;have hcs:=sM bF a b i;have step:∀(v:Int) {A10:Option Addr}{l10 c10:Nat}{cs11:Array Value},v=(wq a i+wq b i+carry B a b i:Nat)→i<max n n'→l10=i+Int.toNat 1→cs11=row (a+b) i++([Value.int .u32 (wrap .u32 v)]:List Value).toArray→l10≤c10→
  ∃m,m<j∧∃i' A l c,[Value.tuple #[Value.slice A10 l10 c10,Value.agg cs11],Value.int .u64 (Int.fdiv v (2^(min (Int.toNat 32) (IntKind.bits .u64)))),Value.int .i64 (wrap .i64 (((i:Nat):Int)+1))]=[.tuple #[.slice A l c,.agg (row (a+b) i')],.int .u64 (carry B a b i':Nat),.int .i64 (i':Nat)]∧l=i'∧l≤c∧i'≤max n n'∧m+i'=max n n':=by
  intro v A10 l10 c10 cs11 hv hlt hl hcs11 hlc10;refine⟨j-1,oq,i+1,A10,l10,c10,?_,by simpa using hl,hlc10,oq,oq⟩;have e1:cs11=row (a+b) (i+1):=jF (by rw [wu32,hv];unfold wq at *;rw [hs,hB];omega) hcs11;have e2:Int.fdiv v (2^(min (Int.toNat 32) (IntKind.bits .u64)))=(carry B a b (i+1):Nat):=by
   have:(2:Int)^(min (Int.toNat 32) (IntKind.bits .u64))=4294967296:=oz
   rw [this,ve _ oz,hv,hcs,hB];unfold wq B;omega
  have e3:wrap .i64 (((i:Nat):Int)+1)=((i+1:Nat):Int):=by rw [w64 oq oq];omega
  rw [e1,e2,e3]
 have size:Sy.sizeOk 4 (i+Int.toNat 1):=by
  have:Int.toNat 1=1:=rfl;rw [this];exact⟨oq,oq⟩
 have ex:wrap .u64 (wq a i:Int)=(wq a i:Int):=wu64 oq oq;have ey:wrap .u64 (wq b i:Int)=(wq b i:Int):=wu64 oq oq;have e1:wrap .u64 ((carry B a b i:Int)+(wq a i:Int))=((carry B a b i+wq a i:Nat):Int):=by rw [wu64 oq oq];omega
 have e2:wrap .u64 ((carry B a b i:Int)+(wq b i:Int))=((carry B a b i+wq b i:Nat):Int):=by rw [wu64 oq oq];omega
 have e3:wrap .u64 (((carry B a b i+wq a i:Nat):Int)+(wq b i:Int))=((carry B a b i+wq a i+wq b i:Nat):Int):=by rw [wu64 oq oq];omega
 have getA:i<n→(∃b o,A=some ⟨b,o,none⟩)∧((0:Int)≤(i:Nat)∧((i:Nat):Int)<(n:Nat))∧ReadAt k1.cell? A (Int.toNat (i:Nat)*1+0) 1 (Value.int .u32 (wq a i:Int)):=fun hlt=>⟨h.addr hlt,⟨oq,oq⟩,h.read hlt (by simp)⟩;have getB:i<n'→(∃b o,A'=some ⟨b,o,none⟩)∧((0:Int)≤(i:Nat)∧((i:Nat):Int)<(n':Nat))∧ReadAt k1.cell? A' (Int.toNat (i:Nat)*1+0) 1 (Value.int .u32 (wq b i:Int)):=fun hlt=>⟨h'.addr hlt,⟨oq,oq⟩,h'.read hlt (by simp)⟩;refine⟨A4,i,c4,row (a+b) i,iK _ _,_,_,rfl,rfl,fun hlt=>?_,fun hge=>?_⟩
 ·have hlt:=ow hlt;have hlt:i<n:=oq
  refine⟨rfl,fun _=>?_,fun hf=>absurd (ov hf) oq⟩;obtain⟨g1,g2,g3⟩:=getA hlt;refine⟨g1,g2,_,g3,rfl,fun hb=>?_,fun hb=>?_⟩
  ·have hb:i<n':=by have:=ow hb;omega
   obtain⟨g4,g5,g6⟩:=getB hb;refine⟨g4,g5,_,g6,?_⟩;rw [ex,ey,e1,e3];exact⟨rfl,oz,size,fun A10 l10 c10 cs11 hl hcs hc k3 _=>step _ oq oq hl hcs hc⟩
  ·have hb:n'≤i:=by have:=ov hb;omega
   have hz:=gZ h' hb;rw [ex,e1];exact⟨rfl,oz,size,fun A10 l10 c10 cs11 hl hcs hc k3 _=>step _ oq oq hl hcs hc⟩
 ·have hge:=ov hge;have hge:n≤i:=oq
  have hz:=gZ h hge;refine⟨rfl,fun hlt=>?_,fun hge'=>?_⟩
  ·have hlt:i<n':=by have:=ow hlt;omega
   obtain⟨g4,g5,g6⟩:=getB hlt;refine⟨rfl,fun hf=>absurd (ow hf) oq,fun _=>⟨rfl,fun _=>?_,fun hf=>absurd (ov hf) oq⟩⟩;refine⟨g4,g5,_,g6,?_⟩;rw [ey,e2];exact⟨rfl,oz,size,fun A10 l10 c10 cs11 hl hcs hc k3 _=>step _ oq oq hl hcs hc⟩
  ·have hge':n'≤i:=by have:=ov hge';omega
   have hl4:i=max n n':=oq
   refine⟨rfl,oz,size,fun A8 l8 c8 cs9 hl hcs9 hc8 k3 u3 hrow=>?_⟩;have hz':=gZ h' hge';have hlt1:a<B^i:=qy h.lt (qb bF hge);have hlt2:b<B^i:=qy h'.lt (qb bF hge');have htop:wq (a+b) i=carry B a b i:=by
    unfold wq at *
    simp only [hs,hz,hz',qc];exact oi (jm hc1 oz)
   have ec:cs9=row (a+b) (i+1):=jF (by rw [wu32,htop];omega) hcs9;have hl:l8=i+1:=by simpa using hl
   subst hl ec;have hsum:a+b<B^(i+1):=by
    rw [jj,hB]at *
    omega
   have hR:=RowN.of_row hrow hsum hc8;refine nP hR oq fun k4 u4 hN=>⟨_,_,_,rfl,fun k5 u5=>C k5 _ _ ((u3.trans u4).trans u5) (hN.up u5) ?_⟩;have:=aY hsum;omega
end
def dR (f:Nat→Nat) (n:Nat):Array Value:=((List.range n).map fun i=>Value.int .u32 (f i)).toArray
theorem wE (f:Nat→Nat) (n:Nat):(dR f n).size=n:=by simp [dR]
theorem eI (f:Nat→Nat) (n i:Nat):(dR f n)[i]?=if i<n then some (.int .u32 (f i)) else none:=by
 unfold dR
 by_cases h:i<n <;> simp [h]
theorem pN (f:Nat→Nat) (n:Nat):RowC (dR f n):=by
 intro u hu;unfold dR at hu;simp only [xh]at hu;obtain⟨_,_,rfl⟩:=hu;exact⟨rfl,rfl⟩
theorem cC {f g:Nat→Nat}{n:Nat}(h:∀i,i<n→f i=g i):dR f n=dR g n:=by
 unfold dR;congr 1;apply List.map_congr_left;intro i hi;rw [h i (by simpa using hi)]
theorem fP (m n:Nat):row m n=dR (wq m) n:=rfl
theorem oM (f:Nat→Nat) (n i x:Nat):(dR f n).setIfInBounds i (.int .u32 x)=dR (fun j=>if j=i then x else f j) n:=by
 apply jc;intro j;rw [qz,eI,eI,wE]
 by_cases e:i=j
 ·subst e;simp
 ·simp [e,Ne.symm e]
theorem lR (n:Nat):madeCells #[.int .u32 0] n=dR (fun _=>0) n:=by
 apply Array.toList_inj.1;rw [toList_madeCells_one];simp [dR,List.map_const']
theorem aKf (f:Nat→Nat) {n p q:Nat}(hp:p<n) (hq:q=p):ReadIn (dR f n) q 1 (.int .u32 (f p)):=by
 subst hq;refine⟨rfl,fun j u hu=>?_⟩;cases j with
 | zero=>
  have hu:#[Value.int .u32 (f q)][0]?=some u:=hu;have:u=.int .u32 (f q):=by simpa using hu.symm
  rw [this,jh,eI,og hp]
 | succ j=>
  have hu:#[Value.int .u32 (f q)][j+1]?=some u:=hu;simp at hu
theorem gF (cs:Array Value) (p:Nat) (v:Value):Sy.over cs p [v]=cs.setIfInBounds p v:=rfl
theorem mod32 (x:Nat):wrap .u32 ((x:Nat):Int)=((x % B:Nat):Int):=by rw [wu32];unfold B;omega
theorem div32 (x:Nat):Int.fdiv ((x:Nat):Int) (2^(min (Int.toNat 32) (IntKind.bits .u64)))=((x/B:Nat):Int):=by
 have:(2:Int)^(min (Int.toNat 32) (IntKind.bits .u64))=4294967296:=oz
 rw [this,ve _ oz];unfold B;omega
theorem u64n {x:Nat}(h:x<18446744073709551616):wrap .u64 ((x:Nat):Int)=((x:Nat):Int):=wu64 oq oq
section
variable {k k':World}{A A':Option Addr}{n c m n' c' m' a b:Nat}{R:World→Value→Prop}
def mixw (a b i t:Nat):Nat→Nat:=fun j=>if j<t then wq (mrow B a b (i+1)) j else wq (mrow B a b i) j
theorem dE {K:Nat}(h:RowN k A n c a) (h':RowN k A' n' c' b) (hn:n≤K) (hn':n'≤K) (hK:K≤68719476736) (C:∀k' A c,Up k k'→NatN k' A (nw (a*b)) c (a*b)→nw (a*b)≤n+n'→R k' (.slice A (nw (a*b)) c)) :
 Cl k 126 #[.slice A n c,.slice A' n' c'] R:=by
 intro k0 u0;replace h:=h.up u0;replace h':=h'.up u0;replace C:=fun k' A c u=>C k' A c (u0.trans u);have hBv:B=4294967296:=rfl;have eN:wrap .i64 ((n:Nat)+(n':Nat))=((n+n':Nat):Int):=by rw [w64 oq oq];omega
 refine aNl ⟨rfl,rfl,?_⟩;rw [eN,oo,js];refine⟨oq,⟨oq,oq⟩,fun A2 l2 c2 cs3 hl2 hcs3 hlc2=>?_⟩;refine⟨fun j k1 vs=>∃i A l c,vs=[.tuple #[.slice A l c,.agg (row (mrow B a b i) (n+n'))],.int .i64 (i:Nat)]∧l=n+n'∧l≤c∧i≤n∧j+i=n,⟨n,fun k1 u1=>⟨0,A2,l2,c2,?_,hl2,hlc2,oq,oq⟩⟩,?_⟩
 ·rw [hcs3];have e:madeCells [Value.int .u32 0].toArray (n+n')=row (mrow B a b 0) (n+n'):=by
   have:=lR (n+n');rw [fP];refine this.trans (cC fun i _=>?_);have e0:mrow B a b 0=0:=by unfold mrow;rw [ke,xn,xf]
   rw [e0];simp [wq,wd]
  rw [e];rfl
 rintro j k1 vs u1 ⟨i,A4,l4,c4,rfl,hl4,hlc,hi,hj⟩;replace h:=h.up u1;replace h':=h'.up u1;replace C:=fun k' A c u=>C k' A c (u1.trans u);refine⟨A4,l4,c4,_,iK _ _,_,rfl,rfl,fun hlt=>?_,fun hge=>?_⟩
 ·have hlt:i<n:=by have:=ow hlt;omega
  refine⟨fun j' k2 vs=>∃t A l c,vs=[.tuple #[.slice A l c,.agg (dR (mixw a b i (i+t)) (n+n'))],.int .u64 (mcar B a b i t:Nat),.int .i64 (t:Nat)]∧l=n+n'∧l≤c∧t≤n'∧j'+t=n',⟨n',fun k2 u2=>⟨0,A4,l4,c4,?_,hl4,hlc,oq,oq⟩⟩,?_⟩
  ·rw [vR];have e:row (mrow B a b i) (n+n')=dR (mixw a b i (i+0)) (n+n'):=by
    rw [fP];refine cC fun p _=>?_;unfold mixw;split
    ·unfold wq;rw [aAo bF a b oq]
    ·rfl
   rw [e];rfl
  rintro j' k2 vs u2 ⟨t,A7,l7,c7,rfl,hl7,hlc7,ht,hjt⟩;replace h:=h.up u2;replace h':=h'.up u2;replace C:=fun k' A c u=>C k' A c (u2.trans u);refine⟨A7,l7,c7,_,pN _ _,_,_,rfl,rfl,fun hlt2=>?_,fun hge2=>?_⟩
  ·have hlt2:t<n':=by have:=ow hlt2;omega
   have es:wrap .i64 (((i:Nat):Int)+((t:Nat):Int))=((i+t:Nat):Int):=by rw [w64 oq oq];omega
   have hget:mixw a b i (i+t) (i+t)=wq (mrow B a b i) (i+t):=by unfold mixw;rw [oh oq]
   have hrd:=aKf (mixw a b i (i+t)) (n:=n+n') (p:=i+t) (q:=Int.toNat ((i+t:Nat):Int)*1+0) oq (by rw [oo];omega);rw [hget]at hrd;have hx:=bN a i;have hy:=bN b t;have hz:=bN (mrow B a b i) (i+t);have hc:=xK bF a b i t;have hp:wq a i*wq b t≤4294967295*4294967295:=ky oq oq;have hs:=vQ bF a b i t;have e1:wrap .u64 (wrap .u64 ((wq a i:Nat):Int)*wrap .u64 ((wq b t:Nat):Int))=((wq a i*wq b t:Nat):Int):=by
    rw [u64n oq,u64n oq,←vd,u64n oq]
   have e2:wrap .u64 (((mcar B a b i t:Nat):Int)+((wq a i*wq b t:Nat):Int))=((mcar B a b i t+wq a i*wq b t:Nat):Int):=by rw [←xl,u64n oq]
   have e3:wrap .u64 (((mcar B a b i t+wq a i*wq b t:Nat):Int)+wrap .u64 ((wq (mrow B a b i) (i+t):Nat):Int))=((wq (mrow B a b i) (i+t)+wq a i*wq b t+mcar B a b i t:Nat):Int):=by
    rw [u64n (x:=wq (mrow B a b i) (i+t)) oq,←xl,u64n oq]
    congr 1;omega
   refine⟨h.addr hlt,⟨oq,oq⟩,_,h.read (p:=i) hlt (by rw [oo];omega),h'.addr hlt2,⟨oq,oq⟩,_,h'.read (p:=t) hlt2 (by rw [oo];omega),?_⟩;rw [es];have hin:(decide ((0:Int)≤((i+t:Nat):Int)∧((i+t:Nat):Int)<(l7:Nat)))=true:=decide_eq_true ⟨oq,oq⟩;refine⟨hin,_,hrd,hin,⟨oq,oq⟩,fun cs14 hcs k3 u3=>?_⟩;rw [e1,e2,e3]at hcs ⊢;refine⟨j'-1,oq,t+1,A7,l7,c7,?_,hl7,hlc7,oq,oq⟩;rw [gF,mod32,oo,oM]at hcs;have eg:cs14=dR (mixw a b i (i+(t+1))) (n+n'):=by
    rw [hcs];refine cC fun p _=>?_;unfold mixw
    by_cases hpe:p=(i+t)*1+0
    ·rw [og hpe,og oq,hpe,js,jh];exact hs.1.symm
    ·rw [oh hpe]
     by_cases hpl:p<i+t
     ·rw [og hpl,og oq]
     ·rw [oh hpl,oh oq]
   have ec:((wq (mrow B a b i) (i+t)+wq a i*wq b t+mcar B a b i t) / B:Nat)=mcar B a b i (t+1):=hs.2.symm;have et:wrap .i64 (((t:Nat):Int)+1)=((t+1:Nat):Int):=by rw [w64 oq oq];omega
   rw [eg,div32,ec,et]
  ·have hge2:t=n':=by have:=ov hge2;omega
   subst hge2;have es:wrap .i64 (((i:Nat):Int)+((t:Nat):Int))=((i+t:Nat):Int):=by rw [w64 oq oq];omega
   rw [es];have hin:(decide ((0:Int)≤((i+t:Nat):Int)∧((i+t:Nat):Int)<(l7:Nat)))=true:=decide_eq_true ⟨oq,oq⟩;refine⟨rfl,hin,⟨oq,oq⟩,fun cs11 hcs k3 u3=>?_⟩;refine⟨j-1,oq,i+1,A7,l7,c7,?_,hl7,hlc7,oq,oq⟩;rw [gF,mod32,oo,oM]at hcs;have hend:=aAn bF (a:=a) (i:=i) h'.lt;have eg:cs11=row (mrow B a b (i+1)) (n+t):=by
    rw [hcs,fP];refine cC fun p _=>?_
    by_cases hpe:p=(i+t)*1+0
    ·rw [og hpe,hpe,js,jh,hend];exact oi (bN _ _)
    ·rw [oh hpe];unfold mixw
     by_cases hpl:p<i+t
     ·rw [og hpl]
     ·rw [oh hpl];exact qJ bF h'.lt oq
   have et:wrap .i64 (((i:Nat):Int)+1)=((i+1:Nat):Int):=by rw [w64 oq oq];omega
   rw [eg,et]
 ·have hge:i=n:=by have:=ov hge;omega
  subst hge;intro k3 u3 hrow;have em:mrow B a b i=a*b:=by unfold mrow;rw [oi h.lt]
  rw [em]at hrow;have hlt:a*b<B^(i+n'):=by rw [←em];exact rZ bF h'.lt
  subst hl4;have hR:=RowN.of_row hrow hlt hlc;refine nP hR oq fun k4 u4 hN=>⟨_,_,_,rfl,fun k5 u5=>C k5 _ _ ((u3.trans u4).trans u5) (hN.up u5) ?_⟩;have:=aY hlt;omega
end
theorem or32 {r x:Nat}(hr:r<4294967296) (hx:x<4294967296):BitVec.toNat (BitVec.ofInt (IntKind.bits .u64) ((r*4294967296:Nat):Int) ||| BitVec.ofInt (IntKind.bits .u64) ((x:Nat):Int))=r*4294967296+x:=by
 have eb:IntKind.bits .u64=64:=rfl;rw [eb,BitVec.ofInt_natCast,BitVec.ofInt_natCast,BitVec.toNat_or,BitVec.toNat_ofNat,BitVec.toNat_ofNat,oi oq,oi oq];have:=Nat.shiftLeft_add_eq_or_of_lt (a:=r) (i:=32) (b:=x) oq;rw [Nat.shiftLeft_eq]at this;exact this.symm
section
variable {k k':World}{A A':Option Addr}{n c m n' c' m' a b:Nat}{R:World→Value→Prop}
def fromw (x i:Nat):Nat→Nat:=fun p=>if i≤p then wq x p else 0
theorem aLp {d:Nat}(h:RowN k A n c a) (hn:n≤137438953472) (hd0:0<d) (hd:d<4294967296) (C:∀k' A c,Up k k'→NatN k' A (nw (a/d)) c (a/d)→R k' (.tuple #[.slice A (nw (a/d)) c,.int .u32 ((a % d:Nat):Int)])) :
 Cl k 138 #[.slice A n c,.int .u32 ((d:Nat):Int)] R:=by
 intro k0 u0;replace h:=h.up u0;replace C:=fun k' A c u=>C k' A c (u0.trans u);have hBv:B=4294967296:=rfl;refine aDa ⟨rfl,?_⟩;rw [oo,js];refine⟨oq,⟨oq,oq⟩,fun A2 l2 c2 cs3 hl2 hcs3 hlc2=>⟨rfl,?_⟩⟩;refine⟨fun j k1 vs=>∃A l c,vs=[.tuple #[.slice A l c,.agg (dR (fromw (a/d) j) n)],.int .u64 ((a/B^j % d:Nat):Int),.int .i64 (((j:Nat):Int)-1)]∧l=n∧l≤c∧j≤n,⟨n,fun k1 u1=>⟨A2,l2,c2,?_,hl2,hlc2,oy _⟩⟩,?_⟩
 ·have e:cs3=dR (fromw (a/d) n) n:=by
   rw [hcs3];refine (lR n).trans (cC fun i hi=>?_);unfold fromw;rw [oh oq]
  rw [e,w64 oq oq,qa h.lt,Nat.zero_mod];rfl
 rintro j k1 vs u1 ⟨A4,l4,c4,rfl,hl4,hlc,hj⟩;replace h:=h.up u1;replace C:=fun k' A c u=>C k' A c (u1.trans u);refine⟨A4,l4,c4,_,pN _ _,_,_,rfl,fun hp=>?_,fun hp=>?_⟩
 ·have hp:0<j:=by have:=ow hp;omega
  have e1:((j:Nat):Int)-1=((j-1:Nat):Int):=oq
  rw [e1];have hj1:j-1+1=j:=oq
  have hw:=bN a (j-1);have hr:=qg (a/B^j) hd0;have hb:=byword (b:=B) (n:=a) (d:=d) bF hd0 (j-1);rw [hj1]at hb;have ed:wrap .u64 ((d:Nat):Int)=((d:Nat):Int):=u64n oq;have hnz:(decide (wrap .u64 ((d:Nat):Int)≠0))=true:=by rw [ed];exact decide_eq_true oq
  have es:wrap .u64 (((a/B^j % d:Nat):Int)*2^(min (Int.toNat 32) (IntKind.bits .u64)))=((a/B^j % d*4294967296:Nat):Int):=by
   have:(2:Int)^(min (Int.toNat 32) (IntKind.bits .u64))=((4294967296:Nat):Int):=oz
   rw [this,←vd,u64n oq]
  have ex:wrap .u64 ((wq a (j-1):Nat):Int)=((wq a (j-1):Nat):Int):=u64n oq;have hin:(decide ((0:Int)≤((j-1:Nat):Int)∧((j-1:Nat):Int)<(l4:Nat)))=true:=decide_eq_true ⟨oq,oq⟩;refine⟨h.addr (p:=0) oq,⟨oq,oq⟩,_,h.read (p:=j-1) oq (by rw [oo];omega),hnz,hin,⟨oq,oq⟩,fun cs9 hcs=>⟨hnz,fun k2 u2=>?_⟩⟩;rw [es,ex,or32 oq hw]at hcs ⊢;rw [u64n (x:=a/B^j % d*4294967296+wq a (j-1)) oq,ed]at hcs ⊢;rw [←Int.ofNat_tdiv,gF,oo]at hcs;rw [←Int.ofNat_tmod];have e2:(a/B^j % d*4294967296+wq a (j-1)) / d=wq (a/d) (j-1):=hb.1;have e3:(a/B^j % d*4294967296+wq a (j-1)) % d=a/B^(j-1) % d:=hb.2;rw [e2]at hcs;rw [e3];have hq:=bN (a/d) (j-1);rw [u64n oq,mod32,oi oq,oM]at hcs;refine⟨j-1,oq,A4,l4,c4,?_,hl4,hlc,oq⟩;have eg:cs9=dR (fromw (a/d) (j-1)) n:=by
   rw [hcs];refine cC fun p _=>?_;unfold fromw
   by_cases hpe:p=(j-1)*1+0
   ·rw [og hpe,og oq]
    congr 1;omega
   ·rw [oh hpe]
    by_cases hpl:j≤p
    ·rw [og hpl,og oq]
    ·rw [oh hpl,oh oq]
  rw [eg,w64 oq oq]
 ·have hp:j=0:=by have:=ov hp;omega
  subst hp;intro k2 u2 hrow;have er:dR (fromw (a/d) 0) n=row (a/d) n:=by
   rw [fP];exact cC fun p _=>by unfold fromw;rw [og (jx _)]
  rw [er]at hrow;subst hl4;have hlt:a/d<B^l4:=jm (zt _ _) h.lt;have hm:a % d<4294967296:=yh (qg _ hd0) hd;refine nP (RowN.of_row hrow hlt hlc) oq fun k3 u3 hN=>⟨_,_,_,rfl,fun k4 u4=>?_⟩;have e0:a/B^0 % d=a % d:=by rw [ke,yw]
  rw [e0,mod32,oi oq];exact C k4 _ _ ((u2.trans u3).trans u4) (hN.up u4)
theorem wY (h:RowN k A n c a) (h':RowN k A' n' c' b) (hn:n≤137438953472) (hn':n'≤n) (hab:b≤a) (C:∀k' A c,Up k k'→NatN k' A (nw (a-b)) c (a-b)→R k' (.slice A (nw (a-b)) c)) :
 Cl k 129 #[.slice A n c,.slice A' n' c'] R:=by
 intro k0 u0;replace h:=h.up u0;replace h':=h'.up u0;replace C:=fun k' A c u=>C k' A c (u0.trans u);have hBv:B=4294967296:=rfl;refine aNi fun A2 l2 c2 cs3 hl2 hcs3 hlc2=>?_;refine⟨fun j k1 vs=>∃i A l c,vs=[.tuple #[.slice A l c,.agg (row (a-b) i)],.int .i64 (borrow B a b i:Nat),.int .i64 (i:Nat)]∧l=i∧l≤c∧i≤n∧j+i=n,⟨n,fun k1 u1=>⟨0,A2,l2,c2,by rw [hcs3,pZ];rfl,hl2,hlc2,oq,oq⟩⟩,?_⟩;rintro j k1 vs u1 ⟨i,A4,l4,c4,rfl,hl4,hlc,hi,hj⟩;have hl4':=hl4.symm;subst hl4';replace h:=h.up u1;replace h':=h'.up u1;replace C:=fun k' A c u=>C k' A c (u1.trans u);have hbw:=pC (b:=B) a b i;have hxa:=bN a i;have hxb:=bN b i;have hs:=aRh bF hab i;have hbs:=pY bF a b i;have size:Sy.sizeOk 4 (i+Int.toNat 1):=by
  have:Int.toNat 1=1:=rfl;rw [this];exact⟨oq,oq⟩
 -- one more word
 have step:∀(v r:Int) {A10:Option Addr}{l10 c10:Nat}{cs11:Array Value},(v=(wq a i:Int)-(borrow B a b i:Nat)-(wq b i:Int)∧0≤v∧r=0∨v=(wq a i:Int)-(borrow B a b i:Nat)-(wq b i:Int)+4294967296∧v<4294967296∧r=1)→i<n→l10=i+Int.toNat 1→
  cs11=row (a-b) i++([Value.int .u32 (wrap .u32 v)]:List Value).toArray→l10≤c10→
  ∃m,m<j∧∃i' A l c,[Value.tuple #[Value.slice A10 l10 c10,Value.agg cs11],Value.int .i64 r,Value.int .i64 (wrap .i64 (((i:Nat):Int)+1))]=[.tuple #[.slice A l c,.agg (row (a-b) i')],.int .i64 (borrow B a b i':Nat),.int .i64 (i':Nat)]∧l=i'∧l≤c∧i'≤n∧m+i'=n:=by
  intro v r A10 l10 c10 cs11 hv hlt hl hcs11 hlc10;refine⟨j-1,oq,i+1,A10,l10,c10,?_,by simpa using hl,hlc10,oq,oq⟩;have hs':wq (a-b) i=(wq a i+4294967296-wq b i-borrow B a b i) % 4294967296:=hs;have hbs':borrow B a b (i+1)=if wq a i<wq b i+borrow B a b i then 1 else 0:=hbs;have e1:cs11=row (a-b) (i+1):=jF (by rw [wu32,hs'];omega) hcs11;have e2:r=(borrow B a b (i+1):Nat):=by
   rw [hbs'];split <;> omega
  have e3:wrap .i64 (((i:Nat):Int)+1)=((i+1:Nat):Int):=by rw [w64 oq oq];omega
  rw [e1,e2,e3]
 have ex:wrap .i64 (wq a i:Int)=(wq a i:Int):=w64 oq oq;have ey:wrap .i64 (wq b i:Int)=(wq b i:Int):=w64 oq oq;have e1:wrap .i64 ((wq a i:Int)-((borrow B a b i:Nat):Int))=(wq a i:Int)-((borrow B a b i:Nat):Int):=w64 oq oq;have e2:wrap .i64 ((wq a i:Int)-((borrow B a b i:Nat):Int)-(wq b i:Int))=(wq a i:Int)-((borrow B a b i:Nat):Int)-(wq b i:Int):=w64 oq oq;have e3:wrap .i64 ((wq a i:Int)-((borrow B a b i:Nat):Int)-(wq b i:Int)+4294967296)=(wq a i:Int)-((borrow B a b i:Nat):Int)-(wq b i:Int)+4294967296:=w64 oq oq;have e4:wrap .i64 ((wq a i:Int)-((borrow B a b i:Nat):Int)+4294967296)=(wq a i:Int)-((borrow B a b i:Nat):Int)+4294967296:=w64 oq oq;refine⟨A4,i,c4,row (a-b) i,iK _ _,_,_,rfl,rfl,fun hlt=>?_,fun hge=>?_⟩
 ·have hlt:i<n:=by have:=ow hlt;omega
  refine⟨h.addr hlt,⟨oq,oq⟩,_,h.read (p:=i) hlt (by rw [oo];omega),rfl,fun hb=>?_,fun hb=>?_⟩
  ·have hb:i<n':=by have:=ow hb;omega
   refine⟨h'.addr hb,⟨oq,oq⟩,_,h'.read (p:=i) hb (by rw [oo];omega),?_⟩;rw [ex,ey,e1,e2,e3];refine⟨fun hneg=>?_,fun hpos=>?_⟩
   ·have hneg:=ow hneg;exact⟨rfl,oz,size,fun A10 l10 c10 cs11 hl hcs hc k3 _=>step _ 1 (.inr ⟨rfl,oq,rfl⟩) hlt hl hcs hc⟩
   ·have hpos:=ov hpos;exact⟨rfl,oz,size,fun A10 l10 c10 cs11 hl hcs hc k3 _=>step _ 0 (.inl ⟨rfl,oq,rfl⟩) hlt hl hcs hc⟩
  ·have hb:n'≤i:=by have:=ov hb;omega
   have hz:=gZ h' hb;rw [ex,e1,e4];refine⟨fun hneg=>?_,fun hpos=>?_⟩
   ·have hneg:=ow hneg;exact⟨rfl,oz,size,fun A10 l10 c10 cs11 hl hcs hc k3 _=>step _ 1 (.inr ⟨oq,oq,rfl⟩) hlt hl hcs hc⟩
   ·have hpos:=ov hpos;exact⟨rfl,oz,size,fun A10 l10 c10 cs11 hl hcs hc k3 _=>step _ 0 (.inl ⟨oq,oq,rfl⟩) hlt hl hcs hc⟩
 ·have hge:i=n:=by have:=ov hge;omega
  subst hge;intro k3 u3 hrow;have hlt:a-b<B^i:=jm (Nat.sub_le _ _) h.lt;have hR:RowN k3 A4 i c4 (a-b):=RowN.of_row hrow hlt hlc;exact nP hR oq fun k4 u4 hN=>⟨_,_,_,rfl,fun k5 u5=>C k5 _ _ ((u3.trans u4).trans u5) (hN.up u5)⟩
end
theorem nM {t:Nat}(h:0<t):bl (t/2)+1=bl t:=by
 have h1:bl t≤bl (t/2)+1:=kF.2 (by
  have:=mE (t/2)
  rw [jj];omega)
 have h2:bl (t/2)≤bl t-1:=kF.2 (by
  have h3:=mE t;have h4:bl t≠0:=fun e=>by rw [e]at h3;simp at h3;omega
  have e:bl t=bl t-1+1:=oq
  rw [e,jj]at h3
  omega)
 have h4:bl t≠0:=fun e=>by have h3:=mE t;rw [e]at h3;simp at h3;omega
 omega
theorem zI {m n:Nat}(h:Len B m (n+1)):bl m=32*n+bl (wq m n):=by
 have hB:∀j,B^j=2^(32*j):=fun j=>by rw [wO,←yk]
 have ht:wq m n≠0:=h.top bF oq;have hd:m/B^n=wq m n:=by
  unfold wq wd;refine (oi ?_).symm;rw [qj (oc bF),oa,←jj];exact h.lt
 have hp:0<B^n:=oc bF;have e1:=jf m (B^n);have e2:=qg m hp;rw [hd]at e1
 have hu:bl m≤32*n+bl (wq m n):=kF.2 (by
  have h1:=mE (wq m n);rw [jt,←hB];have:B^n*(wq m n+1)≤B^n*2^bl (wq m n):=qn _ h1;rw [zu,js]at this
  omega)
 have hl:32*n+bl (wq m n)-1<bl m:=by
  refine vu fun hle=>?_;have h1:=kF.1 hle;have h2:=nH ht;have h3:bl (wq m n)≠0:=fun e=>by have h3:=mE (wq m n);rw [e]at h3;simp at h3;omega
  have e3:32*n+bl (wq m n)-1=32*n+(bl (wq m n)-1):=oq
  rw [e3,jt,←hB]at h1;have:B^n*2^(bl (wq m n)-1)≤B^n*wq m n:=qn _ h2;exact absurd h1 (Nat.not_lt.2 (qr this (by generalize B^n*wq m n=y at e1;generalize m % B^n=z at e1;omega)))
 omega
section
variable {k k':World}{A A':Option Addr}{n c m n' c' m' a b:Nat}{R:World→Value→Prop}
theorem NatN.len (h:NatN k A n c a):Len B a n:=by rw [h.2];exact cJ a
theorem NatN.zero (h:NatN k A n c a):n=0↔a=0:=h.len.zero_iff bF
theorem aXt (h:NatN k A n c a) (hn:n≤137438953472) (C:∀k',Up k k'→R k' (.int .i64 (bl a:Nat))):Cl k 139 #[.slice A n c] R:=by
 intro k0 u0;replace h:=h.up u0;replace C:=fun k' u=>C k' (u0.trans u);refine aNh ⟨rfl,fun hz=>?_,fun hz=>⟨rfl,rfl,?_⟩⟩
 ·intro k1 u1;have hz:n=0:=by have:=eq_of_beq hz;omega
  have:=h.zero.1 hz;have e:bl a=0:=by rw [this];rfl
  have:=C k1 u1;rw [e]at this;exact this
 ·have hz:n≠0:=fun e=>by rw [e]at hz;cases hz
  have e1:wrap .i64 ((n:Nat)-1)=((n-1:Nat):Int):=by rw [w64 oq oq];omega
  rw [e1];have hl:=h.len;have hn1:n-1+1=n:=oq
  rw [←hn1]at hl;have hbl:=zI hl;have e2:wrap .i64 (32*((n-1:Nat):Int))=((32*(n-1):Nat):Int):=by rw [w64 oq oq];omega
  have hw:=bN a (n-1);have hb32:bl (wq a (n-1))≤32:=kF.2 oq;refine⟨h.1.addr (p:=0) oq,⟨oq,oq⟩,_,h.1.read (p:=n-1) oq (by rw [oo];omega),fun j _ vs=>∃t x:Nat,vs=[.int .i64 (x:Int),.int .u32 (t:Int)]∧j=bl t∧x+bl t=bl a∧t<4294967296,⟨bl (wq a (n-1)),fun k1 _=>⟨_,32*(n-1),by rw [e2],rfl,hbl.symm,hw⟩⟩,?_⟩;rintro j k1 vs u1 ⟨t,x,rfl,rfl,hx,ht⟩;refine⟨_,_,rfl,fun hp=>?_,fun hp=>?_⟩
  ·have hp:0<t:=by have:=ow hp;omega
   intro k2 _;have hh:=nM hp;have e3:wrap .i64 ((x:Int)+1)=((x+1:Nat):Int):=by rw [w64 oq oq];omega
   have e4:Int.fdiv (t:Int) (2^(min (Int.toNat 1) (IntKind.bits .u32)))=((t/2:Nat):Int):=by
    have:(2:Int)^(min (Int.toNat 1) (IntKind.bits .u32))=2:=oz
    rw [this,ve _ oz];omega
   rw [e3,e4];exact⟨bl (t/2),oq,t/2,x+1,rfl,rfl,oq,oq⟩
  ·have hp:t=0:=by have:=ov hp;omega
   subst hp;intro k2 u2;have e:x=bl a:=by have:bl 0=0:=rfl;omega
   rw [e];exact C k2 (u1.trans u2)
def sc (a r i:Nat):Nat:=(a % B^i)*2^r/B^i
theorem aVh (a r:Nat):sc a r 0=0:=by unfold sc;rw [ke,xn,xf,Nat.zero_div]
theorem aWo (a r i:Nat):sc a r i<2^r:=by
 unfold sc;rw [qj (oc bF),oa (2^r)];exact jr (qg _ (oc bF)) (oc oz)
theorem aVg (a r i:Nat):wq (a*2^r) i=(wq a i*2^r+sc a r i) % B∧sc a r (i+1)=(wq a i*2^r+sc a r i) / B:=by
 have hp:0<B^i:=oc bF;have e1:(a % B^(i+1))*2^r=(a % B^i)*2^r+B^i*(wq a i*2^r):=by
  rw [dW,jo,jl];rfl
 have e2:(a % B^(i+1))*2^r/B^i=wq a i*2^r+sc a r i:=by
  rw [e1,jg _ _ hp];unfold sc;omega
 constructor
 ·have e3:a*2^r=(a % B^(i+1))*2^r+B^i*(B*(a/B^(i+1)*2^r)):=by
   have:=Nat.mod_add_div a (B^(i+1))
   conv=>lhs;rw [←this]
   rw [jo,jj,jl,jl]
  unfold wq wd;rw [e3,jg _ _ hp,e2,zv];rfl
 ·rw [←e2,jp,←jj];rfl
theorem aYx {a r n:Nat}(h:a<B^n) (hr:r<32):wq (a*2^r) n=sc a r n∧a*2^r<B^(n+1):=by
 have hlt:=aWo a r n;have hr2:2^r<2^32:=Nat.pow_lt_pow_right oz hr;have e:sc a r n=a*2^r/B^n:=by unfold sc;rw [oi h]
 constructor
 ·rw [e]at hlt ⊢;unfold wq wd;exact oi (yh hlt (by rw [wO];exact hr2))
 ·rw [jj];exact xa h (by rw [wO];exact hr2)
theorem aBz (T w p:Nat):wq (T*B^w) p=if p<w then 0 else wq T (p-w):=by
 have:=eC (b:=B) bF 0 T w (oc bF) p;rw [qc,oa]at this;unfold wq;rw [this];split
 ·unfold wd;simp
 ·rfl
theorem orsh {x r y:Nat}(hr:r<32) (hx:x<4294967296) (hy:y<2^r):BitVec.toNat (BitVec.ofInt (IntKind.bits .u64) ((x*2^r:Nat):Int) ||| BitVec.ofInt (IntKind.bits .u64) ((y:Nat):Int))=x*2^r+y:=by
 have eb:IntKind.bits .u64=64:=rfl;have hr2:2^r≤2^31:=qb oz oq;have h1:x*2^r≤4294967295*2^31:=ky oq hr2;rw [eb,BitVec.ofInt_natCast,BitVec.ofInt_natCast,BitVec.toNat_or,BitVec.toNat_ofNat,BitVec.toNat_ofNat,oi oq,oi oq];have:=Nat.shiftLeft_add_eq_or_of_lt (a:=x) (i:=r) (b:=y) hy;rw [Nat.shiftLeft_eq]at this;exact this.symm
theorem aBd {s:Nat}(h:NatN k A n c a) (hn:n≤68719476736) (hs:s≤1099511627776) (C:∀k' A c,Up k k'→NatN k' A (nw (a*2^s)) c (a*2^s)→R k' (.slice A (nw (a*2^s)) c)) :
 Cl k 140 #[.slice A n c,.int .i64 (s:Int)] R:=by
 intro k0 u0;replace h:=h.up u0;replace C:=fun k' A c u=>C k' A c (u0.trans u);refine aDd ⟨rfl,fun hz=>?_,fun hz=>?_⟩
 ·intro k1 u1;have hz:n=0:=by have:=eq_of_beq hz;omega
  have ha:=h.zero.1 hz;have e:a*2^s=0:=by rw [ha,xf]
  have:=C k1 none 0 u1;rw [e,nw_zero]at this;exact this ⟨⟨oz,oy _,fun p hp=>oq⟩,nw_zero.symm⟩
 ·have ew:wrap .i64 (Int.tdiv (s:Int) 32)=((s/32:Nat):Int):=by
   have:Int.tdiv (s:Int) 32=((s/32:Nat):Int):=(Int.ofNat_tdiv s 32).symm;rw [this,w64 oq oq]
  have er:wrap .u64 (Int.tmod (s:Int) 32)=((s % 32:Nat):Int):=by
   have:Int.tmod (s:Int) 32=((s % 32:Nat):Int):=(Int.ofNat_tmod s 32).symm;rw [this,u64n oq]
  rw [ew,er,oo,oo,js];generalize hw:s/32=w;generalize hr:s % 32=r;have hr32:r<32:=oq
  have hmin:min r (IntKind.bits .u64)=r:=by
   have eb:IntKind.bits .u64=64:=rfl;rw [eb];omega
  rw [hmin];have hS:a*2^s=a*2^r*B^w:=by
   have:s=r+32*w:=oq
   rw [this,jt,yk,wO,jl]
  refine⟨oq,⟨oq,oq⟩,fun A2 l2 c2 cs3 hl2 hcs3 hlc2=>?_⟩;refine⟨fun j k1 vs=>∃i A l c,vs=[.tuple #[.slice A l c,.agg (row (a*2^s) (w+i))],.int .u64 (sc a r i:Nat),.int .i64 (i:Nat)]∧l=w+i∧l≤c∧i≤n∧j+i=n,⟨n,fun k1 u1=>⟨0,A2,l2,c2,?_,hl2,hlc2,oq,oq⟩⟩,?_⟩
  ·have e:cs3=row (a*2^s) (w+0):=by
    rw [hcs3,fP];refine (lR w).trans (cC fun p hp=>?_);rw [hS,aBz,og hp]
   rw [e,aVh];rfl
  rintro j k1 vs u1 ⟨i,A4,l4,c4,rfl,hl4,hlc,hi,hj⟩;replace h:=h.up u1;replace C:=fun k' A c u=>C k' A c (u1.trans u);have hc:=aWo a r i;have hx:=bN a i;have hr2:2^r≤2^31:=qb oz oq;have hxr:wq a i*2^r≤4294967295*2^31:=ky oq hr2;have size:Sy.sizeOk 4 (l4+Int.toNat 1):=by
   have:Int.toNat 1=1:=rfl;rw [this];exact⟨oq,oq⟩
  have hwi:wq (a*2^s) (w+i)=wq (a*2^r) i:=by rw [hS,aBz,oh oq];congr 1;omega
  have hst:=aVg a r i;refine⟨A4,l4,c4,_,iK _ _,_,_,rfl,rfl,fun hlt=>?_,fun hge=>?_⟩
  ·have hlt:i<n:=by have:=ow hlt;omega
   have e1:wrap .u64 (wrap .u64 ((wq a i:Nat):Int)*2^r)=((wq a i*2^r:Nat):Int):=by
    have:(2:Int)^r=((2^r:Nat):Int):=by simp
    rw [u64n (x:=wq a i) oq,this,←vd,u64n oq]
   refine⟨h.1.addr hlt,⟨oq,oq⟩,_,h.1.read (p:=i) hlt (by rw [oo];omega),decide_eq_true oq,?_⟩;rw [e1,orsh hr32 hx hc,u64n oq];refine⟨rfl,oz,size,fun A9 l9 c9 cs10 hl hcs hlc9 k2 u2=>⟨j-1,oq,i+1,A9,l9,c9,?_,by rw [hl,hl4];rfl,hlc9,oq,oq⟩⟩;have eg:cs10=row (a*2^s) (w+(i+1)):=by
    refine jF (s:=a*2^s) (i:=w+i) ?_ hcs;rw [mod32,hwi,hst.1]
   have et:wrap .i64 (((i:Nat):Int)+1)=((i+1:Nat):Int):=by rw [w64 oq oq];omega
   rw [eg,div32,←hst.2,et]
  ·have hge:i=n:=by have:=ov hge;omega
   subst hge;have hend:=aYx (r:=r) h.1.lt hr32;refine⟨rfl,oz,size,fun A8 l8 c8 cs9 hl hcs hlc8 k2 u2 hrow=>?_⟩;have eg:cs9=row (a*2^s) (w+i+1):=by
    refine jF (s:=a*2^s) (i:=w+i) ?_ hcs;rw [mod32,hwi,hend.1,oi (by rw [wO];omega)]
   have hl8:l8=w+i+1:=by rw [hl,hl4];rfl
   subst hl8;rw [eg]at hrow;have hlt:a*2^s<B^(w+i+1):=by
    have e:w+i+1=(i+1)+w:=oq
    rw [hS,e,jt];exact jr hend.2 (oc bF)
   exact nP (RowN.of_row hrow hlt hlc8) oq fun k3 u3 hN=>⟨_,_,_,rfl,fun k4 u4=>C k4 _ _ ((u2.trans u3).trans u4) (hN.up u4)⟩
end
theorem or32' {r x:Nat}(hr:r<4294967296) (hx:x<4294967296):BitVec.toNat (BitVec.ofInt (IntKind.bits .u64) ((x:Nat):Int) ||| BitVec.ofInt (IntKind.bits .u64) ((r*4294967296:Nat):Int))=x+r*4294967296:=by
 rw [BitVec.or_comm,or32 hr hx,vg]
theorem shl32 {x:Nat}(h:x<4294967296):wrap .u64 (((x:Nat):Int)*2^(min (Int.toNat 32) (IntKind.bits .u64)))=((x*4294967296:Nat):Int):=by
 have:(2:Int)^(min (Int.toNat 32) (IntKind.bits .u64))=((4294967296:Nat):Int):=oz
 rw [this,←vd,u64n oq]
theorem fdivp (x r:Nat):Int.fdiv ((x:Nat):Int) (2^r)=((x/2^r:Nat):Int):=by
 have:(2:Int)^r=((2^r:Nat):Int):=by simp
 rw [this,ve _ (Int.natCast_nonneg _)];exact (Int.natCast_ediv _ _).symm
theorem aZh (a w i:Nat) {r:Nat}(hr:r<32):wq (a/(B^w*2^r)) i=(wq a (w+i)+wq a (w+i+1)*B) / 2^r % B:=by
 have hb:B=2^r*2^(32-r):=by rw [←jt,wO];congr 1;omega
 have hP:0<2^r:=oc oz;have h:=aRg hb hP (oc oz) a w i;unfold wq;rw [h,vg w i];have hx:wd B a (i+w) / 2^r<2^(32-r):=by
  rw [qj hP,oa,←hb];exact aBy bF _ _
 generalize wd B a (i+w)=x at *
 generalize wd B a (i+w+1)=y at *
 have e:x+y*B=x+2^r*(y*2^(32-r)):=by
  congr 1
  conv=>lhs;rw [hb]
  ac_rfl
 rw [e,jg _ _ hP];have hR:0<2^(32-r):=oc oz;generalize 2^(32-r)=R at *
 generalize x/2^r=z at *
 have e2:y*R % B=y % 2^r*R:=(lE y R (2^r) hR hP).1 |> fun h=>by rw [oa R]at h;rw [hb];exact h
 have e3:z+y*R=z+y % 2^r*R+B*(y/2^r):=by
  have:=Nat.mod_add_div y (2^r)
  conv=>lhs;rw [←this]
  rw [jo,hb,xr]
  congr 2
  ac_rfl
 rw [e3,zv,e2];refine (oi ?_).symm;have hy:y % 2^r+1≤2^r:=qg _ hP;have:=ol R hy;rw [←hb,jo,yv]at this;omega
section
variable {k k':World}{A A':Option Addr}{n c m n' c' m' a b:Nat}{R:World→Value→Prop}
theorem aIb {s:Nat}(h:NatN k A n c a) (hn:n≤137438953472) (hs:s≤4398046511104) (C:∀k' A c,Up k k'→NatN k' A (nw (a/2^s)) c (a/2^s)→R k' (.slice A (nw (a/2^s)) c)) :
 Cl k 141 #[.slice A n c,.int .i64 (s:Int)] R:=by
 intro k0 u0;replace h:=h.up u0;replace C:=fun k' A c u=>C k' A c (u0.trans u);have hBv:B=4294967296:=rfl;have ew:wrap .i64 (Int.tdiv (s:Int) 32)=((s/32:Nat):Int):=by
  have:Int.tdiv (s:Int) 32=((s/32:Nat):Int):=(Int.ofNat_tdiv s 32).symm;rw [this,w64 oq oq]
 have er:wrap .u64 (Int.tmod (s:Int) 32)=((s % 32:Nat):Int):=by
  have:Int.tmod (s:Int) 32=((s % 32:Nat):Int):=(Int.ofNat_tmod s 32).symm;rw [this,u64n oq]
 refine aAq fun A2 l2 c2 cs3 hl2 hcs3 hlc2=>?_;rw [ew,er,oo];generalize hw:s/32=w;generalize hr:s % 32=r;have hr32:r<32:=oq
 have hmin:min r (IntKind.bits .u64)=r:=by
  have eb:IntKind.bits .u64=64:=rfl;rw [eb];omega
 rw [hmin];have hS:a/2^s=a/(B^w*2^r):=by
  have:s=32*w+r:=oq
  rw [this,jt,yk,wO]
 rw [hS]at C;have hdec:(decide ((0:Int)≤((r:Nat):Int)))=true:=decide_eq_true oq;refine⟨fun j k1 vs=>∃i A l c,vs=[.tuple #[.slice A l c,.agg (row (a/(B^w*2^r)) i)],.int .i64 ((w+i:Nat):Int)]∧l=i∧l≤c∧(i=0∨w+i≤n)∧j=n-(w+i),⟨_,fun k1 u1=>⟨0,A2,l2,c2,by rw [hcs3];rfl,hl2,hlc2,Or.inl rfl,rfl⟩⟩,?_⟩;rintro j k1 vs u1 ⟨i,A4,l4,c4,rfl,hl4,hlc,hi,hj⟩;have hl4':=hl4.symm;subst hl4';replace h:=h.up u1;replace C:=fun k' A c u=>C k' A c (u1.trans u);have hword:=aZh a w i hr32;have hx:=bN a (w+i);have hy:=bN a (w+i+1);have hw64:(w:Int)+i≤1000000000000:=oq
 have e1:wrap .i64 (((w+i:Nat):Int)+1)=((w+i+1:Nat):Int):=by rw [w64 oq oq];omega
 have eu:∀ {z:Nat},z<4294967296→wrap .u64 ((z:Nat):Int)=((z:Nat):Int):=fun hz=>u64n oq
 -- one more word
 have step:∀(v:Int) {A10:Option Addr}{l10 c10:Nat}{cs11:Array Value},v=(((wq a (w+i)+wq a (w+i+1)*B) / 2^r:Nat):Int)→w+i<n→l10=i+Int.toNat 1→
  cs11=row (a/(B^w*2^r)) i++([Value.int .u32 (wrap .u32 v)]:List Value).toArray→l10≤c10→
  ∃m,m<j∧∃i' A l c,[Value.tuple #[Value.slice A10 l10 c10,Value.agg cs11],Value.int .i64 ((w+i+1:Nat):Int)]=[.tuple #[.slice A l c,.agg (row (a/(B^w*2^r)) i')],.int .i64 ((w+i':Nat):Int)]∧l=i'∧l≤c∧(i'=0∨w+i'≤n)∧m=n-(w+i'):=by
  intro v A10 l10 c10 cs11 hv hlt hl hcs11 hlc10;refine⟨j-1,oq,i+1,A10,l10,c10,?_,by simpa using hl,hlc10,Or.inr oq,oq⟩;have e1:cs11=row (a/(B^w*2^r)) (i+1):=jF (by rw [hv,mod32,←hword]) hcs11;rw [e1];rfl
 refine⟨A4,i,c4,row (a/(B^w*2^r)) i,iK _ _,_,rfl,rfl,fun hlt=>?_,fun hge=>?_⟩
 ·have hlt:w+i<n:=by have:=ow hlt;omega
  have size:Sy.sizeOk 4 (i+Int.toNat 1):=by
   have:Int.toNat 1=1:=rfl;rw [this];exact⟨oq,oq⟩
  rw [e1];refine⟨h.1.addr hlt,⟨oq,oq⟩,_,h.1.read (p:=w+i) hlt (by rw [oo];omega),rfl,fun hb=>?_,fun hb=>?_⟩
  ·have hb:w+i+1<n:=by have:=ow hb;omega
   refine⟨h.1.addr hb,⟨oq,oq⟩,_,h.1.read (p:=w+i+1) hb (by rw [oo];omega),hdec,?_⟩;rw [eu hx,eu hy,shl32 hy,or32' hy hx,u64n oq,fdivp];exact⟨rfl,oz,size,fun A9 l9 c9 cs10 hl hcs hlc9 k2 u2=>step _ rfl hlt hl hcs hlc9⟩
  ·have hb:n≤w+i+1:=by have:=ov hb;omega
   have hz:wq a (w+i+1)=0:=gZ h.1 hb;refine⟨hdec,?_⟩;rw [eu hx,fdivp];exact⟨rfl,oz,size,fun A9 l9 c9 cs10 hl hcs hlc9 k2 u2=>step _ (by rw [hz,xf,jh]) hlt hl hcs hlc9⟩
 ·have hge:n≤w+i:=by have:=ov hge;omega
  intro k2 u2 hrow;have hlt:a/(B^w*2^r)<B^i:=by
   rw [qj (zg (oc bF) (oc oz))];refine qy (qy h.1.lt (qb bF hge)) ?_;rw [vg w i,jt];exact qn _ (zl _ (oc oz))
  refine nP (RowN.of_row hrow hlt hlc) oq fun k3 u3 hN=>⟨_,_,_,rfl,fun k4 u4=>?_⟩;have:=C k4 A4 c4 ((u2.trans u3).trans u4);rw [←hS]at this hN ⊢;exact this (hN.up u4)
end
theorem aBh (f g:Nat→Nat) (n m:Nat):dR f n++dR g m=dR (fun i=>if i<n then f i else g (i-n)) (n+m):=by
 apply jc;intro i;rw [Array.getElem?_append,wE,eI,eI,eI]
 by_cases h:i<n
 ·rw [og h,og h,og oq,og h]
 ·rw [oh h]
  by_cases h2:i<n+m
  ·rw [og oq,og h2,oh h]
  ·rw [oh oq,oh h2]
theorem aDz (x y n m:Nat):row x n++row y m=row (x % B^n+B^n*y) (n+m):=by
 rw [fP,fP,fP,aBh];refine cC fun i _=>?_;have h:=eC (b:=B) bF (x % B^n) y n (qg _ (oc bF)) i;unfold wq;rw [h]
 by_cases hi:i<n
 ·rw [og hi,og hi,nI bF _ _ _ hi]
 ·rw [oh hi,oh hi]
section
variable {k k':World}{A A':Option Addr}{n c m n' c' m' a b:Nat}{R:World→Value→Prop}
theorem RowN.cells (h:RowN k A n c m) {j:Nat}(hj:j≤n):(row m j).size=j*1∧∀(p:Nat) (u:Value),(row m j)[p]?=some u→cellAt k.cell? A p=some u:=by
 refine⟨by rw [uD,js],fun p u hu=>?_⟩;have hp:p<j:=by
  refine vu fun hle=>?_;rw [zq (by rw [uD];exact hle)]at hu;cases hu
 rw [aGa m hp]at hu;cases hu;exact h.at_ p oq
theorem RowN.from (h:RowN k A n c m) {j:Nat}(hj:j<n):RowN k (A.map fun a=>a.add (j*1)) (n-j) (c-j) (m/B^j):=by
 have hc:=h.cap;refine⟨?_,oq,fun p hp=>?_⟩
 ·rw [qj (oc bF),←jt,xy oq];exact h.lt
 ·have:=h.at_ (j+p) oq;obtain⟨b,o,rfl⟩:=h.addr hj;have e:wq (m/B^j) p=wq m (j+p):=jZ m j p;rw [e,←this]
  by_cases hj0:j=0
  ·subst hj0;simp [cellAt,Addr.add]
  ·simp [cellAt,Addr.add,hj0,Nat.add_assoc]
theorem NatN.from (h:NatN k A n c m) {j:Nat}(hj:j<n):NatN k (A.map fun a=>a.add (j*1)) (n-j) (c-j) (m/B^j):=by
 refine⟨h.1.from hj,(kI (Len.of_top (h.1.from hj).lt fun hp=>?_)).symm⟩;rw [jZ];have:=h.len.top bF oq;have e:j+(n-j-1)=n-1:=oq
 rw [e];exact this
theorem aQr {s j l:Nat}{kk kk':IntKind}(h1:j<l) (h2:l≤c):Sy.slcD s (.slice A n c) (.int kk (j:Int)) (.int kk' (l:Int))=some (.slice (A.map fun a=>a.add (j*s)) (l-j) (c-j)):=by
 unfold Sy.slcD;dsimp only;rw [og ⟨oq,oq,oq⟩,oo,oo,oh oq]
theorem aKr {s j:Nat}{kk kk':IntKind}(h1:j≤c):Sy.slcD s (.slice A n c) (.int kk 0) (.int kk' (j:Int))=some (.slice A j c):=by
 have:=aBq (A:=A) (n:=n) (s:=s) (kk:=kk) (kk':=kk') (c:=c) (hi:=(j:Int)) oq oq
 rwa [oo]at this
theorem aUj {a b:Nat}:(decide (ord a b > 0))=true→b<a:=by
 intro h;have h:=ow h;unfold ord at h;split at h
 ·exact absurd h oz
 ·split at h
  ·assumption
  ·exact absurd h oz
theorem aNv {a b:Nat}:(decide (ord a b > 0))=false→a≤b:=by
 intro h;refine zw fun hlt=>?_;have h:=ov h;unfold ord at h;rw [oh oq,og hlt]at h;exact h oz
theorem aFs {a b:Nat}:(decide (ord a b<0))=true→a<b:=by
 intro h;have h:=ow h;unfold ord at h;split at h
 ·assumption
 ·split at h
  ·exact absurd h oz
  ·exact absurd h oz
theorem tO {a b:Nat}:(decide (ord a b<0))=false→b≤a:=by
 intro h;refine zw fun hlt=>?_;have h:=ov h;unfold ord at h;rw [og hlt]at h;exact h oz
theorem qtail {A4 A8 A10 A14:Option Addr}{l4 c4 l8 c8 l10 c10 l14 c14 V P r j g m14:Nat}{cs9:Array Value}{I14:Nat→World→List Value→Prop}
 (hV:NatN k A4 l4 c4 V) (hP:NatN k A14 l14 c14 P) (hr:NatN k A10 l10 c10 r) (hV0:0<V) (hl4:l4≤68719476735) (hl10:l10≤68719476735) (hl14:l14≤l10) (hj:j<l10) (hj8:j<l8) (hqg:P/V≤g) (hg:g<4294967296)
 (next:∀k' A l c,Up k k'→NatN k' A l c (r % B^j+B^j*(P-V*(P/V)))→∃m,m<m14∧I14 m k' [Value.tuple #[Value.slice A8 l8 c8,Value.agg (Sy.over cs9 (Int.toNat (j:Int)*1+0) ([Value.int .u32 (wrap .u32 ((P/V:Nat):Int))]))],Value.slice A l c,Value.int .i64 (wrap .i64 ((j:Int)-1))]) :
 (Cl k 98 #[Value.int .u64 (g:Int)] fun k19 r18=>∃A19 l19 c19,some (Value.slice A19 l19 c19)=some r18∧
 Cl k19 126 #[Value.slice A4 l4 c4,Value.slice A19 l19 c19] fun k21 r20=>∃A20 l20 c20,some (Value.slice A20 l20 c20)=some r20∧
 ∃I22:Nat→World→List Value→Prop,(∃m22,∀k22,Up k21 k22→I22 m22 k22 [Value.int .u64 (g:Int),Value.slice A20 l20 c20])∧
 ∀m22 k22 vs22,Up k21 k22→I22 m22 k22 vs22→∃n21,∃A22 l22 c22,some [Value.int .u64 n21,Value.slice A22 l22 c22]=some vs22∧
 Cl k22 128 #[Value.slice A22 l22 c22,Value.slice A14 l14 c14] fun k24 r23=>∃n23,some (Value.int .i64 n23)=some r23∧
 ((decide ((n23:Int) > 0))=true→
 (Cl k24 129 #[Value.slice A22 l22 c22,Value.slice A4 l4 c4] fun k26 r25=>∃A24 l24 c24,some (Value.slice A24 l24 c24)=some r25∧
 ∀k27,Up k26 k27→∃m,m<m22∧I22 m k27 [Value.int .u64 (wrap .u64 (n21-1)),Value.slice A24 l24 c24]))∧
 ((decide ((n23:Int) > 0))=false→
 ((decide ((0:Int)≤(j:Int)∧((j:Int):Int)<(l8:Nat)))=true∧
 (((0:Int)≤(j:Int)∧((j:Int):Int)<(l8:Nat))∧∀cs24:Array Value,cs24=Sy.over cs9 (Int.toNat (j:Int)*1+0) ([Value.int .u32 (wrap .u32 n21)])→
 ∀(_A25:Option Addr) (l25 c25:Nat) (cs26:Array Value),l25=0→cs26=([]:List Value).toArray→l25≤c25→
 ∃A27 l27 c27,Sy.slcD 1 (Value.slice A10 l10 c10) (Value.int .i64 0) (Value.int .i64 (j:Int))=some (Value.slice A27 l27 c27)∧
 ∃cs28,Sy.RowC cs28∧(cs28.size=l27*1∧∀(p:Nat) (u:Value),cs28[p]?=some u→Sy.cellAt k24.cell? A27 p=some u)∧
 (cs28.toList:List Value).length=Int.toNat (l27:Nat)*1∧(0:Int)≤(l27:Nat)∧Sy.sizeOk 4 (l25+Int.toNat (l27:Nat))∧∀(_A29:Option Addr) (l29 c29:Nat) (cs30:Array Value),l29=l25+Int.toNat (l27:Nat)→cs30=cs26++(cs28.toList:List Value).toArray→l29≤c29→
 Cl k24 129 #[Value.slice A14 l14 c14,Value.slice A22 l22 c22] fun k29 r28=>∃A31 l31 c31,some (Value.slice A31 l31 c31)=some r28∧
 ∃cs32,Sy.RowC cs32∧(cs32.size=l31*1∧∀(p:Nat) (u:Value),cs32[p]?=some u→Sy.cellAt k29.cell? A31 p=some u)∧
 (cs32.toList:List Value).length=Int.toNat (l31:Nat)*1∧(0:Int)≤(l31:Nat)∧Sy.sizeOk 4 (l29+Int.toNat (l31:Nat))∧∀(A33:Option Addr) (l33 c33:Nat) (cs34:Array Value),l33=l29+Int.toNat (l31:Nat)→cs34=cs30++(cs32.toList:List Value).toArray→l33≤c33→
 ∀k30,Up k29 k30→Sy.RowAt k30 A33 cs34→
 Cl k30 123 #[Value.slice A33 l33 c33] fun k32 r31=>∃A35 l35 c35,some (Value.slice A35 l35 c35)=some r31∧
 ∀k33,Up k32 k33→∃m,m<m14∧I14 m k33 [Value.tuple #[Value.slice A8 l8 c8,Value.agg cs24],Value.slice A35 l35 c35,Value.int .i64 (wrap .i64 ((j:Int)-1))])))):=by
  have hg1:nw g≤1:=aY (by rw [yx];exact hg);have hVw:=hV.2;have hPw:=hP.2;have hc10:=hr.1.cap;refine aFp (x:=g) oq fun k19 A19 c19 u19 hG=>⟨_,_,_,rfl,dE (K:=68719476736) (hV.1.up u19) hG.1 oq oq oq fun k21 A20 c20 u21 hPr hle=>⟨_,_,_,rfl,?_⟩⟩;refine⟨fun m k vs=>∃A l c g,vs=[.int .u64 ((g:Nat):Int),.slice A l c]∧NatN k A l c (V*g)∧P/V≤g∧g<4294967296∧m=g∧l≤l4+1,⟨g,fun k22 u22=>⟨A20,_,c20,g,rfl,hPr.up u22,hqg,hg,rfl,oq⟩⟩,?_⟩;rintro m22 k22 vs22 u22 ⟨A22,l22,c22,g2,rfl,hp,hqg2,hg2,rfl,hl22⟩;have uk:=(u19.trans u21).trans u22;refine⟨_,_,_,_,rfl,oF hp (hP.up uk) oq oq fun k24 u24=>⟨_,rfl,fun hgt=>?_,fun hle=>?_⟩⟩
  ·have hgt:=aUj hgt;have hg0:0<m22:=by
    refine zx fun e=>?_;rw [e,Nat.mul_zero]at hgt;omega
   have hgq:P/V<m22:=by
    rw [qj hV0,oa];exact hgt
   have hVm:V≤V*m22:=zl _ hg0;have hlen:l4≤l22:=by rw [hVw,hp.2];exact bJ hVm
   refine wY (hp.1.up u24) (hV.1.up (uk.trans u24)) oq hlen hVm fun k26 A24 c24 u26 hD=>⟨_,_,_,rfl,fun k27 u27=>⟨m22-1,oq,A24,nw (V*m22-V),c24,m22-1,?_,?_,oq,oq,rfl,?_⟩⟩
   ·have e:wrap .u64 (((m22:Nat):Int)-1)=((m22-1:Nat):Int):=by rw [wu64 oq oq];omega
    rw [e]
   ·have e:V*m22-V=V*(m22-1):=by rw [Nat.mul_sub,js]
    have:=hD.up u27;rw [←e];exact this
   ·refine qr (bJ (Nat.sub_le _ _)) ?_;rw [←hp.2];exact hl22
  ·have hle:=aNv hle;have hq:m22=P/V:=by
    have:m22≤P/V:=by rw [zy hV0,oa];exact hle
    omega
   have hlen:l22≤l14:=by rw [hp.2,hPw];exact bJ hle
   have len:∀x l:Nat,((row x l).toList:List Value).length=Int.toNat ((l:Nat):Int)*1:=fun x l=>by
    rw [oo,js];exact uD x l
   refine⟨decide_eq_true ⟨oq,oq⟩,⟨oq,oq⟩,fun cs24 hcs24 _ l25 c25 cs26 hl25 hcs26 _=>?_⟩;have ukk:=uk.trans u24;refine⟨A10,j,c10,aKr oq,row r j,iK _ _,(hr.1.up ukk).cells oq,len _ _,oq,⟨by rw [oo];omega,by rw [oo];omega⟩,fun _ l29 c29 cs30 hl29 hcs30 _=>?_⟩;refine wY (hP.1.up ukk) (hp.1.up u24) oq hlen hle fun k29 A31 c31 u29 hD=>?_;have hDl:nw (P-V*m22)≤l14:=by rw [hPw];exact bJ (Nat.sub_le _ _)
   rw [oo]at hl29;refine⟨_,_,_,rfl,row (P-V*m22) (nw (P-V*m22)),iK _ _,hD.1.cells (oy _),len _ _,oq,⟨by rw [oo];omega,by rw [oo];omega⟩,fun A33 l33 c33 cs34 hl33 hcs34 hlc33 k30 u30 hrow=>?_⟩;rw [oo]at hl33;have er:cs34=row (r % B^j+B^j*(P-V*m22)) l33:=by
    rw [hcs34,hcs30,hcs26,vt,vt];have:([]:List Value).toArray++row r j=row r j:=by simp
    rw [this,aDz,hl33,hl29,hl25,qc]
   rw [er]at hrow;have hlt:r % B^j+B^j*(P-V*m22)<B^l33:=by
    have e:l33=j+nw (P-V*m22):=oq
    have h1:=dA (P-V*m22);have h2:=qg r (oc (n:=j) bF);rw [e,jt];have h3:=qn (B^j) (Nat.succ_le_of_lt h1);rw [Nat.mul_succ]at h3;omega
   refine nP (RowN.of_row hrow hlt hlc33) oq fun k32 u32 hN=>⟨_,_,_,rfl,fun k33 u33=>?_⟩;have:=next k33 A33 (nw (r % B^j+B^j*(P-V*m22))) c33 ((((ukk.trans u29).trans u30).trans u32).trans u33) (by rw [←hq];exact hN.up u33)
   rw [hcs24,hq];rw [hq]at this;exact this
end
theorem aKw {x m:Nat}(h:x<B^(m+2)):x/B^m=wq x m+wq x (m+1)*B:=by
 unfold wq wd;have e:x/B^(m+1)=x/B^m/B:=by rw [jj,jp]
 have h2:x/B^m/B<B:=by
  rw [←e,qj (oc bF),oa,←jj];exact h
 rw [e,oi h2];have:=Nat.mod_add_div (x/B^m) B;rw [oa]at this;exact this.symm
section
variable (a V j:Nat)
theorem aDq:a % (V*B^(j+1)) / B^j=a/B^j % (V*B):=by
 have e:V*B^(j+1)=B^j*(V*B):=by rw [jj];ac_rfl
 rw [e,Nat.mod_mul_right_div_self]
theorem aFx:a % (V*B^(j+1)) / B^j/V=wq (a/V) j:=by
 rw [aDq,Nat.mod_mul_right_div_self];unfold wq wd;rw [jp,jp,oa]
theorem aOm:a % (V*B^(j+1)) % B^j+B^j*(a % (V*B^(j+1)) / B^j-V*(a % (V*B^(j+1)) / B^j/V))=a % (V*B^j):=by
 have e:∀x,x-V*(x/V)=x % V:=fun x=>by have:=Nat.mod_add_div x V;omega
 have e2:V*B^(j+1)=B^j*(V*B):=by rw [jj];ac_rfl
 rw [e,aDq,Nat.mod_mul_right_mod,e2,Nat.mod_mul_right_mod,oa V];exact Nat.mod_mul.symm
theorem aOn (h:a % (V*B^(j+1)) / B^j<V):a % (V*B^(j+1))=a % (V*B^j)∧wq (a/V) j=0:=by
 have h1:=aOm a V j;have h2:=aFx a V j;rw [qa h]at h1 h2;rw [Nat.mul_zero,Nat.sub_zero,Nat.mod_add_div]at h1;exact⟨h1,h2.symm⟩
end
theorem aHs (Q j n:Nat):Sy.over (dR (fromw Q (j+1)) n) (Int.toNat (j:Int)*1+0) [.int .u32 (wrap .u32 ((wq Q j:Nat):Int))]=dR (fromw Q j) n:=by
 have hq:=bN Q j;rw [gF,mod32,oi (by unfold B;omega),oo,oM];refine cC fun p _=>?_;unfold fromw
 by_cases hpe:p=j*1+0
 ·rw [og hpe,og oq]
  congr 1;omega
 ·rw [oh hpe]
  by_cases hpl:j+1≤p
  ·rw [og hpl,og oq]
  ·rw [oh hpl,oh oq]
theorem aCr {Q j:Nat}(n:Nat) (h:wq Q j=0):dR (fromw Q (j+1)) n=dR (fromw Q j) n:=by
 refine cC fun p _=>?_;unfold fromw
 by_cases hpe:p=j
 ·subst hpe;rw [oh oq,og oq,h]
 ·by_cases hpl:j+1≤p
  ·rw [og hpl,og oq]
  ·rw [oh hpl,oh oq]
section
variable {k k':World}{A A':Option Addr}{n c m n' c' m' a b:Nat}{R:World→Value→Prop}
abbrev QInv (a' V l6:Nat):Nat→World→List Value→Prop:=fun m k vs=>∃A8 c8 A10 l10 c10,vs=[.tuple #[.slice A8 l6 c8,.agg (dR (fromw (a' / V) m) l6)],.slice A10 l10 c10,.int .i64 (((m:Nat):Int)-1)]∧l6≤c8∧NatN k A10 l10 c10 (a' % (V*B^m))∧m≤l6
theorem nD (h:NatN k A n c a) (h':NatN k A' n' c' b) (hn:n≤34359738368) (hn':n'≤34359738368) (hb:0<b)
 (C:∀k' A c A' c',Up k k'→NatN k' A (nw (a/b)) c (a/b)→NatN k' A' (nw (a % b)) c' (a % b)→R k' (.tuple #[.slice A (nw (a/b)) c,.slice A' (nw (a % b)) c'])) :
 Cl k 122 #[.slice A n c,.slice A' n' c'] R:=by
 intro k0 u0;replace h:=h.up u0;replace h':=h'.up u0;replace C:=fun k' A c A' c' u=>C k' A c A' c' (u0.trans u);have hBv:B=4294967296:=rfl;refine aUe (oF h h' oq oq fun k1 u1=>⟨_,rfl,fun hlt=>?_,fun hge=>⟨rfl,fun h1=>?_,fun h1=>⟨rfl,?_⟩⟩⟩)
 ·intro k2 u2;have hlt:=aFs hlt;have e1:a/b=0:=qa hlt;have e2:a % b=a:=oi hlt;have:=C k2 none 0 A c (u1.trans u2);rw [e1,e2,nw_zero,←h.2]at this;exact this ⟨⟨oz,oy _,fun p hp=>oq⟩,nw_zero.symm⟩ (h.up (u1.trans u2))
 ·have h1:n'=1:=by have:=eq_of_beq h1;omega
  subst h1;have hb32:b<4294967296:=by have:=h'.1.lt;rw [yx]at this;exact this
  have hw:wq b 0=b:=oX hb32;refine⟨h'.1.addr (p:=0) oq,⟨oq,oq⟩,_,(h'.1.up u1).read (p:=0) oq rfl,?_⟩;rw [hw];have hm:a % b<4294967296:=yh (qg _ hb) hb32;refine aLp (h.1.up u1) oq hb hb32 fun k4 A4 c4 u4 hq=>⟨_,_,_,_,rfl,?_⟩;rw [u64n (x:=a % b) oq];exact aFp (x:=a % b) oq fun k6 A6 c6 u6 hr=>⟨_,_,_,rfl,fun k7 u7=>C k7 _ _ _ _ (((u1.trans u4).trans u6).trans u7) (hq.up (u6.trans u7)) (hr.up u7)⟩
 ·have hab:=tO hge;have hn0:n'≠0:=fun e=>by have:=h'.zero.1 e;omega
  have hbl:bl b=32*(n'-1)+bl (wq b (n'-1)):=zI (by rw [xy oq];exact h'.len);have hlo:bl (wq b (n'-1))≠0:=fun e=>by
   have h2:=mE (wq b (n'-1));rw [e]at h2;exact h'.len.top bF oq (by simpa [wq] using h2)
  have hhi:bl (wq b (n'-1))≤32:=kF.2 (bN b (n'-1));refine aXt (h'.up u1) oq fun k9 u9=>⟨_,rfl,?_⟩;obtain⟨s,hs⟩:∃s,s=32*n'-bl b:=⟨_,rfl⟩;have hs32:s<32:=oq
  have es:wrap .i64 ((wrap .i64 (32*(n':Nat)))-((bl b:Nat):Int))=((s:Nat):Int):=by
   rw [w64 (x:=32*((n':Nat):Int)) oq oq,w64 oq oq];omega
  rw [es];refine aBd ((h'.up u1).up u9) oq oq fun k11 A4 c4 u11 hV=>⟨_,_,_,rfl,?_⟩;refine aBd (((h.up u1).up u9).up u11) oq oq fun k13 A5 c5 u13 hA=>⟨_,_,_,rfl,rfl,rfl,?_⟩;replace hV:=hV.up u13;replace C:=fun k' A c A' c' u=>C k' A c A' c' ((((u1.trans u9).trans u11).trans u13).trans u);have hsp:0<2^s:=oc oz;have hs2:2^s≤B:=by rw [wO];exact qb oz oq
  have hquo:a*2^s/(b*2^s)=a/b:=Nat.mul_div_mul_right _ _ hsp;have hrem:a*2^s % (b*2^s) / 2^s=a % b:=by rw [Nat.mul_mod_mul_right,Nat.mul_div_cancel _ hsp]
  have hV0:0<b*2^s:=zg hb hsp;have hVA:b*2^s≤a*2^s:=ol _ hab;have hA1:a*2^s<B^(n+1):=by
   rw [jj];exact qy (jr h.1.lt hsp) (qn _ hs2)
  rw [←hquo,←hrem]at C;generalize b*2^s=V at *
  generalize a*2^s=a' at *
  have hl5:nw a'≤n+1:=aY hA1;have hl45:nw V≤nw a':=bJ hVA;have hl4:nw V≠0:=fun e=>by have:=bS.1 e;omega
  have hVlen:=cJ V;have hVlow:=hVlen.le oq;have hVtop:=hVlen.top bF oq;generalize hlV:nw V=l4 at *
  obtain⟨L,hL⟩:∃L,L=n+2-l4:=⟨_,rfl⟩;have el:wrap .i64 ((wrap .i64 ((n:Nat)-(l4:Nat)))+2)=((L:Nat):Int):=by
   rw [w64 (x:=((n:Nat):Int)-((l4:Nat):Int)) oq oq,w64 oq oq];omega
  have en:wrap .i64 (((l4:Nat):Int)-1)=((l4-1:Nat):Int):=by rw [w64 oq oq];omega
  rw [el,en,oo,js];have hstart:a' % (V*B^L)=a':=by
   refine oi (qy hA1 ?_);have e:n+1=(l4-1)+L:=oq
   rw [e,jt];exact ol _ hVlow
  refine⟨oq,⟨oq,oq⟩,fun A6 l6 c6 cs7 hl6 hcs7 hlc6=>⟨rfl,?_⟩⟩;subst hl6;refine⟨QInv a' V l6,⟨l6,fun k14 u14=>⟨A6,c6,A5,nw a',c5,?_,hlc6,by rw [hstart];exact hA.up u14,oy _⟩⟩,?_⟩
  ·have e:cs7=dR (fromw (a' / V) l6) l6:=by
    rw [hcs7];refine (lR l6).trans (cC fun i hi=>?_);unfold fromw;rw [oh oq]
   rw [e,w64 oq oq]
  rintro m14 k14 vs14 u14 ⟨A8,c8,A10,l10,c10,rfl,hc8,hr,hm⟩;replace hV:=hV.up u14;replace C:=fun k' A c A' c' u=>C k' A c A' c' (u14.trans u);have hl10:l10≤n+1:=by rw [hr.2];exact qr (bJ (Nat.mod_le _ _)) hl5
  have hc10:=hr.1.cap;refine⟨A8,l6,c8,_,pN _ _,A10,l10,c10,_,rfl,fun hp=>?_,fun hp=>?_⟩
  ·have hp:0<m14:=by have:=ow hp;omega
   obtain⟨j,rfl⟩:∃j,m14=j+1:=⟨m14-1,oq⟩;have ej:((j+1:Nat):Int)-1=(j:Int):=oq
   have ej1:wrap .i64 ((j:Int)-1)=(j:Int)-1:=w64 oq oq;rw [ej];intro A12 l12 c12 cs13 hl12 hcs13 hlc12;have skip:∀k17,Up k14 k17→a' % (V*B^(j+1)) / B^j<V→∃m,m<j+1∧∃A8' c8' A10' l10' c10',[Value.tuple #[Value.slice A8 l6 c8,Value.agg (dR (fromw (a' / V) (j+1)) l6)],Value.slice A10 l10 c10,Value.int .i64 (wrap .i64 ((j:Int)-1))]=[.tuple #[.slice A8' l6 c8',.agg (dR (fromw (a' / V) m) l6)],.slice A10' l10' c10',.int .i64 (((m:Nat):Int)-1)]∧l6≤c8'∧NatN k17 A10' l10' c10' (a' % (V*B^m))∧m≤l6:=by
    intro k17 u17 hlt;have hsk:=aOn a' V j hlt;refine⟨j,oq,A8,c8,A10,l10,c10,?_,hc8,?_,oq⟩
    ·rw [aCr _ hsk.2,ej1]
    ·rw [←hsk.1];exact hr.up u17
   refine⟨rfl,fun hlt=>?_,fun hge=>?_⟩
   ·have hlt:j<l10:=by have:=ow hlt;omega
    have hP:=hr.from hlt;have hdig:=aFx a' V j;have hleft:=aOm a' V j;have hskip:=aOn a' V j;have hPlt:a' % (V*B^(j+1)) / B^j<V*B:=by rw [aDq];exact qg _ (zg hV0 bF)
    refine⟨_,_,_,aQr hlt hc10,oF hP hV oq oq fun k16 u16=>⟨_,rfl,fun hneg=>?_,fun hnn=>?_⟩⟩
    ·intro k17 u17;exact skip k17 (u16.trans u17) (aFs hneg)
    ·have hVP:=tO hnn;replace hP:=hP.up u16;replace hV:=hV.up u16;replace hr:=hr.up u16;generalize a' % (V*B^(j+1))=ρ at *
     generalize ρ/B^j=P at *
     have hl14:l4≤l10-j:=by rw [hP.2,←hlV];exact bJ hVP
     have hx:=bN P (l4-1);have hy:=bN P l4;have hv:=bN V (l4-1);have hv1:0<wq V (l4-1):=zx hVtop;have hVpart:wq V (l4-1)*B^(l4-1)≤V:=by rw [oa];exact aGq V (l4-1)
     have hP2:P<B^(l4-1+2):=by
      have e:l4-1+2=l4+1:=oq
      rw [e,jj];exact yh hPlt (jr hVlen.lt bF)
     have htw:=aKw hP2;have e41:l4-1+1=l4:=oq
     rw [e41]at htw;have hqB:P/V≤4294967295:=by
      have:P/V<B:=by rw [qj hV0,oa];exact hPlt
      omega
     have hqu:P/V≤P/B^(l4-1) / wq V (l4-1):=pG hVpart hv1 ((qj (oc bF)).1 (zp _)) (vj _ _);have next:∀k' A l c,Up k16 k'→NatN k' A l c (ρ % B^j+B^j*(P-V*(P/V)))→∃m,m<j+1∧∃A8' c8' A10' l10' c10',[Value.tuple #[Value.slice A8 l6 c8,Value.agg (Sy.over (dR (fromw (a' / V) (j+1)) l6) (Int.toNat (j:Int)*1+0) ([Value.int .u32 (wrap .u32 ((P/V:Nat):Int))]))],Value.slice A l c,Value.int .i64 (wrap .i64 ((j:Int)-1))]=[.tuple #[.slice A8' l6 c8',.agg (dR (fromw (a' / V) m) l6)],.slice A10' l10' c10',.int .i64 (((m:Nat):Int)-1)]∧l6≤c8'∧NatN k' A10' l10' c10' (a' % (V*B^m))∧m≤l6:=by
      intro k' A l c u hN;refine⟨j,oq,A8,c8,A,l,c,?_,hc8,?_,oq⟩
      ·rw [hdig,aHs,ej1]
      ·rw [←hleft];exact hN
     have eu:∀ {z:Nat},z<4294967296→wrap .u64 ((z:Nat):Int)=((z:Nat):Int):=fun hz=>u64n oq;have hnz:(decide (((wrap .u64 ((wq V (l4-1):Nat):Int)):Int)≠0))=true:=by rw [eu hv];exact decide_eq_true oq
     refine⟨hP.1.addr (p:=0) oq,⟨oq,oq⟩,_,hP.1.read (p:=l4-1) oq (by rw [oo];omega),rfl,fun hgt=>?_,fun hle=>?_⟩
     ·have hgt:l4<l10-j:=by have:=ow hgt;omega
      refine⟨hP.1.addr (p:=0) oq,⟨oq,oq⟩,_,hP.1.read (p:=l4) hgt (by rw [oo];omega),hV.1.addr (p:=0) oq,⟨oq,oq⟩,_,hV.1.read (p:=l4-1) oq (by rw [oo];omega),hnz,?_⟩;have hdl:(wq P (l4-1)+wq P l4*4294967296) / wq V (l4-1)≤wq P (l4-1)+wq P l4*4294967296:=zt _ _;rw [eu hx,eu hy,shl32 hy,or32' hy hx,u64n (x:=wq P (l4-1)+wq P l4*4294967296) oq,eu hv,←Int.ofNat_tdiv,u64n (x:=(wq P (l4-1)+wq P l4*4294967296) / wq V (l4-1)) oq];rw [htw,hBv]at hqu;refine⟨fun hbig=>?_,fun hsm=>?_⟩
      ·exact qtail (I14:=QInv a' V l6) (g:=4294967295) hV hP hr hV0 oq oq oq hlt oq hqB oq next
      ·have hsm:=ov hsm;exact qtail (I14:=QInv a' V l6) hV hP hr hV0 oq oq oq hlt oq hqu oq next
     ·have hle:l10-j≤l4:=by have:=ov hle;omega
      have hz:wq P l4=0:=gZ hP.1 hle;refine⟨hV.1.addr (p:=0) oq,⟨oq,oq⟩,_,hV.1.read (p:=l4-1) oq (by rw [oo];omega),hnz,?_⟩;have hdl:wq P (l4-1) / wq V (l4-1)≤wq P (l4-1):=zt _ _;rw [eu hx,eu hv,←Int.ofNat_tdiv,u64n (x:=wq P (l4-1) / wq V (l4-1)) oq];rw [htw,hz,xf,jh]at hqu;refine⟨fun hbig=>?_,fun hsm=>?_⟩
      ·exact qtail (I14:=QInv a' V l6) (g:=4294967295) hV hP hr hV0 oq oq oq hlt oq hqB oq next
      ·exact qtail (I14:=QInv a' V l6) hV hP hr hV0 oq oq oq hlt oq hqu oq next
   ·have hge:l10≤j:=by have:=ov hge;omega
    intro k82 u82 _;have hz:a' % (V*B^(j+1)) / B^j=0:=qa (qy hr.1.lt (qb bF hge));have h0:NatN k82 A12 l12 c12 0:=by
     subst hl12;exact⟨⟨oz,oq,fun p hp=>oq⟩,nw_zero.symm⟩
    refine oF h0 (hV.up u82) oq oq fun k84 u84=>⟨_,rfl,fun hneg=>?_,fun hnn=>?_⟩
    ·intro k85 u85;exact skip k85 ((u82.trans u84).trans u85) (by rw [hz];exact hV0)
    ·exact absurd (tO hnn) oq
  ·have hp:m14=0:=by have:=ov hp;omega
   subst hp;intro k150 u150 hrow;have er:dR (fromw (a' / V) 0) l6=row (a' / V) l6:=by
    rw [fP];exact cC fun p _=>by unfold fromw;rw [og (jx _)]
   rw [er]at hrow;have hlt:a' / V<B^l6:=by
    rw [qj hV0,oa];have:=qg a' (zg hV0 (oc (n:=l6) bF));rw [hstart]at this;exact this
   refine nP (RowN.of_row hrow hlt hc8) oq fun k152 u152 hQ=>⟨_,_,_,rfl,?_⟩;rw [ke,js]at hr;refine aIb ((hr.up u150).up u152) oq oq fun k154 A13 c13 u154 hL=>⟨_,_,_,rfl,fun k155 u155=>?_⟩;exact C k155 _ _ _ _ (((u150.trans u152).trans u154).trans u155) (hQ.up (u154.trans u155)) (hL.up u155)
end
section
variable {k k':World}{A A':Option Addr}{n c m n' c' m' a b:Nat}{R:World→Value→Prop}
theorem aHl (h:NatN k A n c a) (h':NatN k A' n' c' b) (hn:n≤34359738368) (hn':n'≤34359738368)
 (C:∀k' A c,Up k k'→NatN k' A (nw (Nat.gcd a b)) c (Nat.gcd a b)→R k' (.slice A (nw (Nat.gcd a b)) c)) :
 Cl k 121 #[.slice A n c,.slice A' n' c'] R:=by
 intro k0 u0;replace h:=h.up u0;replace h':=h'.up u0;replace C:=fun k' A c u=>C k' A c (u0.trans u);refine aAp ⟨fun m k vs=>∃A n c A' n' c' x,vs=[.slice A n c,.slice A' n' c']∧NatN k A n c x∧NatN k A' n' c' m∧n≤34359738368∧n'≤34359738368∧Nat.gcd x m=Nat.gcd a b,⟨b,fun k1 u1=>⟨A,n,c,A',n',c',a,rfl,h.up u1,h'.up u1,hn,hn',rfl⟩⟩,?_⟩;rintro y k1 vs u1 ⟨A,n,c,A',n',c',x,rfl,hx,hy,hn,hn',hg⟩;refine⟨_,_,_,_,_,_,rfl,rfl,fun hp=>?_,fun hp=>?_⟩
 ·have hp:0<n':=by have:=ow hp;omega
  have hy0:0<y:=zx fun e=>by have:=hy.zero.2 e;omega
  refine nD hx hy hn hn' hy0 fun k2 A4 c4 A5 c5 u2 _ hr=>⟨_,_,_,_,_,_,rfl,fun k3 u3=>⟨x % y,qg _ hy0,A',n',c',A5,nw (x % y),c5,y,rfl,(hy.up u2).up u3,hr.up u3,hn',?_,?_⟩⟩
  ·have:=bJ (yp (qg x hy0));rw [←hy.2]at this;omega
  ·rw [←hg,xp x y,xp y (x % y)];exact (Nat.gcd_rec y x).symm
 ·have hp:n'=0:=by have:=ov hp;omega
  have hy0:=hy.zero.1 hp;subst hy0;intro k2 u2;rw [wg]at hg;have:=C k2 A c (u1.trans u2);rw [←hg,←hx.2]at this;exact this (hx.up u2)
end
def todo (q t r:Nat):List UInt8:=if q=0 then dig r else dig q++pad t r
section
variable {k k':World}{A A':Option Addr}{n c m n' c' m' a b:Nat}{R:World→Value→Prop}
end
end Go.Proofs.YthiaclljcnincaaGreat.W32

namespace Go.Proofs.YthiaclljcnincaaGreat
open IntKind (wrap)
open Go.RowKit
open Value (agg slice int bool tuple)
open Sy (Up Sees CallsG Seg execFn_use)
set_option maxRecDepth 100000
variable {k:World}{R:World→Value→Prop}{b0:Bool}{A1 A2:Option Addr}{c1 c2 l1 l2:Nat}{n0 n1:Int}
theorem aOk 
 (h:Tt∧(Br (((l1:Nat):Int) == 0) (∀p3 k0,Up k k0→Sy.Blk k0 p3 148 #[int .u32 1]→
 Rt R k0 (agg #[bool false,slice none 0 0,slice (some ⟨p3,0,none⟩) 1 1])) (Cl k 121 #[slice A1 l1 c1,slice A2 l2 c2] fun k3 r2=>∃A3 l3 c3,some (slice A3 l3 c3)=some r2∧
 Cl k3 122 #[slice A1 l1 c1,slice A3 l3 c3] fun k5 r4=>∃A4 l4 c4,∃A5 l5 c5,some (tuple #[slice A4 l4 c4,slice A5 l5 c5])=some r4∧
 Cl k5 122 #[slice A2 l2 c2,slice A3 l3 c3] fun k7 r6=>∃A6 l6 c6,∃A7 l7 c7,some (tuple #[slice A6 l6 c6,slice A7 l7 c7])=some r6∧
 Rt R k7 (agg #[bool b0,slice A4 l4 c4,slice A6 l6 c6])))) :
  CallsG Tryz.prog 97 #[bool b0,slice A1 l1 c1,slice A2 l2 c2] k R:=
  qY { opq:=[] } h
theorem aJi 
 (h:Br (decide ((n0:Int)<0)) (Cl k 98 #[int .u64 (wrap .u64 (0-(wrap .u64 n0)))] fun k1 r0=>∃A1 l1 c1,some (slice A1 l1 c1)=some r0∧
 ∀p2 k2,Up k1 k2→Sy.Blk k2 p2 148 #[int .u32 1]→
 Cl k2 97 #[bool true,slice A1 l1 c1,slice (some ⟨p2,0,none⟩) 1 1] fun k4 r3=>∃b3,∃A4 l4 c4,∃A5 l5 c5,some (agg #[bool b3,slice A4 l4 c4,slice A5 l5 c5])=some r3∧
 Rt R k4 (agg #[bool b3,slice A4 l4 c4,slice A5 l5 c5])) (Cl k 98 #[int .u64 (wrap .u64 n0)] fun k7 r6=>∃A1 l1 c1,some (slice A1 l1 c1)=some r6∧
 ∀p2 k8,Up k7 k8→Sy.Blk k8 p2 148 #[int .u32 1]→
 Cl k8 97 #[bool false,slice A1 l1 c1,slice (some ⟨p2,0,none⟩) 1 1] fun k10 r9=>∃b3,∃A4 l4 c4,∃A5 l5 c5,some (agg #[bool b3,slice A4 l4 c4,slice A5 l5 c5])=some r9∧
 Rt R k10 (agg #[bool b3,slice A4 l4 c4,slice A5 l5 c5]))) :
  CallsG Tryz.prog 64 #[int .i64 n0] k R:=
  qY { opq:=[] } h
theorem aJh 
 (h:Tt∧(Br (((l2:Nat):Int) == 0) (∀p3 k0,Up k k0→Sy.Blk k0 p3 148 #[int .u32 1]→
 Rt R k0 (slice (some ⟨p3,0,none⟩) 1 1)) (Rt R k (slice A2 l2 c2)))) :
  CallsG Tryz.prog 125 #[agg #[bool b0,slice A1 l1 c1,slice A2 l2 c2]] k R:=
  qY { opq:=[] } h
theorem aUp 
 (h:Br ((n1:Int) == 0) (Cl k 64 #[int .i64 0] fun k1 r0=>∃b2,∃A3 l3 c3,∃A4 l4 c4,some (agg #[bool b2,slice A3 l3 c3,slice A4 l4 c4])=some r0∧
 Rt R k1 (tuple #[agg #[bool b2,slice A3 l3 c3,slice A4 l4 c4],int .i64 3])) (Cl k 64 #[int .i64 n0] fun k4 r3=>∃b2,∃A3 l3 c3,∃A4 l4 c4,some (agg #[bool b2,slice A3 l3 c3,slice A4 l4 c4])=some r3∧
 Cl k4 64 #[int .i64 n1] fun k6 r5=>∃b5,∃A6 l6 c6,∃A7 l7 c7,some (agg #[bool b5,slice A6 l6 c6,slice A7 l7 c7])=some r5∧
 Cl k6 97 #[bool (!(b2 == b5)),slice A3 l3 c3,slice A6 l6 c6] fun k8 r7=>∃b8,∃A9 l9 c9,∃A10 l10 c10,some (agg #[bool b8,slice A9 l9 c9,slice A10 l10 c10])=some r7∧
 Rt R k8 (tuple #[agg #[bool b8,slice A9 l9 c9,slice A10 l10 c10],int .i64 0]))) :
  CallsG Tryz.prog 124 #[int .i64 n0,int .i64 n1] k R:=
  qY { opq:=[] } h
theorem aOl 
 (h:Tt∧(Rt R k (bool (((l1:Nat):Int) == 0)))) :
 CallsG Tryz.prog 70 #[agg #[bool b0,slice A1 l1 c1,slice A2 l2 c2]] k R:=
 qY { opq:=[] } h
end Go.Proofs.YthiaclljcnincaaGreat

namespace Go.Proofs.YthiaclljcnincaaGreat.W32
open IntKind (wrap)
open Go.RowKit Num
open Sy (Up Sees CallsG cellAt ReadAt ReadIn RowAt RowC sizeOk)
structure QN (k:World) (b:Bool) (A:Option Addr) (l c:Nat) (A':Option Addr) (l' c':Nat) (q:Rat):Prop where
 n:NatN k A l c q.num.natAbs
 d:NatN k A' l' c' q.den
 s:b=decide (q.num<0)
def qv (b:Bool) (A:Option Addr) (l c:Nat) (A':Option Addr) (l' c':Nat):Value:=.agg #[.bool b,.slice A l c,.slice A' l' c']
theorem nw_one:nw 1=1:=kI (Len.one oz oz)
theorem aYl {m:Nat}(h:0<m):0<nw m:=zx fun e=>by have:=bS.1 e;omega
section
variable {k k':World}{A A':Option Addr}{n c m n' c' m' a b l l':Nat}{R:World→Value→Prop}{x q:Rat}{g:Bool}
theorem QN.up (h:QN k g A l c A' l' c' q) (hu:Up k k'):QN k' g A l c A' l' c' q:=⟨h.n.up hu,h.d.up hu,h.s⟩
theorem NatN.none (k:World):NatN k none 0 0 0:=⟨⟨oz,oy _,fun p hp=>oq⟩,nw_zero.symm⟩
theorem aNr {p:Nat}(h:Sy.Blk k p 148 #[Value.int .u32 1]):NatN k (some ⟨p,0,none⟩) 1 1 1:=
 ⟨⟨oz,oy _,fun q hq=>by
   have:q=0:=oq
   subst this;unfold cellAt;simp only [qc,h.cell]
   rfl⟩,nw_one.symm⟩
def RQ (R:World→Value→Prop) (k:World) (q:Rat):Prop:=∀k' b A l c A' l' c',Up k k'→QN k' b A l c A' l' c' q→R k' (.agg #[.bool b,.slice A l c,.slice A' l' c'])
theorem aCq (h:NatN k A n c a) (h':NatN k A' n' c' b) (hb:0<b) (hn:n≤34359738368) (hn':n'≤34359738368) (C:RQ R k (mkRat (sgn g a) b)) :
 Cl k 97 #[.bool g,.slice A n c,.slice A' n' c'] R:=by
 intro k0 u0;replace h:=h.up u0;replace h':=h'.up u0;replace C:RQ R k0 (mkRat (sgn g a) b):=fun k' b A l c A' l' c' u=>C k' b A l c A' l' c' (u0.trans u);have hab:=jD (sgn g a) hb;have hdn:=kV (sgn g a) hb;have hng:=vT (sgn g a) hb;rw [sD]at hab hdn;rw [aGg]at hng;refine aOk ⟨rfl,fun hz=>?_,fun hz=>?_⟩
 ·intro p k1 u1 hblk k2 u2;have hz:n=0:=by have:=eq_of_beq hz;omega
  have ha:=h.zero.1 hz;subst ha;have e1:(mkRat (sgn g 0) b).num.natAbs=0:=by rw [hab,Nat.zero_div]
  have e2:(mkRat (sgn g 0) b).den=1:=by rw [hdn,Nat.gcd_zero_left,Nat.div_self hb]
  refine C k2 _ _ _ _ _ _ _ (u1.trans u2) ⟨?_,?_,?_⟩
  ·rw [e1];exact NatN.none k2
  ·rw [e2];exact (aNr hblk).up u2
  ·rw [hng];simp
 ·have hz:n≠0:=fun e=>by rw [e]at hz;exact absurd hz oz
  have ha:0<a:=zx fun e=>hz (h.zero.2 e);have hg0:0<Nat.gcd a b:=xm _ ha;have hgl:nw (Nat.gcd a b)≤34359738368:=by
   have:=bJ (Nat.le_of_dvd ha (xe a b));rw [←h.2]at this;omega
  refine aHl h h' hn hn' fun k3 A3 c3 u3 hG=>⟨_,_,_,rfl,?_⟩;refine nD (h.up u3) hG hn hgl hg0 fun k5 A4 c4 A5 c5 u5 hQ _=>⟨_,_,_,_,_,_,rfl,?_⟩;refine nD ((h'.up u3).up u5) (hG.up u5) hn' hgl hg0 fun k7 A6 c6 A7 c7 u7 hD _=>⟨_,_,_,_,_,_,rfl,fun k8 u8=>?_⟩;refine C k8 _ _ _ _ _ _ _ (((u3.trans u5).trans u7).trans u8) ⟨?_,?_,?_⟩
  ·rw [hab];exact hQ.up (u7.trans u8)
  ·rw [hdn];exact hD.up u8
  ·rw [hng,decide_eq_true ha,Bool.and_true]
theorem whole_s {z:Int}(h0:-9223372036854775808≤z) (h1:z≤9223372036854775807) (C:RQ R k (z:Rat)) :
 Cl k 64 #[.int .i64 z] R:=by
 intro k0 u0;replace C:RQ R k0 (z:Rat):=fun k' b A l c A' l' c' u=>C k' b A l c A' l' c' (u0.trans u);have small:nw z.natAbs≤2:=aY (by unfold B;omega);have fin:∀ {k1 k2 k3:World}{g:Bool}{A:Option Addr}{l c p:Nat},sgn g z.natAbs=z→Up k0 k1→NatN k1 A (nw z.natAbs) c z.natAbs→Up k1 k2→Sy.Blk k2 p 148 #[Value.int .u32 1]→Up k2 k3→
  CallsG Tryz.prog 97 #[Value.bool g,Value.slice A (nw z.natAbs) c,Value.slice (some ⟨p,0,none⟩) 1 1] k3 fun k4 r3=>∃b3,∃A4 l4 c4,∃A5 l5 c5,some (Value.agg #[Value.bool b3,Value.slice A4 l4 c4,Value.slice A5 l5 c5])=some r3∧∀k5,Up k4 k5→R k5 (Value.agg #[Value.bool b3,Value.slice A4 l4 c4,Value.slice A5 l5 c5]):=by
  intro k1 k2 k3 g A l c p hz u1 hN u2 hblk u3;refine aCq (k:=k2) (hN.up u2) (aNr hblk) oz oq oz (fun k4 b A4 l4 c4 A5 l5 c5 u4 hQ=>⟨_,_,_,_,_,_,_,rfl,fun k5 u5=>?_⟩) k3 u3;refine C k5 _ _ _ _ _ _ _ (((u1.trans u2).trans u4).trans u5) ?_;rw [hz,Rat.mkRat_one]at hQ;exact hQ.up u5
 refine aJi ⟨fun hn=>?_,fun hn=>?_⟩
 ·have hn:=ow hn;have e:wrap .u64 (0-wrap .u64 z)=((z.natAbs:Nat):Int):=by rw [IntKind.wrap_u64,IntKind.wrap_u64];omega
  rw [e];exact aFp oq fun k1 A1 c1 u1 hN=>⟨_,_,_,rfl,fun p k2 u2 hb k3 u3=>fin (l:=0) (by unfold sgn;simp;omega) u1 hN u2 hb u3⟩
 ·have hn:=ov hn;have e:wrap .u64 z=((z.natAbs:Nat):Int):=by rw [IntKind.wrap_u64];omega
  rw [e];exact aFp oq fun k1 A1 c1 u1 hN=>⟨_,_,_,rfl,fun p k2 u2 hb k3 u3=>fin (l:=0) (by unfold sgn;simp;omega) u1 hN u2 hb u3⟩
theorem bR (h:QN k g A l c A' l' c' q) (C:∀k' A c,Up k k'→NatN k' A (nw q.den) c q.den→R k' (.slice A (nw q.den) c)) :
 Cl k 125 #[.agg #[.bool g,.slice A l c,.slice A' l' c']] R:=by
 intro k0 u0;replace h:=h.up u0;have hd:=aYl q.den_pos;have hl:=h.d.2;refine aJh ⟨rfl,fun hz=>?_,fun hz=>fun k1 u1=>?_⟩
 ·have:=eq_of_beq hz;omega
 ·have:=C k1 A' c' (u0.trans u1);rw [←hl]at this;exact this (h.d.up u1)
theorem zero_s (h:QN k g A l c A' l' c' q) (C:∀k',Up k k'→R k' (.bool (decide (q=0)))) :
 Cl k 70 #[.agg #[.bool g,.slice A l c,.slice A' l' c']] R:=by
 intro k0 u0;refine aOl ⟨rfl,fun k1 u1=>?_⟩;have e:(((l:Nat):Int) == 0)=decide (q=0):=by
  rw [vw,beq_iff_eq,decide_eq_true_iff];have h1:=h.n.zero;rw [←Rat.num_eq_zero];omega
 rw [e];exact C k1 (u0.trans u1)
end
section
variable {k k':World}{A A':Option Addr}{n c m n' c' m' a b l l':Nat}{R:World→Value→Prop}{x q:Rat}{g:Bool}
theorem pJ {z:Int}(h:z.natAbs≤9223372036854775808):nw z.natAbs≤2:=aY (by unfold B;omega)
theorem aYu {y z:Int}(y0:-9223372036854775808≤y) (y1:y<9223372036854775808) (z0:-9223372036854775808≤z) (z1:z<9223372036854775808)
 (C:∀k' b A l c A' l' c',Up k k'→QN k' b A l c A' l' c' ((y:Rat) / (z:Rat))→l≤2→l'≤2→R k' (.tuple #[.agg #[.bool b,.slice A l c,.slice A' l' c'],.int .i64 (if z=0 then 3 else 0)])) :
 Cl k 124 #[.int .i64 y,.int .i64 z] R:=by
 intro k0 u0;replace C:=fun k' b A l c A' l' c' u=>C k' b A l c A' l' c' (u0.trans u);refine aUp ⟨fun hz=>?_,fun hz=>?_⟩
 ·have hz:=eq_of_beq hz;subst hz;refine whole_s (z:=0) oz oz fun k1 b A l c A' l' c' u1 hQ=>⟨_,_,_,_,_,_,_,rfl,fun k2 u2=>?_⟩;have e:(y:Rat) / ((0:Int):Rat)=((0:Int):Rat):=by rw [yu,xd];simp
  have e1:l≤2:=by rw [hQ.n.2];decide +kernel
  have e2:l'≤2:=by rw [hQ.d.2];decide +kernel
  exact C k2 b A l c A' l' c' (u1.trans u2) (by rw [e];exact hQ.up u2) e1 e2
 ·have hz:z≠0:=fun e=>by rw [e]at hz;exact absurd hz oz
  refine whole_s y0 oq fun k4 b2 A3 l3 c3 A4 l4 c4 u4 hY=>⟨_,_,_,_,_,_,_,rfl,?_⟩;refine whole_s z0 oq fun k6 b5 A6 l6 c6 A7 l7 c7 u6 hZ=>⟨_,_,_,_,_,_,_,rfl,?_⟩;have ey:((y:Rat)).num=y:=Rat.num_intCast _;have ez:((z:Rat)).num=z:=Rat.num_intCast _;have hYn:=hY.n;have hZn:=hZ.n;have hYs:=hY.s;have hZs:=hZ.s;rw [ey]at hYn hYs;rw [ez]at hZn hZs;have l3:nw y.natAbs≤2:=pJ oq;have l6:nw z.natAbs≤2:=pJ oq;have hq:=qN y z hz;have hab:=jD (sgn (decide (y<0) != decide (z<0)) y.natAbs) (m:=z.natAbs) oq;have hdn:=kV (sgn (decide (y<0) != decide (z<0)) y.natAbs) (m:=z.natAbs) oq;rw [sD,hq]at hab hdn;have hyl:=hYn.2;have hzl:=hZn.2;refine aCq (hYn.up u6) hZn oq oq oq fun k8 b A l c A' l' c' u8 hQ=>⟨_,_,_,_,_,_,_,rfl,fun k9 u9=>?_⟩;have hg:(!(b2 == b5))=(decide (y<0) != decide (z<0)):=by rw [hYs,hZs];rfl
  rw [hg,hq]at hQ;have hl1:l≤2:=by
   rw [hQ.n.2,hab];exact qr (bJ (zt _ _)) l3
  have hl2:l'≤2:=by
   rw [hQ.d.2,hdn];exact qr (bJ (zt _ _)) l6
  have:=C k9 b A l c A' l' c' (((u4.trans u6).trans u8).trans u9) (hQ.up u9) hl1 hl2;rw [oh hz]at this;exact this
end
end Go.Proofs.YthiaclljcnincaaGreat.W32

namespace Go.Proofs.YthiaclljcnincaaGreat
open Go.RowKit
open Value (agg slice int bool tuple)
open Sy (Up Sees CallsG Seg execFn_use)
set_option maxRecDepth 100000
variable {k:World}{R:World→Value→Prop}{b0 b3:Bool}{A1 A2 A4 A5:Option Addr}{c1 c2 c4 c5 l1 l2 l4 l5:Nat}
theorem aUo 
 (h:Cl k 125 #[agg #[bool b0,slice A1 l1 c1,slice A2 l2 c2]] fun k1 r0=>∃A3 l3 c3,some (slice A3 l3 c3)=some r0∧
 Cl k1 97 #[bool (!b0),slice A1 l1 c1,slice A3 l3 c3] fun k3 r2=>∃b4,∃A5 l5 c5,∃A6 l6 c6,some (agg #[bool b4,slice A5 l5 c5,slice A6 l6 c6])=some r2∧
 Rt R k3 (agg #[bool b4,slice A5 l5 c5,slice A6 l6 c6])) :
  CallsG Tryz.prog 100 #[agg #[bool b0,slice A1 l1 c1,slice A2 l2 c2]] k R:=
  qY { opq:=[] } h
theorem aUm 
 (h:Cl k 125 #[agg #[bool b0,slice A1 l1 c1,slice A2 l2 c2]] fun k1 r0=>∃A6 l6 c6,some (slice A6 l6 c6)=some r0∧
 Cl k1 125 #[agg #[bool b3,slice A4 l4 c4,slice A5 l5 c5]] fun k3 r2=>∃A7 l7 c7,some (slice A7 l7 c7)=some r2∧
 Cl k3 126 #[slice A1 l1 c1,slice A7 l7 c7] fun k5 r4=>∃A8 l8 c8,some (slice A8 l8 c8)=some r4∧
 Cl k5 126 #[slice A4 l4 c4,slice A6 l6 c6] fun k7 r6=>∃A9 l9 c9,some (slice A9 l9 c9)=some r6∧
 Br (b0 == b3) (Cl k7 127 #[slice A8 l8 c8,slice A9 l9 c9] fun k9 r8=>∃A10 l10 c10,some (slice A10 l10 c10)=some r8∧
 Cl k9 126 #[slice A6 l6 c6,slice A7 l7 c7] fun k11 r10=>∃A11 l11 c11,some (slice A11 l11 c11)=some r10∧
 Cl k11 97 #[bool b0,slice A10 l10 c10,slice A11 l11 c11] fun k13 r12=>∃b12,∃A13 l13 c13,∃A14 l14 c14,some (agg #[bool b12,slice A13 l13 c13,slice A14 l14 c14])=some r12∧
 Rt R k13 (agg #[bool b12,slice A13 l13 c13,slice A14 l14 c14])) (Cl k7 128 #[slice A8 l8 c8,slice A9 l9 c9] fun k16 r15=>Gi r15 fun n10=>
 Br (decide ((n10:Int) ≥ 0)) (Cl k16 129 #[slice A8 l8 c8,slice A9 l9 c9] fun k18 r17=>∃A11 l11 c11,some (slice A11 l11 c11)=some r17∧
 Cl k18 126 #[slice A6 l6 c6,slice A7 l7 c7] fun k20 r19=>∃A12 l12 c12,some (slice A12 l12 c12)=some r19∧
 Cl k20 97 #[bool b0,slice A11 l11 c11,slice A12 l12 c12] fun k22 r21=>∃b13,∃A14 l14 c14,∃A15 l15 c15,some (agg #[bool b13,slice A14 l14 c14,slice A15 l15 c15])=some r21∧
 Rt R k22 (agg #[bool b13,slice A14 l14 c14,slice A15 l15 c15])) (Cl k16 129 #[slice A9 l9 c9,slice A8 l8 c8] fun k25 r24=>∃A11 l11 c11,some (slice A11 l11 c11)=some r24∧
 Cl k25 126 #[slice A6 l6 c6,slice A7 l7 c7] fun k27 r26=>∃A12 l12 c12,some (slice A12 l12 c12)=some r26∧
 Cl k27 97 #[bool b3,slice A11 l11 c11,slice A12 l12 c12] fun k29 r28=>∃b13,∃A14 l14 c14,∃A15 l15 c15,some (agg #[bool b13,slice A14 l14 c14,slice A15 l15 c15])=some r28∧
 Rt R k29 (agg #[bool b13,slice A14 l14 c14,slice A15 l15 c15])))) :
  CallsG Tryz.prog 101 #[agg #[bool b0,slice A1 l1 c1,slice A2 l2 c2],agg #[bool b3,slice A4 l4 c4,slice A5 l5 c5]] k R:=
  qY { opq:=[] } h
theorem aUn 
 (h:Cl k 126 #[slice A1 l1 c1,slice A4 l4 c4] fun k1 r0=>∃A6 l6 c6,some (slice A6 l6 c6)=some r0∧
 Cl k1 125 #[agg #[bool b0,slice A1 l1 c1,slice A2 l2 c2]] fun k3 r2=>∃A7 l7 c7,some (slice A7 l7 c7)=some r2∧
 Cl k3 125 #[agg #[bool b3,slice A4 l4 c4,slice A5 l5 c5]] fun k5 r4=>∃A8 l8 c8,some (slice A8 l8 c8)=some r4∧
 Cl k5 126 #[slice A7 l7 c7,slice A8 l8 c8] fun k7 r6=>∃A9 l9 c9,some (slice A9 l9 c9)=some r6∧
 Cl k7 97 #[bool (!(b0 == b3)),slice A6 l6 c6,slice A9 l9 c9] fun k9 r8=>∃b10,∃A11 l11 c11,∃A12 l12 c12,some (agg #[bool b10,slice A11 l11 c11,slice A12 l12 c12])=some r8∧
 Rt R k9 (agg #[bool b10,slice A11 l11 c11,slice A12 l12 c12])) :
  CallsG Tryz.prog 102 #[agg #[bool b0,slice A1 l1 c1,slice A2 l2 c2],agg #[bool b3,slice A4 l4 c4,slice A5 l5 c5]] k R:=
  qY { opq:=[] } h
end Go.Proofs.YthiaclljcnincaaGreat

namespace Go.Proofs.YthiaclljcnincaaGreat.W32
open Go.RowKit Num
open Sy (Up Sees CallsG cellAt ReadAt ReadIn RowAt RowC sizeOk)
def RB (R:World→Value→Prop) (k:World) (q:Rat) (K:Nat):Prop:=∀k' b A l c A' l' c',Up k k'→QN k' b A l c A' l' c' q→l≤K→l'≤K→R k' (.agg #[.bool b,.slice A l c,.slice A' l' c'])
section
variable {k k':World}{A A':Option Addr}{n c m n' c' m' a b l l':Nat}{R:World→Value→Prop}{x y q:Rat}{g:Bool}
theorem RB.up {K:Nat}(h:RB R k q K) (u:Up k k'):RB R k' q K:=fun _ b A l c A' l' c' u'=>h _ b A l c A' l' c' (u.trans u')
theorem tF {K:Nat}(h:NatN k A n c a) (h':NatN k A' n' c' b) (hb:0<b) (hn:n≤K) (hn':n'≤K) (hK:K≤34359738368) (hq:mkRat (sgn g a) b=q) (C:RB R k q K) :
 Cl k 97 #[.bool g,.slice A n c,.slice A' n' c'] R:=by
 refine aCq h h' hb oq oq fun k1 b1 A1 l1 c1 A2 l2 c2 u1 hQ=>?_;have hab:=jD (sgn g a) hb;have hdn:=kV (sgn g a) hb;rw [sD]at hab hdn;have e1:l1≤n:=by rw [hQ.n.2,h.2,hab];exact bJ (zt _ _)
 have e2:l2≤n':=by rw [hQ.d.2,h'.2,hdn];exact bJ (zt _ _)
 rw [hq]at hQ;exact C k1 b1 A1 l1 c1 A2 l2 c2 u1 hQ oq oq
theorem bAp {K:Nat}(h:QN k g A l c A' l' c' q) (hl:l≤K) (hl':l'≤K) (hK:K≤34359738368) (C:RB R k (-q) K) :
 Cl k 100 #[.agg #[.bool g,.slice A l c,.slice A' l' c']] R:=by
 intro k0 u0;replace h:=h.up u0;replace C:=C.up u0;have hd:=h.d.2;refine aUo (bR h fun k1 A3 c3 u1 hD=>⟨_,_,_,rfl,?_⟩);refine tF (h.n.up u1) hD q.den_pos hl oq hK (q:=-q) ?_ fun k3 b A l c A' l' c' u3 hQ e1 e2=>⟨_,_,_,_,_,_,_,rfl,fun k4 u4=>C k4 b A l c A' l' c' ((u1.trans u3).trans u4) (hQ.up u4) e1 e2⟩;rw [h.s,wI,mV,Rat.mkRat_self]
theorem aVi (g:Bool) (m n:Nat):sgn g (m+n)=sgn g m+sgn g n:=by unfold sgn;cases g <;> simp <;> omega
theorem aGh (g:Bool) {m n:Nat}(h:n≤m):sgn g (m-n)=sgn g m+sgn (!g) n:=by unfold sgn;cases g <;> simp <;> omega
theorem aYn {a b:Nat}:(decide (ord a b ≥ 0))=true→b≤a:=by
 intro h;refine zw fun hlt=>?_;have h:=ow h;unfold ord at h;rw [og hlt]at h;exact absurd h oz
theorem aUi {a b:Nat}:(decide (ord a b ≥ 0))=false→a<b:=by
 intro h;refine vu fun hle=>?_;have h:=ov h;unfold ord at h;rw [oh oq]at h;split at h <;> exact h oz
theorem xY (x y:Rat):mkRat (x.num*y.den+y.num*x.den) (x.den*y.den)=x+y:=by
 rw [mU _ _ x.den_pos y.den_pos,Rat.mkRat_self,Rat.mkRat_self]
section
variable {K L:Nat}{g':Bool}{Ax Ax' Ay Ay':Option Addr}{lx cx lx' cx' ly cy ly' cy':Nat}
theorem aZr (hx:QN k g Ax lx cx Ax' lx' cx' x) (hy:QN k g' Ay ly cy Ay' ly' cy' y) (l1:lx≤K) (l2:lx'≤K) (l3:ly≤L) (l4:ly'≤L) (hK:K+L≤10000000000) (C:RB R k (x+y) (K+L+1)) :
 Cl k 101 #[.agg #[.bool g,.slice Ax lx cx,.slice Ax' lx' cx'],.agg #[.bool g',.slice Ay ly cy,.slice Ay' ly' cy']] R:=by
 intro k0 u0;replace hx:=hx.up u0;replace hy:=hy.up u0;replace C:=C.up u0;have dx:=hx.d.2;have dy:=hy.d.2;have nx:=hx.n.2;have ny:=hy.n.2;have ex:=yI x.num y.den;have ey:=yI y.num x.den;rw [←hx.s]at ex;rw [←hy.s]at ey;have hden:0<x.den*y.den:=zg x.den_pos y.den_pos;refine aUm (bR hx fun k1 A6 c6 u1 hD=>⟨_,_,_,rfl,?_⟩);refine bR (hy.up u1) fun k3 A7 c7 u3 hE=>⟨_,_,_,rfl,?_⟩;have u13:=u1.trans u3;refine dE (K:=10000000000) (hx.n.1.up u13) hE.1 oq oq oz fun k5 A8 c8 u5 hA hAl=>⟨_,_,_,rfl,?_⟩;refine dE (K:=10000000000) (hy.n.1.up (u13.trans u5)) (hD.1.up (u3.trans u5)) oq oq oz fun k7 A9 c9 u7 hB hBl=>⟨_,_,_,rfl,fun hs=>?_,fun hs=>?_⟩
 ·have hs:g=g':=by simpa using hs
  subst hs;refine bAv (K:=K+L) ((hA.up u7).1) hB.1 oq oq oq fun k9 A10 c10 u9 hS hSl=>⟨_,_,_,rfl,?_⟩;refine dE (K:=10000000000) (hD.1.up (((u3.trans u5).trans u7).trans u9)) (hE.1.up ((u5.trans u7).trans u9)) oq oq oz fun k11 A11 c11 u11 hP hPl=>⟨_,_,_,rfl,?_⟩;refine tF (K:=K+L+1) (hS.up u11) hP hden oq oq oq (q:=x+y) ?_ fun k13 b A l c A' l' c' u13' hQ e1 e2=>⟨_,_,_,_,_,_,_,rfl,fun k14 u14=>C k14 b A l c A' l' c' ((((((u13.trans u5).trans u7).trans u9).trans u11).trans u13').trans u14) (hQ.up u14) e1 e2⟩;rw [aVi,ex,ey,xY]
 ·have hs:g'=!g:=by cases g <;> cases g' <;> simp_all
  refine oF (hA.up u7) hB oq oq fun k16 u16=>⟨_,rfl,fun ho=>?_,fun ho=>?_⟩
  ·have ho:=aYn ho;refine wY ((hA.up u7).1.up u16) (hB.1.up u16) oq (bJ ho) ho fun k18 A11 c11 u18 hS=>⟨_,_,_,rfl,?_⟩;have hSl:=bJ (Nat.sub_le (x.num.natAbs*y.den) (y.num.natAbs*x.den));refine dE (K:=10000000000) (hD.1.up ((((u3.trans u5).trans u7).trans u16).trans u18)) (hE.1.up (((u5.trans u7).trans u16).trans u18)) oq oq oz fun k20 A12 c12 u20 hP hPl=>⟨_,_,_,rfl,?_⟩;refine tF (K:=K+L+1) (hS.up u20) hP hden oq oq oq (q:=x+y) ?_ fun k22 b A l c A' l' c' u22 hQ e1 e2=>⟨_,_,_,_,_,_,_,rfl,fun k23 u23=>C k23 b A l c A' l' c' (((((((u13.trans u5).trans u7).trans u16).trans u18).trans u20).trans u22).trans u23) (hQ.up u23) e1 e2⟩;rw [aGh g ho,ex,←hs,ey,xY]
  ·have ho:=yp (aUi ho);refine wY (hB.1.up u16) ((hA.up u7).1.up u16) oq (bJ ho) ho fun k18 A11 c11 u18 hS=>⟨_,_,_,rfl,?_⟩;have hSl:=bJ (Nat.sub_le (y.num.natAbs*x.den) (x.num.natAbs*y.den));refine dE (K:=10000000000) (hD.1.up ((((u3.trans u5).trans u7).trans u16).trans u18)) (hE.1.up (((u5.trans u7).trans u16).trans u18)) oq oq oz fun k20 A12 c12 u20 hP hPl=>⟨_,_,_,rfl,?_⟩;refine tF (K:=K+L+1) (hS.up u20) hP hden oq oq oq (q:=x+y) ?_ fun k22 b A l c A' l' c' u22 hQ e1 e2=>⟨_,_,_,_,_,_,_,rfl,fun k23 u23=>C k23 b A l c A' l' c' (((((((u13.trans u5).trans u7).trans u16).trans u18).trans u20).trans u22).trans u23) (hQ.up u23) e1 e2⟩;have hgg:(!g')=g:=by rw [hs,Bool.not_not]
   rw [aGh g' ho,ey,hgg,ex,Int.add_comm,xY]
end
end
section
variable {k k':World}{A A':Option Addr}{n c m n' c' m' a b l l':Nat}{R:World→Value→Prop}{x y q:Rat}{g:Bool}
variable {K L:Nat}{g':Bool}{Ax Ax' Ay Ay':Option Addr}{lx cx lx' cx' ly cy ly' cy':Nat}
theorem bAo (hx:QN k g Ax lx cx Ax' lx' cx' x) (hy:QN k g' Ay ly cy Ay' ly' cy' y) (l1:lx≤K) (l2:lx'≤K) (l3:ly≤L) (l4:ly'≤L) (hK:K+L≤10000000000) (C:RB R k (x*y) (K+L)) :
 Cl k 102 #[.agg #[.bool g,.slice Ax lx cx,.slice Ax' lx' cx'],.agg #[.bool g',.slice Ay ly cy,.slice Ay' ly' cy']] R:=by
 intro k0 u0;replace hx:=hx.up u0;replace hy:=hy.up u0;replace C:=C.up u0;have dx:=hx.d.2;have dy:=hy.d.2;have hden:0<x.den*y.den:=zg x.den_pos y.den_pos;have hg:(!(g == g'))=(decide (x.num<0) != decide (y.num<0)):=by rw [hx.s,hy.s];rfl
 refine aUn (dE (K:=10000000000) hx.n.1 hy.n.1 oq oq oz fun k1 A6 c6 u1 hA hAl=>⟨_,_,_,rfl,?_⟩);refine bR (hx.up u1) fun k3 A7 c7 u3 hD=>⟨_,_,_,rfl,?_⟩;refine bR (hy.up (u1.trans u3)) fun k5 A8 c8 u5 hE=>⟨_,_,_,rfl,?_⟩;refine dE (K:=10000000000) (hD.1.up u5) hE.1 oq oq oz fun k7 A9 c9 u7 hP hPl=>⟨_,_,_,rfl,?_⟩;refine tF (K:=K+L) (hA.up ((u3.trans u5).trans u7)) hP hden oq oq oq (q:=x*y) ?_ fun k9 b A l c A' l' c' u9 hQ e1 e2=>⟨_,_,_,_,_,_,_,rfl,fun k10 u10=>C k10 b A l c A' l' c' (((((u1.trans u3).trans u5).trans u7).trans u9).trans u10) (hQ.up u10) e1 e2⟩;rw [hg,aBp,←Rat.mul_def']
end
open Sy (Up Sees CallsG Seg)
def QV (k:World) (cs:Array Value) (q:Rat) (K:Nat):Prop:=∃b A l c A' l' c',cs=#[.bool b,.slice A l c,.slice A' l' c']∧QN k b A l c A' l' c' q∧l≤K∧l'≤K
section
variable {k k':World}{cs cs':Array Value}{R:World→Value→Prop}{x y q:Rat}{K L:Nat}
theorem QV.up (h:QV k cs q K) (u:Up k k'):QV k' cs q K:=by
 obtain⟨b,A,l,c,A',l',c',h1,h2,h3,h4⟩:=h;exact⟨b,A,l,c,A',l',c',h1,h2.up u,h3,h4⟩
theorem QV.mono (h:QV k cs q K) (hL:K≤L):QV k cs q L:=by
 obtain⟨b,A,l,c,A',l',c',h1,h2,h3,h4⟩:=h;exact⟨b,A,l,c,A',l',c',h1,h2,oq,oq⟩
theorem QV.seg (h:QV k cs q K):Seg 3 cs:=by
 obtain⟨b,A,l,c,A',l',c',rfl,h2,h3,h4⟩:=h;exact⟨rfl,by simp [Value.scalar,Value.noWord]⟩
theorem QV.lift (C:∀k' ds,Up k k'→QV k' ds q K→R k' (.agg ds)):RB R k q K:=
 fun k' b A l c A' l' c' u hQ e1 e2=>C k' _ u ⟨b,A,l,c,A',l',c',rfl,hQ,e1,e2⟩
theorem fD (hx:QV k cs x K) (hy:QV k cs' y L) (hK:K+L≤10000000000) (C:∀k' ds,Up k k'→QV k' ds (x+y) (K+L+1)→R k' (.agg ds)) :
 Cl k 101 #[.agg cs,.agg cs'] R:=by
 obtain⟨_,_,_,_,_,_,_,rfl,hx,l1,l2⟩:=hx;obtain⟨_,_,_,_,_,_,_,rfl,hy,l3,l4⟩:=hy;exact aZr hx hy l1 l2 l3 l4 hK (QV.lift C)
theorem dQ (hx:QV k cs x K) (hy:QV k cs' y L) (hK:K+L≤10000000000) (C:∀k' ds,Up k k'→QV k' ds (x*y) (K+L)→R k' (.agg ds)) :
 Cl k 102 #[.agg cs,.agg cs'] R:=by
 obtain⟨_,_,_,_,_,_,_,rfl,hx,l1,l2⟩:=hx;obtain⟨_,_,_,_,_,_,_,rfl,hy,l3,l4⟩:=hy;exact bAo hx hy l1 l2 l3 l4 hK (QV.lift C)
theorem aFq (hx:QV k cs x K) (hK:K≤10000000000) (C:∀k' ds,Up k k'→QV k' ds (-x) K→R k' (.agg ds)) :
 Cl k 100 #[.agg cs] R:=by
 obtain⟨_,_,_,_,_,_,_,rfl,hx,l1,l2⟩:=hx;exact bAp hx l1 l2 oq (QV.lift C)
theorem dI {z:Int}(h0:-9223372036854775808≤z) (h1:z≤9223372036854775807) (C:∀k' ds,Up k k'→QV k' ds (z:Rat) 2→R k' (.agg ds)) :
 Cl k 64 #[.int .i64 z] R:=by
 refine W32.whole_s h0 h1 fun k1 b A l c A' l' c' u1 hQ=>C k1 _ u1 ⟨b,A,l,c,A',l',c',rfl,hQ,?_,?_⟩
 ·rw [hQ.n.2,Rat.num_intCast];exact pJ oq
 ·rw [hQ.d.2,Rat.den_intCast,nw_one];decide
theorem yY (hx:QV k cs x K) (C:∀k',Up k k'→R k' (.bool (decide (x=0)))) :
 Cl k 70 #[.agg cs] R:=by
 obtain⟨_,_,_,_,_,_,_,rfl,hx,l1,l2⟩:=hx;exact W32.zero_s hx C
theorem bB {y z:Int}(hy:In64 y) (hz:In64 z) (C:∀k' ds,Up k k'→QV k' ds ((y:Rat) / (z:Rat)) 2→R k' (.tuple #[.agg ds,.int .i64 (if z=0 then 3 else 0)])) :
 Cl k 124 #[.int .i64 y,.int .i64 z] R:=
 aYu hy.1 hy.2 hz.1 hz.2 fun k' b A l c A' l' c' u hQ e1 e2=>C k' _ u ⟨b,A,l,c,A',l',c',rfl,hQ,e1,e2⟩
end
