/- Several texts in one. (Printed by prep.py.) -/
import Derived.Test.YtifcjpacobpdmaaGreatReS6
namespace Go.Proofs.YtifcjpacobpdmaaGreat
open Go.RowKit
open Value (agg slice int bool tuple)
open Sy (Up Sees CallsG Seg execFn_use)
set_option maxRecDepth 100000
variable {k:World}{R:World→Value→Prop}
end Go.Proofs.YtifcjpacobpdmaaGreat

namespace Go.Proofs.YtifcjpacobpdmaaGreat
open Go.RowKit Num Plain
open Sy (Up Sees CallsG Seg)
section
variable {k:World}{R:World→Value→Prop}{K L:Nat}
def ofQ (n d:Int):Rat:=if d=0 then (n:Rat) else (n:Rat) / (d:Rat)
def In64 (n:Int):Prop:=-9223372036854775808≤n∧n<9223372036854775808
end
open IntKind (wrap)
open Value (agg slice int bool tuple)
open Sy (Up Sees CallsG Seg execFn_use)
set_option maxRecDepth 100000
variable {k:World}{R:World→Value→Prop}{A0 A1:Option Addr}{c0 c1 l0 l1:Nat}{n0 n1:Int}
theorem aVd 
 (h:Tt∧(∃I0:Nat→World→List Value→Prop,(∃m0,∀k0,Up k k0→I0 m0 k0 [int .i64 (l0:Nat)])∧
 ∀m0 k0 vs0,Up k k0→I0 m0 k0 vs0→∃n1,some [int .i64 n1]=some vs0∧
 Br (decide ((n1:Int) > 0)) (Ad A0∧((0:Int)≤(wrap .i64 (n1-1))∧((wrap .i64 (n1-1)):Int)<(l0:Nat))∧
 ∃n2,Sy.ReadAt k0.cell? A0 (Int.toNat (wrap .i64 (n1-1))*1+0) 1 (int .u32 n2)∧
 Br ((n2:Int) == 0) (∀k1,Up k0 k1→∃m,m<m0∧I0 m k1 [int .i64 (wrap .i64 (n1-1))]) (∃A3 l3 c3,Sy.slcD 1 (slice A0 l0 c0) (int .i64 0) (int .i64 n1)=some (slice A3 l3 c3)∧
 Rt R k0 (slice A3 l3 c3))) (∃A2 l2 c2,Sy.slcD 1 (slice A0 l0 c0) (int .i64 0) (int .i64 n1)=some (slice A2 l2 c2)∧
 Rt R k0 (slice A2 l2 c2)))) :
  CallsG Tryz.prog 262 #[slice A0 l0 c0] k R:=
  qY { opq:=[],loops:=[(0,[.tmp 3 false [.int .i64]])] } h
theorem aVg 
 (h:∀p1 k0,Up k k0→Sy.Blk k0 p1 64 #[int .u32 (wrap .u32 n0),int .u32 (wrap .u32 (Int.fdiv n0 (2^(min (Int.toNat 32) (IntKind.bits .u64)))))]→
 Cl k0 262 #[slice (some ⟨p1,0,none⟩) 2 2] fun k2 r1=>∃A2 l2 c2,some (slice A2 l2 c2)=some r1∧
 Rt R k2 (slice A2 l2 c2)) :
  CallsG Tryz.prog 174 #[int .u64 n0] k R:=
  qY { opq:=[] } h
theorem aKf 
 (h:Tt∧(Tt∧(Br (decide (((l0:Nat):Int)<(l1:Nat))) (Rt R k (int .i64 (-1))) (Tt∧(Tt∧(Br (decide (((l0:Nat):Int) > (l1:Nat))) (Rt R k (int .i64 1)) (Tt∧(∃I2:Nat→World→List Value→Prop,(∃m2,∀k2,Up k k2→I2 m2 k2 [int .i64 (wrap .i64 ((l0:Nat)-1))])∧
 ∀m2 k2 vs2,Up k k2→I2 m2 k2 vs2→∃n2,some [int .i64 n2]=some vs2∧
 Br (decide ((n2:Int) ≥ 0)) (Ad A0∧Ix n2 l0∧
 ∃n3,Sy.ReadAt k2.cell? A0 (Int.toNat n2*1+0) 1 (int .u32 n3)∧
 Ad A1∧Ix n2 l1∧
 ∃n4,Sy.ReadAt k2.cell? A1 (Int.toNat n2*1+0) 1 (int .u32 n4)∧
 Br (decide ((n3:Int)<n4)) (Rt R k2 (int .i64 (-1))) (Ad A0∧Ix n2 l0∧
 ∃n5,Sy.ReadAt k2.cell? A0 (Int.toNat n2*1+0) 1 (int .u32 n5)∧
 Ad A1∧Ix n2 l1∧
 ∃n6,Sy.ReadAt k2.cell? A1 (Int.toNat n2*1+0) 1 (int .u32 n6)∧
 Br (decide ((n5:Int) > n6)) (Rt R k2 (int .i64 1)) (∀k5,Up k2 k5→∃m,m<m2∧I2 m k5 [int .i64 (wrap .i64 (n2-1))]))) (Rt R k2 (int .i64 0)))))))))) :
  CallsG Tryz.prog 178 #[slice A0 l0 c0,slice A1 l1 c1] k R:=
  qY { opq:=[],loops:=[(0,[.tmp 5 false [.int .i64]])] } h
theorem aPa 
 (h:∀(A2:Option Addr) (l2 c2:Nat) (cs3:Array Value),l2=0→cs3=([]:List Value).toArray→l2≤c2→
 ∃I0:Nat→World→List Value→Prop,(∃m0,∀k0,Up k k0→I0 m0 k0 [tuple #[slice A2 l2 c2,agg cs3],int .i64 0,int .i64 0])∧
 ∀m0 k0 vs0,Up k k0→I0 m0 k0 vs0→∃A4 l4 c4,∃cs5,Sy.RowC cs5∧∃n6,∃n7,some [tuple #[slice A4 l4 c4,agg cs5],int .i64 n6,int .i64 n7]=some vs0∧
 Tt∧(Br (decide ((n7:Int)<(l0:Nat))) (Ad A0∧Ix n7 l0∧
 ∃n8,Sy.ReadAt k0.cell? A0 (Int.toNat n7*1+0) 1 (int .u32 n8)∧
 Tt∧(Br (decide ((n7:Int)<(l1:Nat))) (Ad A1∧Ix n7 l1∧
 ∃n9,Sy.ReadAt k0.cell? A1 (Int.toNat n7*1+0) 1 (int .u32 n9)∧
 Br (decide (((wrap .i64 ((wrap .i64 ((wrap .i64 n8)-n6))-(wrap .i64 n9))):Int)<0)) (([int .u32 (wrap .u32 (wrap .i64 ((wrap .i64 ((wrap .i64 ((wrap .i64 n8)-n6))-(wrap .i64 n9)))+4294967296)))]:List Value).length=Int.toNat 1*1∧(0:Int)≤1∧Sy.sizeOk 4 (l4+Int.toNat 1)∧∀(A10:Option Addr) (l10 c10:Nat) (cs11:Array Value),l10=l4+Int.toNat 1→cs11=cs5++([int .u32 (wrap .u32 (wrap .i64 ((wrap .i64 ((wrap .i64 ((wrap .i64 n8)-n6))-(wrap .i64 n9)))+4294967296)))]:List Value).toArray→l10≤c10→
 ∀k1,Up k0 k1→∃m,m<m0∧I0 m k1 [tuple #[slice A10 l10 c10,agg cs11],int .i64 1,int .i64 (wrap .i64 (n7+1))]) (([int .u32 (wrap .u32 (wrap .i64 ((wrap .i64 ((wrap .i64 n8)-n6))-(wrap .i64 n9))))]:List Value).length=Int.toNat 1*1∧(0:Int)≤1∧Sy.sizeOk 4 (l4+Int.toNat 1)∧∀(A10:Option Addr) (l10 c10:Nat) (cs11:Array Value),l10=l4+Int.toNat 1→cs11=cs5++([int .u32 (wrap .u32 (wrap .i64 ((wrap .i64 ((wrap .i64 n8)-n6))-(wrap .i64 n9))))]:List Value).toArray→l10≤c10→
 ∀k2,Up k0 k2→∃m,m<m0∧I0 m k2 [tuple #[slice A10 l10 c10,agg cs11],int .i64 0,int .i64 (wrap .i64 (n7+1))])) (Br (decide (((wrap .i64 ((wrap .i64 n8)-n6)):Int)<0)) (([int .u32 (wrap .u32 (wrap .i64 ((wrap .i64 ((wrap .i64 n8)-n6))+4294967296)))]:List Value).length=Int.toNat 1*1∧(0:Int)≤1∧Sy.sizeOk 4 (l4+Int.toNat 1)∧∀(A9:Option Addr) (l9 c9:Nat) (cs10:Array Value),l9=l4+Int.toNat 1→cs10=cs5++([int .u32 (wrap .u32 (wrap .i64 ((wrap .i64 ((wrap .i64 n8)-n6))+4294967296)))]:List Value).toArray→l9≤c9→
 ∀k3,Up k0 k3→∃m,m<m0∧I0 m k3 [tuple #[slice A9 l9 c9,agg cs10],int .i64 1,int .i64 (wrap .i64 (n7+1))]) (([int .u32 (wrap .u32 (wrap .i64 ((wrap .i64 n8)-n6)))]:List Value).length=Int.toNat 1*1∧(0:Int)≤1∧Sy.sizeOk 4 (l4+Int.toNat 1)∧∀(A9:Option Addr) (l9 c9:Nat) (cs10:Array Value),l9=l4+Int.toNat 1→cs10=cs5++([int .u32 (wrap .u32 (wrap .i64 ((wrap .i64 n8)-n6)))]:List Value).toArray→l9≤c9→
 ∀k4,Up k0 k4→∃m,m<m0∧I0 m k4 [tuple #[slice A9 l9 c9,agg cs10],int .i64 0,int .i64 (wrap .i64 (n7+1))])))) (∀k5,Up k0 k5→Sy.RowAt k5 A4 cs5→
 Cl k5 262 #[slice A4 l4 c4] fun k7 r6=>∃A8 l8 c8,some (slice A8 l8 c8)=some r6∧
 Rt R k7 (slice A8 l8 c8)))) :
  CallsG Tryz.prog 179 #[slice A0 l0 c0,slice A1 l1 c1] k R:=
  qY { opq:=[],loops:=[(0,[.rw 5 64 1,.tmp 6 false [.int .i64],.tmp 7 false [.int .i64]])] } h
theorem aPe 
 (h:Tt∧(Tt∧((0:Int)≤(wrap .i64 ((l0:Nat)+(l1:Nat)))∧Sy.sizeOk 4 (Int.toNat (wrap .i64 ((l0:Nat)+(l1:Nat))))∧∀(A2:Option Addr) (l2 c2:Nat) (cs3:Array Value),l2=Int.toNat (wrap .i64 ((l0:Nat)+(l1:Nat)))→cs3=madeCells [int .u32 0].toArray (Int.toNat (wrap .i64 ((l0:Nat)+(l1:Nat)))*1)→l2≤c2→
 ∃I0:Nat→World→List Value→Prop,(∃m0,∀k0,Up k k0→I0 m0 k0 [tuple #[slice A2 l2 c2,agg cs3],int .i64 0])∧
 ∀m0 k0 vs0,Up k k0→I0 m0 k0 vs0→∃A4 l4 c4,∃cs5,Sy.RowC cs5∧∃n6,some [tuple #[slice A4 l4 c4,agg cs5],int .i64 n6]=some vs0∧
 Tt∧(Br (decide ((n6:Int)<(l0:Nat))) (∃I1:Nat→World→List Value→Prop,(∃m1,∀k1,Up k0 k1→I1 m1 k1 [tuple #[slice A4 l4 c4,agg cs5],int .u64 0,int .i64 0])∧
 ∀m1 k1 vs1,Up k0 k1→I1 m1 k1 vs1→∃A7 l7 c7,∃cs8,Sy.RowC cs8∧∃n9,∃n10,some [tuple #[slice A7 l7 c7,agg cs8],int .u64 n9,int .i64 n10]=some vs1∧
 Tt∧(Br (decide ((n10:Int)<(l1:Nat))) (Ad A0∧Ix n6 l0∧
 ∃n11,Sy.ReadAt k1.cell? A0 (Int.toNat n6*1+0) 1 (int .u32 n11)∧
 Ad A1∧Ix n10 l1∧
 ∃n12,Sy.ReadAt k1.cell? A1 (Int.toNat n10*1+0) 1 (int .u32 n12)∧
 (decide ((0:Int)≤(wrap .i64 (n6+n10))∧((wrap .i64 (n6+n10)):Int)<(l7:Nat)))=true∧
 (∃n13,Sy.ReadIn cs8 (Int.toNat (wrap .i64 (n6+n10))*1+0) 1 (int .u32 n13)∧
 (decide ((0:Int)≤(wrap .i64 (n6+n10))∧((wrap .i64 (n6+n10)):Int)<(l7:Nat)))=true∧
 (((0:Int)≤(wrap .i64 (n6+n10))∧((wrap .i64 (n6+n10)):Int)<(l7:Nat))∧∀cs14:Array Value,cs14=Sy.over cs8 (Int.toNat (wrap .i64 (n6+n10))*1+0) ([int .u32 (wrap .u32 (wrap .u64 ((wrap .u64 (n9+(wrap .u64 ((wrap .u64 n11)*(wrap .u64 n12)))))+(wrap .u64 n13))))])→
 ∀k2,Up k1 k2→∃m,m<m1∧I1 m k2 [tuple #[slice A7 l7 c7,agg cs14],int .u64 (Int.fdiv (wrap .u64 ((wrap .u64 (n9+(wrap .u64 ((wrap .u64 n11)*(wrap .u64 n12)))))+(wrap .u64 n13))) (2^(min (Int.toNat 32) (IntKind.bits .u64)))),int .i64 (wrap .i64 (n10+1))]))) (Tt∧((decide ((0:Int)≤(wrap .i64 (n6+(l1:Nat)))∧((wrap .i64 (n6+(l1:Nat))):Int)<(l7:Nat)))=true∧
 (((0:Int)≤(wrap .i64 (n6+(l1:Nat)))∧((wrap .i64 (n6+(l1:Nat))):Int)<(l7:Nat))∧∀cs11:Array Value,cs11=Sy.over cs8 (Int.toNat (wrap .i64 (n6+(l1:Nat)))*1+0) ([int .u32 (wrap .u32 n9)])→
 ∀k3,Up k1 k3→∃m,m<m0∧I0 m k3 [tuple #[slice A7 l7 c7,agg cs11],int .i64 (wrap .i64 (n6+1))]))))) (∀k4,Up k0 k4→Sy.RowAt k4 A4 cs5→
 Cl k4 262 #[slice A4 l4 c4] fun k6 r5=>∃A7 l7 c7,some (slice A7 l7 c7)=some r5∧
 Rt R k6 (slice A7 l7 c7)))))) :
  CallsG Tryz.prog 176 #[slice A0 l0 c0,slice A1 l1 c1] k R:=
  qY { opq:=[],loops:=[(0,[.rw 5 64 1,.tmp 6 false [.int .i64]]),(2,[.rw 5 64 1,.tmp 7 false [.int .u64],.tmp 8 false [.int .i64]])] } h
theorem aOz 
 (h:Tt∧(Br (((l0:Nat):Int) == 0) (Rt R k (int .i64 0)) (Tt∧(Tt∧(Ad A0∧((0:Int)≤(wrap .i64 ((l0:Nat)-1))∧((wrap .i64 ((l0:Nat)-1)):Int)<(l0:Nat))∧
 ∃n1,Sy.ReadAt k.cell? A0 (Int.toNat (wrap .i64 ((l0:Nat)-1))*1+0) 1 (int .u32 n1)∧
 ∃I1:Nat→World→List Value→Prop,(∃m1,∀k1,Up k k1→I1 m1 k1 [int .i64 (wrap .i64 (32*(wrap .i64 ((l0:Nat)-1)))),int .u32 n1])∧
 ∀m1 k1 vs1,Up k k1→I1 m1 k1 vs1→∃n2,∃n3,some [int .i64 n2,int .u32 n3]=some vs1∧
 Br (decide ((n3:Int) > 0)) (∀k2,Up k1 k2→∃m,m<m1∧I1 m k2 [int .i64 (wrap .i64 (n2+1)),int .u32 (Int.fdiv n3 (2^(min (Int.toNat 1) (IntKind.bits .u32))))]) (Rt R k1 (int .i64 n2))))))) :
  CallsG Tryz.prog 252 #[slice A0 l0 c0] k R:=
  qY { opq:=[],loops:=[(0,[.tmp 3 false [.int .i64],.tmp 4 false [.int .u32]])] } h
theorem aEs 
 (h:Tt∧(Br (((l0:Nat):Int) == 0) (Rt R k (slice none 0 0)) ((0:Int)≤(wrap .i64 (Int.tdiv n1 32))∧Sy.sizeOk 4 (Int.toNat (wrap .i64 (Int.tdiv n1 32)))∧∀(A2:Option Addr) (l2 c2:Nat) (cs3:Array Value),l2=Int.toNat (wrap .i64 (Int.tdiv n1 32))→cs3=madeCells [int .u32 0].toArray (Int.toNat (wrap .i64 (Int.tdiv n1 32))*1)→l2≤c2→
 ∃I1:Nat→World→List Value→Prop,(∃m1,∀k1,Up k k1→I1 m1 k1 [tuple #[slice A2 l2 c2,agg cs3],int .u64 0,int .i64 0])∧
 ∀m1 k1 vs1,Up k k1→I1 m1 k1 vs1→∃A4 l4 c4,∃cs5,Sy.RowC cs5∧∃n6,∃n7,some [tuple #[slice A4 l4 c4,agg cs5],int .u64 n6,int .i64 n7]=some vs1∧
 Tt∧(Br (decide ((n7:Int)<(l0:Nat))) (Ad A0∧Ix n7 l0∧
 ∃n8,Sy.ReadAt k1.cell? A0 (Int.toNat n7*1+0) 1 (int .u32 n8)∧
 (decide ((0:Int)≤(wrap .u64 (Int.tmod n1 32))))=true∧
 (([int .u32 (wrap .u32 (wrap .u64 (BitVec.toNat (BitVec.ofInt (IntKind.bits .u64) (wrap .u64 ((wrap .u64 n8)*2^(min (Int.toNat (wrap .u64 (Int.tmod n1 32))) (IntKind.bits .u64)))) ||| BitVec.ofInt (IntKind.bits .u64) n6))))]:List Value).length=Int.toNat 1*1∧(0:Int)≤1∧Sy.sizeOk 4 (l4+Int.toNat 1)∧∀(A9:Option Addr) (l9 c9:Nat) (cs10:Array Value),l9=l4+Int.toNat 1→cs10=cs5++([int .u32 (wrap .u32 (wrap .u64 (BitVec.toNat (BitVec.ofInt (IntKind.bits .u64) (wrap .u64 ((wrap .u64 n8)*2^(min (Int.toNat (wrap .u64 (Int.tmod n1 32))) (IntKind.bits .u64)))) ||| BitVec.ofInt (IntKind.bits .u64) n6))))]:List Value).toArray→l9≤c9→
 ∀k2,Up k1 k2→∃m,m<m1∧I1 m k2 [tuple #[slice A9 l9 c9,agg cs10],int .u64 (Int.fdiv (wrap .u64 (BitVec.toNat (BitVec.ofInt (IntKind.bits .u64) (wrap .u64 ((wrap .u64 n8)*2^(min (Int.toNat (wrap .u64 (Int.tmod n1 32))) (IntKind.bits .u64)))) ||| BitVec.ofInt (IntKind.bits .u64) n6))) (2^(min (Int.toNat 32) (IntKind.bits .u64)))),int .i64 (wrap .i64 (n7+1))])) (([int .u32 (wrap .u32 n6)]:List Value).length=Int.toNat 1*1∧(0:Int)≤1∧Sy.sizeOk 4 (l4+Int.toNat 1)∧∀(A8:Option Addr) (l8 c8:Nat) (cs9:Array Value),l8=l4+Int.toNat 1→cs9=cs5++([int .u32 (wrap .u32 n6)]:List Value).toArray→l8≤c8→
 ∀k3,Up k1 k3→Sy.RowAt k3 A8 cs9→
 Cl k3 262 #[slice A8 l8 c8] fun k5 r4=>∃A10 l10 c10,some (slice A10 l10 c10)=some r4∧
 Rt R k5 (slice A10 l10 c10)))))) :
  CallsG Tryz.prog 227 #[slice A0 l0 c0,int .i64 n1] k R:=
  qY { opq:=[],loops:=[(0,[.rw 5 64 1,.tmp 6 false [.int .u64],.tmp 7 false [.int .i64]])] } h
theorem aBo 
 (h:∀(A2:Option Addr) (l2 c2:Nat) (cs3:Array Value),l2=0→cs3=([]:List Value).toArray→l2≤c2→
 ∃I0:Nat→World→List Value→Prop,(∃m0,∀k0,Up k k0→I0 m0 k0 [tuple #[slice A2 l2 c2,agg cs3],int .i64 (wrap .i64 (Int.tdiv n1 32))])∧
 ∀m0 k0 vs0,Up k k0→I0 m0 k0 vs0→∃A4 l4 c4,∃cs5,Sy.RowC cs5∧∃n6,some [tuple #[slice A4 l4 c4,agg cs5],int .i64 n6]=some vs0∧
 Tt∧(Br (decide ((n6:Int)<(l0:Nat))) (Ad A0∧Ix n6 l0∧
 ∃n7,Sy.ReadAt k0.cell? A0 (Int.toNat n6*1+0) 1 (int .u32 n7)∧
 Tt∧(Br (decide (((wrap .i64 (n6+1)):Int)<(l0:Nat))) (Ad A0∧((0:Int)≤(wrap .i64 (n6+1))∧((wrap .i64 (n6+1)):Int)<(l0:Nat))∧
 ∃n8,Sy.ReadAt k0.cell? A0 (Int.toNat (wrap .i64 (n6+1))*1+0) 1 (int .u32 n8)∧
 (decide ((0:Int)≤(wrap .u64 (Int.tmod n1 32))))=true∧
 (([int .u32 (wrap .u32 (Int.fdiv (wrap .u64 (BitVec.toNat (BitVec.ofInt (IntKind.bits .u64) (wrap .u64 n7) ||| BitVec.ofInt (IntKind.bits .u64) (wrap .u64 ((wrap .u64 n8)*2^(min (Int.toNat 32) (IntKind.bits .u64))))))) (2^(min (Int.toNat (wrap .u64 (Int.tmod n1 32))) (IntKind.bits .u64)))))]:List Value).length=Int.toNat 1*1∧(0:Int)≤1∧Sy.sizeOk 4 (l4+Int.toNat 1)∧∀(A9:Option Addr) (l9 c9:Nat) (cs10:Array Value),l9=l4+Int.toNat 1→cs10=cs5++([int .u32 (wrap .u32 (Int.fdiv (wrap .u64 (BitVec.toNat (BitVec.ofInt (IntKind.bits .u64) (wrap .u64 n7) ||| BitVec.ofInt (IntKind.bits .u64) (wrap .u64 ((wrap .u64 n8)*2^(min (Int.toNat 32) (IntKind.bits .u64))))))) (2^(min (Int.toNat (wrap .u64 (Int.tmod n1 32))) (IntKind.bits .u64)))))]:List Value).toArray→l9≤c9→
 ∀k1,Up k0 k1→∃m,m<m0∧I0 m k1 [tuple #[slice A9 l9 c9,agg cs10],int .i64 (wrap .i64 (n6+1))])) ((decide ((0:Int)≤(wrap .u64 (Int.tmod n1 32))))=true∧
 (([int .u32 (wrap .u32 (Int.fdiv (wrap .u64 n7) (2^(min (Int.toNat (wrap .u64 (Int.tmod n1 32))) (IntKind.bits .u64)))))]:List Value).length=Int.toNat 1*1∧(0:Int)≤1∧Sy.sizeOk 4 (l4+Int.toNat 1)∧∀(A8:Option Addr) (l8 c8:Nat) (cs9:Array Value),l8=l4+Int.toNat 1→cs9=cs5++([int .u32 (wrap .u32 (Int.fdiv (wrap .u64 n7) (2^(min (Int.toNat (wrap .u64 (Int.tmod n1 32))) (IntKind.bits .u64)))))]:List Value).toArray→l8≤c8→
 ∀k2,Up k0 k2→∃m,m<m0∧I0 m k2 [tuple #[slice A8 l8 c8,agg cs9],int .i64 (wrap .i64 (n6+1))])))) (∀k3,Up k0 k3→Sy.RowAt k3 A4 cs5→
 Cl k3 262 #[slice A4 l4 c4] fun k5 r4=>∃A7 l7 c7,some (slice A7 l7 c7)=some r4∧
 Rt R k5 (slice A7 l7 c7)))) :
  CallsG Tryz.prog 314 #[slice A0 l0 c0,int .i64 n1] k R:=
  qY { opq:=[],loops:=[(0,[.rw 5 64 1,.tmp 6 false [.int .i64]])] } h
theorem aEn 
 (h:Tt∧((0:Int)≤(l0:Nat)∧Sy.sizeOk 4 (Int.toNat (l0:Nat))∧∀(A2:Option Addr) (l2 c2:Nat) (cs3:Array Value),l2=Int.toNat (l0:Nat)→cs3=madeCells [int .u32 0].toArray (Int.toNat (l0:Nat)*1)→l2≤c2→
 Tt∧(∃I0:Nat→World→List Value→Prop,(∃m0,∀k0,Up k k0→I0 m0 k0 [tuple #[slice A2 l2 c2,agg cs3],int .u64 0,int .i64 (wrap .i64 ((l0:Nat)-1))])∧
 ∀m0 k0 vs0,Up k k0→I0 m0 k0 vs0→∃A4 l4 c4,∃cs5,Sy.RowC cs5∧∃n6,∃n7,some [tuple #[slice A4 l4 c4,agg cs5],int .u64 n6,int .i64 n7]=some vs0∧
 Br (decide ((n7:Int) ≥ 0)) (Ad A0∧Ix n7 l0∧
 ∃n8,Sy.ReadAt k0.cell? A0 (Int.toNat n7*1+0) 1 (int .u32 n8)∧
 (decide (((wrap .u64 n1):Int)≠0))=true∧
 ((decide ((0:Int)≤n7∧(n7:Int)<(l4:Nat)))=true∧
 (Ix n7 l4∧∀cs9:Array Value,cs9=Sy.over cs5 (Int.toNat n7*1+0) ([int .u32 (wrap .u32 (wrap .u64 (Int.tdiv (wrap .u64 (BitVec.toNat (BitVec.ofInt (IntKind.bits .u64) (wrap .u64 (n6*2^(min (Int.toNat 32) (IntKind.bits .u64)))) ||| BitVec.ofInt (IntKind.bits .u64) (wrap .u64 n8)))) (wrap .u64 n1))))])→
 (decide (((wrap .u64 n1):Int)≠0))=true∧
 (∀k1,Up k0 k1→∃m,m<m0∧I0 m k1 [tuple #[slice A4 l4 c4,agg cs9],int .u64 (Int.tmod (wrap .u64 (BitVec.toNat (BitVec.ofInt (IntKind.bits .u64) (wrap .u64 (n6*2^(min (Int.toNat 32) (IntKind.bits .u64)))) ||| BitVec.ofInt (IntKind.bits .u64) (wrap .u64 n8)))) (wrap .u64 n1)),int .i64 (wrap .i64 (n7-1))])))) (∀k2,Up k0 k2→Sy.RowAt k2 A4 cs5→
 Cl k2 262 #[slice A4 l4 c4] fun k4 r3=>∃A8 l8 c8,some (slice A8 l8 c8)=some r3∧
 Rt R k4 (tuple #[slice A8 l8 c8,int .u32 (wrap .u32 n6)]))))) :
  CallsG Tryz.prog 268 #[slice A0 l0 c0,int .u32 n1] k R:=
  qY { opq:=[],loops:=[(0,[.rw 6 64 1,.tmp 7 false [.int .u64],.tmp 8 false [.int .i64]])] } h
abbrev nqT (k103:World) (gE0:Int) (A104:Option Addr) (l105:Nat) (c106:Nat) (A113:Option Addr) (l114:Nat) (c115:Nat) (A120:Option Addr) (l121:Nat) (c122:Nat) (n129:Int) (l130:Nat) (cs132:Array Value) (A140:Option Addr) (l141:Nat) (c142:Nat) (m167:Nat) (I168:Nat→World→List Value→Prop) (A169:Option Addr) (c170:Nat):Prop:=
 ∃I100:Nat→World→List Value→Prop,(∃m101,∀k102,Up k103 k102→I100 m101 k102 [int .u64 gE0,slice A104 l105 c106])∧
 ∀m101 k102 vs107,Up k103 k102→I100 m101 k102 vs107→∃n108,∃A109 l110 c111,some [int .u64 n108,slice A109 l110 c111]=some vs107∧
 Cl k102 178 #[slice A109 l110 c111,slice A113 l114 c115] fun k116 r117=>Gi r117 fun n118=>
 Br (decide ((n118:Int) > 0)) (Cl k116 179 #[slice A109 l110 c111,slice A120 l121 c122] fun k123 r124=>∃A125 l126 c127,some (slice A125 l126 c127)=some r124∧
 ∀k128,Up k123 k128→∃m,m<m101∧I100 m k128 [int .u64 (wrap .u64 (n108-1)),slice A125 l126 c127]) ((decide ((0:Int)≤n129∧(n129:Int)<(l130:Nat)))=true∧
 (Ix n129 l130∧∀cs131:Array Value,cs131=Sy.over cs132 (Int.toNat n129*1+0) ([int .u32 (wrap .u32 n108)])→
 ∀(_A133:Option Addr) (l134 c135:Nat) (cs136:Array Value),l134=0→cs136=([]:List Value).toArray→l134≤c135→
 ∃A137 l138 c139,Sy.slcD 1 (slice A140 l141 c142) (int .i64 0) (int .i64 n129)=some (slice A137 l138 c139)∧
 ∃cs143,Sy.RowC cs143∧(cs143.size=l138*1∧∀(p:Nat) (u:Value),cs143[p]?=some u→Sy.cellAt k116.cell? A137 p=some u)∧
 (cs143.toList:List Value).length=Int.toNat (l138:Nat)*1∧(0:Int)≤(l138:Nat)∧Sy.sizeOk 4 (l134+Int.toNat (l138:Nat))∧∀(_A144:Option Addr) (l145 c146:Nat) (cs147:Array Value),l145=l134+Int.toNat (l138:Nat)→cs147=cs136++(cs143.toList:List Value).toArray→l145≤c146→
 Cl k116 179 #[slice A113 l114 c115,slice A109 l110 c111] fun k149 r150=>∃A151 l152 c153,some (slice A151 l152 c153)=some r150∧
 ∃cs154,Sy.RowC cs154∧(cs154.size=l152*1∧∀(p:Nat) (u:Value),cs154[p]?=some u→Sy.cellAt k149.cell? A151 p=some u)∧
 (cs154.toList:List Value).length=Int.toNat (l152:Nat)*1∧(0:Int)≤(l152:Nat)∧Sy.sizeOk 4 (l145+Int.toNat (l152:Nat))∧∀(A155:Option Addr) (l156 c157:Nat) (cs158:Array Value),l156=l145+Int.toNat (l152:Nat)→cs158=cs147++(cs154.toList:List Value).toArray→l156≤c157→
 ∀k159,Up k149 k159→Sy.RowAt k159 A155 cs158→
 Cl k159 262 #[slice A155 l156 c157] fun k161 r162=>∃A163 l164 c165,some (slice A163 l164 c165)=some r162∧
 ∀k166,Up k161 k166→∃m,m<m167∧I168 m k166 [tuple #[slice A169 l130 c170,agg cs131],slice A163 l164 c165,int .i64 (wrap .i64 (n129-1))]))
theorem aVh 
 (h:Cl k 178 #[slice A0 l0 c0,slice A1 l1 c1] fun k1 r0=>Gi r0 fun n2=>
 Br (decide ((n2:Int)<0)) (Rt R k1 (tuple #[slice none 0 0,slice A0 l0 c0])) (Tt∧(Br (((l1:Nat):Int) == 1) (Ad A1∧((0:Int)≤0∧(0:Int)<(l1:Nat))∧
 ∃n3,Sy.ReadAt k1.cell? A1 (Int.toNat 0*1+0) 1 (int .u32 n3)∧
 Cl k1 268 #[slice A0 l0 c0,int .u32 n3] fun k4 r3=>∃A4 l4 c4,∃n5,some (tuple #[slice A4 l4 c4,int .u32 n5])=some r3∧
 Cl k4 174 #[int .u64 (wrap .u64 n5)] fun k6 r5=>∃A6 l6 c6,some (slice A6 l6 c6)=some r5∧
 Rt R k6 (tuple #[slice A4 l4 c4,slice A6 l6 c6])) (Tt∧(Cl k1 252 #[slice A1 l1 c1] fun k9 r8=>Gi r8 fun n3=>
 Cl k9 227 #[slice A1 l1 c1,int .i64 (wrap .i64 ((wrap .i64 (32*(l1:Nat)))-n3))] fun k11 r10=>∃A4 l4 c4,some (slice A4 l4 c4)=some r10∧
 Cl k11 227 #[slice A0 l0 c0,int .i64 (wrap .i64 ((wrap .i64 (32*(l1:Nat)))-n3))] fun k13 r12=>∃A5 l5 c5,some (slice A5 l5 c5)=some r12∧
 Tt∧(Tt∧((0:Int)≤(wrap .i64 ((wrap .i64 ((l0:Nat)-(l4:Nat)))+2))∧Sy.sizeOk 4 (Int.toNat (wrap .i64 ((wrap .i64 ((l0:Nat)-(l4:Nat)))+2)))∧∀(A6:Option Addr) (l6 c6:Nat) (cs7:Array Value),l6=Int.toNat (wrap .i64 ((wrap .i64 ((l0:Nat)-(l4:Nat)))+2))→cs7=madeCells [int .u32 0].toArray (Int.toNat (wrap .i64 ((wrap .i64 ((l0:Nat)-(l4:Nat)))+2))*1)→l6≤c6→
 Tt∧(∃I14:Nat→World→List Value→Prop,(∃m14,∀k14,Up k13 k14→I14 m14 k14 [tuple #[slice A6 l6 c6,agg cs7],slice A5 l5 c5,int .i64 (wrap .i64 ((l6:Nat)-1))])∧
 ∀m14 k14 vs14,Up k13 k14→I14 m14 k14 vs14→∃A8 l8 c8,∃cs9,Sy.RowC cs9∧∃A10 l10 c10,∃n11,some [tuple #[slice A8 l8 c8,agg cs9],slice A10 l10 c10,int .i64 n11]=some vs14∧
 Br (decide ((n11:Int) ≥ 0)) (∀(A12:Option Addr) (l12 c12:Nat) (cs13:Array Value),l12=0→cs13=([]:List Value).toArray→l12≤c12→
 Tt∧(Br (decide ((n11:Int)<(l10:Nat))) (∃A14 l14 c14,Sy.slcD 1 (slice A10 l10 c10) (int .i64 n11) (int .i64 (l10:Nat))=some (slice A14 l14 c14)∧
 Cl k14 178 #[slice A14 l14 c14,slice A4 l4 c4] fun k16 r15=>Gi r15 fun n15=>
 Br (decide ((n15:Int)<0)) (∀k17,Up k16 k17→∃m,m<m14∧I14 m k17 [tuple #[slice A8 l8 c8,agg cs9],slice A10 l10 c10,int .i64 (wrap .i64 (n11-1))]) (Ad A14∧((0:Int)≤(wrap .i64 ((l4:Nat)-1))∧((wrap .i64 ((l4:Nat)-1)):Int)<(l14:Nat))∧
 ∃n16,Sy.ReadAt k16.cell? A14 (Int.toNat (wrap .i64 ((l4:Nat)-1))*1+0) 1 (int .u32 n16)∧
 Tt∧(Br (decide (((l14:Nat):Int) > (l4:Nat))) (Ad A14∧((0:Int)≤(l4:Nat)∧((l4:Nat):Int)<(l14:Nat))∧
 ∃n17,Sy.ReadAt k16.cell? A14 (Int.toNat (l4:Nat)*1+0) 1 (int .u32 n17)∧
 Ad A4∧((0:Int)≤(wrap .i64 ((l4:Nat)-1))∧((wrap .i64 ((l4:Nat)-1)):Int)<(l4:Nat))∧
 ∃n18,Sy.ReadAt k16.cell? A4 (Int.toNat (wrap .i64 ((l4:Nat)-1))*1+0) 1 (int .u32 n18)∧
 (decide (((wrap .u64 n18):Int)≠0))=true∧
 (Br (decide (((wrap .u64 (Int.tdiv (wrap .u64 (BitVec.toNat (BitVec.ofInt (IntKind.bits .u64) (wrap .u64 n16) ||| BitVec.ofInt (IntKind.bits .u64) (wrap .u64 ((wrap .u64 n17)*2^(min (Int.toNat 32) (IntKind.bits .u64))))))) (wrap .u64 n18))):Int) > 4294967295)) (Cl k16 174 #[int .u64 4294967295] fun k19 r18=>∃A19 l19 c19,some (slice A19 l19 c19)=some r18∧
 Cl k19 176 #[slice A4 l4 c4,slice A19 l19 c19] fun k21 r20=>∃A20 l20 c20,some (slice A20 l20 c20)=some r20∧
 nqT k21 4294967295 A20 l20 c20 A14 l14 c14 A4 l4 c4 n11 l8 cs9 A10 l10 c10 m14 I14 A8 c8) (Cl k16 174 #[int .u64 (wrap .u64 (Int.tdiv (wrap .u64 (BitVec.toNat (BitVec.ofInt (IntKind.bits .u64) (wrap .u64 n16) ||| BitVec.ofInt (IntKind.bits .u64) (wrap .u64 ((wrap .u64 n17)*2^(min (Int.toNat 32) (IntKind.bits .u64))))))) (wrap .u64 n18)))] fun k35 r34=>∃A19 l19 c19,some (slice A19 l19 c19)=some r34∧
 Cl k35 176 #[slice A4 l4 c4,slice A19 l19 c19] fun k37 r36=>∃A20 l20 c20,some (slice A20 l20 c20)=some r36∧
 nqT k37 ((wrap .u64 (Int.tdiv (wrap .u64 (BitVec.toNat (BitVec.ofInt (IntKind.bits .u64) (wrap .u64 n16) ||| BitVec.ofInt (IntKind.bits .u64) (wrap .u64 ((wrap .u64 n17)*2^(min (Int.toNat 32) (IntKind.bits .u64))))))) (wrap .u64 n18)))) A20 l20 c20 A14 l14 c14 A4 l4 c4 n11 l8 cs9 A10 l10 c10 m14 I14 A8 c8))) (Ad A4∧((0:Int)≤(wrap .i64 ((l4:Nat)-1))∧((wrap .i64 ((l4:Nat)-1)):Int)<(l4:Nat))∧
 ∃n17,Sy.ReadAt k16.cell? A4 (Int.toNat (wrap .i64 ((l4:Nat)-1))*1+0) 1 (int .u32 n17)∧
 (decide (((wrap .u64 n17):Int)≠0))=true∧
 (Br (decide (((wrap .u64 (Int.tdiv (wrap .u64 n16) (wrap .u64 n17))):Int) > 4294967295)) (Cl k16 174 #[int .u64 4294967295] fun k51 r50=>∃A18 l18 c18,some (slice A18 l18 c18)=some r50∧
 Cl k51 176 #[slice A4 l4 c4,slice A18 l18 c18] fun k53 r52=>∃A19 l19 c19,some (slice A19 l19 c19)=some r52∧
 nqT k53 4294967295 A19 l19 c19 A14 l14 c14 A4 l4 c4 n11 l8 cs9 A10 l10 c10 m14 I14 A8 c8) (Cl k16 174 #[int .u64 (wrap .u64 (Int.tdiv (wrap .u64 n16) (wrap .u64 n17)))] fun k67 r66=>∃A18 l18 c18,some (slice A18 l18 c18)=some r66∧
 Cl k67 176 #[slice A4 l4 c4,slice A18 l18 c18] fun k69 r68=>∃A19 l19 c19,some (slice A19 l19 c19)=some r68∧
 nqT k69 ((wrap .u64 (Int.tdiv (wrap .u64 n16) (wrap .u64 n17)))) A19 l19 c19 A14 l14 c14 A4 l4 c4 n11 l8 cs9 A10 l10 c10 m14 I14 A8 c8)))))) (∀k82,Up k14 k82→Sy.RowAt k82 A12 cs13→
 Cl k82 178 #[slice A12 l12 c12,slice A4 l4 c4] fun k84 r83=>Gi r83 fun n14=>
 Br (decide ((n14:Int)<0)) (∀k85,Up k84 k85→∃m,m<m14∧I14 m k85 [tuple #[slice A8 l8 c8,agg cs9],slice A10 l10 c10,int .i64 (wrap .i64 (n11-1))]) (Ad A12∧((0:Int)≤(wrap .i64 ((l4:Nat)-1))∧((wrap .i64 ((l4:Nat)-1)):Int)<(l12:Nat))∧
 ∃n15,Sy.ReadAt k84.cell? A12 (Int.toNat (wrap .i64 ((l4:Nat)-1))*1+0) 1 (int .u32 n15)∧
 Tt∧(Br (decide (((l12:Nat):Int) > (l4:Nat))) (Ad A12∧((0:Int)≤(l4:Nat)∧((l4:Nat):Int)<(l12:Nat))∧
 ∃n16,Sy.ReadAt k84.cell? A12 (Int.toNat (l4:Nat)*1+0) 1 (int .u32 n16)∧
 Ad A4∧((0:Int)≤(wrap .i64 ((l4:Nat)-1))∧((wrap .i64 ((l4:Nat)-1)):Int)<(l4:Nat))∧
 ∃n17,Sy.ReadAt k84.cell? A4 (Int.toNat (wrap .i64 ((l4:Nat)-1))*1+0) 1 (int .u32 n17)∧
 (decide (((wrap .u64 n17):Int)≠0))=true∧
 (Br (decide (((wrap .u64 (Int.tdiv (wrap .u64 (BitVec.toNat (BitVec.ofInt (IntKind.bits .u64) (wrap .u64 n15) ||| BitVec.ofInt (IntKind.bits .u64) (wrap .u64 ((wrap .u64 n16)*2^(min (Int.toNat 32) (IntKind.bits .u64))))))) (wrap .u64 n17))):Int) > 4294967295)) (Cl k84 174 #[int .u64 4294967295] fun k87 r86=>∃A18 l18 c18,some (slice A18 l18 c18)=some r86∧
 Cl k87 176 #[slice A4 l4 c4,slice A18 l18 c18] fun k89 r88=>∃A19 l19 c19,some (slice A19 l19 c19)=some r88∧
 nqT k89 4294967295 A19 l19 c19 A12 l12 c12 A4 l4 c4 n11 l8 cs9 A10 l10 c10 m14 I14 A8 c8) (Cl k84 174 #[int .u64 (wrap .u64 (Int.tdiv (wrap .u64 (BitVec.toNat (BitVec.ofInt (IntKind.bits .u64) (wrap .u64 n15) ||| BitVec.ofInt (IntKind.bits .u64) (wrap .u64 ((wrap .u64 n16)*2^(min (Int.toNat 32) (IntKind.bits .u64))))))) (wrap .u64 n17)))] fun k103 r102=>∃A18 l18 c18,some (slice A18 l18 c18)=some r102∧
 Cl k103 176 #[slice A4 l4 c4,slice A18 l18 c18] fun k105 r104=>∃A19 l19 c19,some (slice A19 l19 c19)=some r104∧
 nqT k105 ((wrap .u64 (Int.tdiv (wrap .u64 (BitVec.toNat (BitVec.ofInt (IntKind.bits .u64) (wrap .u64 n15) ||| BitVec.ofInt (IntKind.bits .u64) (wrap .u64 ((wrap .u64 n16)*2^(min (Int.toNat 32) (IntKind.bits .u64))))))) (wrap .u64 n17)))) A19 l19 c19 A12 l12 c12 A4 l4 c4 n11 l8 cs9 A10 l10 c10 m14 I14 A8 c8))) (Ad A4∧((0:Int)≤(wrap .i64 ((l4:Nat)-1))∧((wrap .i64 ((l4:Nat)-1)):Int)<(l4:Nat))∧
 ∃n16,Sy.ReadAt k84.cell? A4 (Int.toNat (wrap .i64 ((l4:Nat)-1))*1+0) 1 (int .u32 n16)∧
 (decide (((wrap .u64 n16):Int)≠0))=true∧
 (Br (decide (((wrap .u64 (Int.tdiv (wrap .u64 n15) (wrap .u64 n16))):Int) > 4294967295)) (Cl k84 174 #[int .u64 4294967295] fun k119 r118=>∃A17 l17 c17,some (slice A17 l17 c17)=some r118∧
 Cl k119 176 #[slice A4 l4 c4,slice A17 l17 c17] fun k121 r120=>∃A18 l18 c18,some (slice A18 l18 c18)=some r120∧
 nqT k121 4294967295 A18 l18 c18 A12 l12 c12 A4 l4 c4 n11 l8 cs9 A10 l10 c10 m14 I14 A8 c8) (Cl k84 174 #[int .u64 (wrap .u64 (Int.tdiv (wrap .u64 n15) (wrap .u64 n16)))] fun k135 r134=>∃A17 l17 c17,some (slice A17 l17 c17)=some r134∧
 Cl k135 176 #[slice A4 l4 c4,slice A17 l17 c17] fun k137 r136=>∃A18 l18 c18,some (slice A18 l18 c18)=some r136∧
 nqT k137 ((wrap .u64 (Int.tdiv (wrap .u64 n15) (wrap .u64 n16)))) A18 l18 c18 A12 l12 c12 A4 l4 c4 n11 l8 cs9 A10 l10 c10 m14 I14 A8 c8)))))))) (∀k150,Up k14 k150→Sy.RowAt k150 A8 cs9→
 Cl k150 262 #[slice A8 l8 c8] fun k152 r151=>∃A12 l12 c12,some (slice A12 l12 c12)=some r151∧
 Cl k152 314 #[slice A10 l10 c10,int .i64 (wrap .i64 ((wrap .i64 (32*(l1:Nat)))-n3))] fun k154 r153=>∃A13 l13 c13,some (slice A13 l13 c13)=some r153∧
 Rt R k154 (tuple #[slice A12 l12 c12,slice A13 l13 c13])))))))))) :
  CallsG Tryz.prog 261 #[slice A0 l0 c0,slice A1 l1 c1] k R:=
  qY { opq:=[],loops:=[(0,[.rw 12 64 1,.tmp 10 false [.slice],.tmp 13 false [.int .i64]]),(2,[.tmp 16 false [.int .u64],.tmp 17 false [.slice]])] } h
theorem aBi 
 (h:∃I0:Nat→World→List Value→Prop,(∃m0,∀k0,Up k k0→I0 m0 k0 [slice A0 l0 c0,slice A1 l1 c1])∧
 ∀m0 k0 vs0,Up k k0→I0 m0 k0 vs0→∃A2 l2 c2,∃A3 l3 c3,some [slice A2 l2 c2,slice A3 l3 c3]=some vs0∧
 Tt∧(Br (decide (((l3:Nat):Int) > 0)) (Cl k0 261 #[slice A2 l2 c2,slice A3 l3 c3] fun k2 r1=>∃A4 l4 c4,∃A5 l5 c5,some (tuple #[slice A4 l4 c4,slice A5 l5 c5])=some r1∧
 ∀k3,Up k2 k3→∃m,m<m0∧I0 m k3 [slice A3 l3 c3,slice A5 l5 c5]) (Rt R k0 (slice A2 l2 c2)))) :
  CallsG Tryz.prog 260 #[slice A0 l0 c0,slice A1 l1 c1] k R:=
  qY { opq:=[],loops:=[(0,[.tmp 0 false [.slice],.tmp 1 false [.slice]])] } h
theorem aEo 
 (h:∃I0:Nat→World→List Value→Prop,(∃m0,∀k0,Up k k0→I0 m0 k0 [slice A0 l0 c0,Value.string ⟨#[]⟩])∧
 ∀m0 k0 vs0,Up k k0→I0 m0 k0 vs0→∃A1 l1 c1,∃s2,some [slice A1 l1 c1,Value.string s2]=some vs0∧
 Tt∧(Br (decide (((l1:Nat):Int) > 0)) (Cl k0 268 #[slice A1 l1 c1,int .u32 1000000000] fun k2 r1=>∃A3 l3 c3,∃n4,some (tuple #[slice A3 l3 c3,int .u32 n4])=some r1∧
 ∃I3:Nat→World→List Value→Prop,(∃m3,∀k3,Up k2 k3→I3 m3 k3 [Value.string s2,int .u32 n4,int .i64 0])∧
 ∀m3 k3 vs3,Up k2 k3→I3 m3 k3 vs3→∃s5,∃n6,∃n7,some [Value.string s5,int .u32 n6,int .i64 n7]=some vs3∧
 Br (decide ((n7:Int)<9)) (Tt∧(Br (decide (((l3:Nat):Int) > 0)) ((decide ((0:Int)≤(Int.tmod n6 10)))=true∧
 ((decide (((Int.tmod n6 10):Int)≤(wrap .u32 ((Int.tmod n6 10)+1))))=true∧
 ((decide (((wrap .u32 ((Int.tmod n6 10)+1)):Int)≤10))=true∧
 ((decide (((ByteArray.size (ByteArray.extract ⟨#[48,49,50,51,52,53,54,55,56,57]⟩ (Int.toNat (Int.tmod n6 10)) (Int.toNat (wrap .u32 ((Int.tmod n6 10)+1))))+ByteArray.size s5:Nat):Int)≤9223372036854775807))=true∧
 (∀k4,Up k3 k4→∃m,m<m3∧I3 m k4 [Value.string ((ByteArray.extract ⟨#[48,49,50,51,52,53,54,55,56,57]⟩ (Int.toNat (Int.tmod n6 10)) (Int.toNat (wrap .u32 ((Int.tmod n6 10)+1))))++s5),int .u32 (wrap .u32 (Int.tdiv n6 10)),int .i64 (wrap .i64 (n7+1))]))))) (Br (decide ((n6:Int) > 0)) ((decide ((0:Int)≤(Int.tmod n6 10)))=true∧
 ((decide (((Int.tmod n6 10):Int)≤(wrap .u32 ((Int.tmod n6 10)+1))))=true∧
 ((decide (((wrap .u32 ((Int.tmod n6 10)+1)):Int)≤10))=true∧
 ((decide (((ByteArray.size (ByteArray.extract ⟨#[48,49,50,51,52,53,54,55,56,57]⟩ (Int.toNat (Int.tmod n6 10)) (Int.toNat (wrap .u32 ((Int.tmod n6 10)+1))))+ByteArray.size s5:Nat):Int)≤9223372036854775807))=true∧
 (∀k5,Up k3 k5→∃m,m<m3∧I3 m k5 [Value.string ((ByteArray.extract ⟨#[48,49,50,51,52,53,54,55,56,57]⟩ (Int.toNat (Int.tmod n6 10)) (Int.toNat (wrap .u32 ((Int.tmod n6 10)+1))))++s5),int .u32 (wrap .u32 (Int.tdiv n6 10)),int .i64 (wrap .i64 (n7+1))]))))) (∀k6,Up k3 k6→∃m,m<m0∧I0 m k6 [slice A3 l3 c3,Value.string s5])))) (∀k7,Up k3 k7→∃m,m<m0∧I0 m k7 [slice A3 l3 c3,Value.string s5])) (Br (ByteArray.toList s2 == ByteArray.toList ⟨#[]⟩) (Rt R k0 (Value.string ⟨#[48]⟩)) (Rt R k0 (Value.string s2))))) :
   CallsG Tryz.prog 184 #[slice A0 l0 c0] k R:=
  qY { opq:=[],loops:=[(0,[.tmp 0 false [.slice],.tmp 3 false [.str]]),(2,[.tmp 3 false [.str],.tmp 5 false [.int .u32],.tmp 6 false [.int .i64]])] } h
end Go.Proofs.YtifcjpacobpdmaaGreat

namespace Go.Proofs.YtifcjpacobpdmaaGreat.W32
open IntKind (wrap)
open Go.RowKit Num
open Sy (Up Sees CallsG cellAt ReadAt ReadIn RowAt RowC sizeOk)
def B:Nat:=4294967296
theorem aX:0<B:=oz
theorem sS:B=2^32:=rfl
def wq (m i:Nat):Nat:=wd B m i
theorem bD (n i:Nat):wq n i<4294967296:=qy _ oz
def nw (m:Nat):Nat:=nwk 32 m
theorem bC (m:Nat):Len B m (nw m):=by rw [sS];exact aHq (k:=32) oz m
theorem iQ {m k:Nat}(h:Len B m k):nw m=k:=(bC m).unique aX h
theorem nw_zero:nw 0=0:=iQ Len.nil
theorem aZ {m:Nat}:nw m=0↔m=0:=(bC m).zero_iff aX
theorem aI {m n:Nat}(h:m<B^n):nw m≤n:=by
 refine zv fun hlt=>?_;have h1:=(bC m).le oq;have:=oc aX (show n≤nw m-1 by omega);omega
theorem cS (m:Nat):m<B^nw m:=(bC m).lt
theorem aW {a b:Nat}(h:a≤b):nw a≤nw b:=aI (qe h (cS b))
def row (m n:Nat):Array Value:=((List.range n).map fun i=>Value.int .u32 (wq m i)).toArray
theorem uS (m n:Nat):(row m n).size=n:=by simp [row]
theorem aHy (m:Nat) {n i:Nat}(h:i<n):(row m n)[i]?=some (.int .u32 (wq m i)):=by simp [row,h]
theorem aQq (m n:Nat):row m n++#[Value.int .u32 (wq m n)]=row m (n+1):=by
 unfold row;rw [List.range_succ,List.map_append];simp
theorem jK (m n:Nat):RowC (row m n):=by
 intro u hu;unfold row at hu;simp only [ki]at hu;obtain⟨_,_,rfl⟩:=hu;exact⟨rfl,rfl⟩
structure RowN (k:World) (A:Option Addr) (n c m:Nat):Prop where
 lt:m<B^n
 cap:n≤c
 at_:∀p,p<n→cellAt k.cell? A p=some (.int .u32 (wq m p))
def NatN (k:World) (A:Option Addr) (n c m:Nat):Prop:=RowN k A n c m∧n=nw m
section
variable {k k':World}{A A':Option Addr}{n c m n' c' m':Nat}{R:World→Value→Prop}
theorem aGu {p:Nat}{v:Value}(h:cellAt k.cell? A p=some v) (hu:Up k k'):cellAt k'.cell? A p=some v:=Sy.cellAt_le (fun _ _ e=>hu.cell e) h
theorem RowN.up (h:RowN k A n c m) (hu:Up k k'):RowN k' A n c m:=⟨h.lt,h.cap,fun p hp=>aGu (h.at_ p hp) hu⟩
theorem NatN.up (h:NatN k A n c m) (hu:Up k k'):NatN k' A n c m:=⟨h.1.up hu,h.2⟩
theorem RowN.addr (h:RowN k A n c m) {p:Nat}(hp:p<n):∃b o,A=some ⟨b,o,none⟩:=by
 have:=h.at_ p hp;unfold cellAt at this;split at this
 ·exact⟨_,_,rfl⟩
 ·cases this
theorem aFk {mem:Addr→Option Value}{p q:Nat}{v:Value}(hv:v.cells=#[v]) (h:cellAt mem A p=some v) (hq:q=p):ReadAt mem A q 1 v:=by
 subst hq;refine⟨by rw [hv];rfl,fun j u hu=>?_⟩;rw [hv]at hu;cases j with
 | zero=>simp at hu;subst hu;exact h
 | succ j=>simp at hu
theorem RowN.read (h:RowN k A n c m) {p q:Nat}(hp:p<n) (hq:q=p):ReadAt k.cell? A q 1 (.int .u32 (wq m p)):=aFk rfl (h.at_ p hp) hq
theorem RowN.of_row (h:RowAt k A (row m n)) (hlt:m<B^n) (hc:n≤c):RowN k A n c m:=
 ⟨hlt,hc,fun p hp=>by
   obtain⟨b,rfl,_,h3⟩:=h p _ (aHy m hp);unfold cellAt;simp only [jx,h3]
   rfl⟩
theorem w64 {x:Int}(h0:-9223372036854775808≤x) (h1:x≤9223372036854775807):wrap .i64 x=x:=by rw [qt];omega
theorem wu64 {x:Int}(h0:0≤x) (h1:x<18446744073709551616):wrap .u64 x=x:=by rw [IntKind.wrap_u64];omega
theorem wu32 (x:Int):wrap .u32 x=x % 4294967296:=by rw [IntKind.wrap_u32]
theorem aCw {s:Nat}{kk kk':IntKind}{hi:Int}(h0:0≤hi) (h1:hi≤c):Sy.slcD s (.slice A n c) (.int kk 0) (.int kk' hi)=some (.slice A hi.toNat c):=by
 unfold Sy.slcD;dsimp only;rw [od ⟨Int.le_refl _,h0,h1⟩];have e:(A.map fun a=>a.add (Int.toNat 0*s))=A:=by
  cases A with
  | none=>rfl
  | some a=>simp [Addr.add]
 rw [e];split <;> simp
theorem qT (h:RowN k A n c m) (hn:n≤1099511627776) (C:∀k',Up k k'→NatN k' A (nw m) c m→R k' (.slice A (nw m) c)):Cl k 262 #[.slice A n c] R:=by
 intro k0 u0;replace h:=h.up u0;replace C:=fun k' u=>C k' (u0.trans u);refine aVd ⟨rfl,fun j k1 vs=>j≤n∧m<B^j∧vs=[.int .i64 (j:Int)],⟨n,fun k1 u1=>⟨oy _,h.lt,rfl⟩⟩,?_⟩;rintro j k1 vs u1 ⟨hj,hm,rfl⟩;replace h:=h.up u1;replace C:=fun k' u=>C k' (u1.trans u);have fin:∀ {j:Nat},j=nw m→∃A3 l3 c3,Sy.slcD 1 (Value.slice A n c) (Value.int .i64 0) (Value.int .i64 (j:Int))=some (Value.slice A3 l3 c3)∧∀k2,Up k1 k2→R k2 (Value.slice A3 l3 c3):=by
  rintro j rfl;have hle:nw m≤n:=aI h.lt;refine⟨_,_,_,aCw oq (by have:=h.cap;omega),fun k2 u2=>?_⟩;rw [qj];exact C k2 u2 ⟨⟨cS m,by have:=h.cap;omega,fun p hp=>aGu (h.at_ p oq) u2⟩,rfl⟩
 refine⟨(j:Int),rfl,fun hp=>?_,fun hp=>?_⟩
 ·have hp:0<j:=by have:=ow hp;omega
  have e:wrap .i64 ((j:Int)-1)=((j-1:Nat):Int):=by rw [w64 oq oq];omega
  rw [e];refine⟨h.addr (p:=0) oq,⟨oq,oq⟩,_,h.read (p:=j-1) oq oq,fun hz=>?_,fun hz=>?_⟩
  ·intro k2 u2;refine⟨j-1,oq,oq,?_,rfl⟩;have hz:wq m (j-1)=0:=by have:=eq_of_beq hz;omega
   exact wJ aX (by rw [xc hp];exact hm) hz
  ·refine fin (iQ (Len.of_top hm fun _=>?_)).symm;intro e0;have:wq m (j-1)=0:=e0;rw [this]at hz;cases hz
 ·have hp:j=0:=by have:=ov hp;omega
  subst hp;exact fin (iQ (Len.of_top hm fun h=>absurd h oq)).symm
theorem uC {x:Nat}(hx:x<18446744073709551616) (C:∀k' A c,Up k k'→NatN k' A (nw x) c x→R k' (.slice A (nw x) c)):Cl k 174 #[.int .u64 (x:Int)] R:=by
 intro k0 u0;refine aVg fun p k1 u1 hb=>?_;have e0:wrap .u32 (x:Int)=(wq x 0:Int):=by rw [wu32];unfold wq wd B;simp
 have e1:wrap .u32 (Int.fdiv (x:Int) (2^(min (Int.toNat 32) (IntKind.bits .u64))))=(wq x 1:Int):=by
  have:(2:Int)^(min (Int.toNat 32) (IntKind.bits .u64))=4294967296:=oz
  rw [this,wu32,vm _ oz];unfold wq wd B;omega
 rw [e0,e1]at hb
 have hrow:RowN k1 (some ⟨p,0,none⟩) 2 2 x:=⟨by unfold B;omega,oy _,fun q hq=>by
  unfold cellAt;simp only [jx,hb.cell];rcases q with _|_|q
  ·rfl
  ·rfl
  ·omega⟩
 refine qT hrow oq fun k2 u2 hN=>?_;exact⟨_,_,_,rfl,fun k3 u3=>C k3 _ _ (((u0.trans u1).trans u2).trans u3) (hN.up u3)⟩
end
section
variable {k k':World}{A A':Option Addr}{n c m n' c' m' a b:Nat}{R:World→Value→Prop}
def ord (a b:Nat):Int:=if a<b then -1 else if b<a then 1 else 0
theorem oP (h:NatN k A n c a) (h':NatN k A' n' c' b) (hn:n≤1099511627776) (hn':n'≤1099511627776) (C:∀k',Up k k'→R k' (.int .i64 (ord a b))):Cl k 178 #[.slice A n c,.slice A' n' c'] R:=by
 intro k0 u0;replace h:=h.up u0;replace h':=h'.up u0;replace C:=fun k' u=>C k' (u0.trans u);have hla:Len B a n:=by rw [h.2];exact bC a
 have hlb:Len B b n':=by rw [h'.2];exact bC b
 refine aKf ⟨rfl,rfl,fun hlt=>?_,fun hlt=>⟨rfl,rfl,fun hgt=>?_,fun hgt=>⟨rfl,fun j k1 vs=>vs=[.int .i64 ((j:Int)-1)]∧j≤n∧a/B^j=b/B^j,⟨n,fun k1 u1=>?_⟩,?_⟩⟩⟩
 ·intro k1 u1;have hlt:=ow hlt;have:a<b:=hla.lt_of aX hlb oq;have e:ord a b=-1:=by unfold ord;rw [od this]
  rw [←e];exact C k1 u1
 ·intro k1 u1;have hgt:=ow hgt;have:b<a:=hlb.lt_of aX hla oq;have e:ord a b=1:=by unfold ord;rw [oh oq,od this]
  rw [←e];exact C k1 u1
 ·have hlt:=ov hlt;have hgt:=ov hgt;have hnn:n'=n:=oq
  refine⟨by rw [w64 oq oq],oy _,?_⟩;rw [qs h.1.lt,qs (by rw [←hnn];exact h'.1.lt)]
 ·have hlt:=ov hlt;have hgt:=ov hgt;have hnn:n'=n:=oq
  subst hnn;rintro j k1 vs u1 ⟨rfl,hj,he⟩;replace h:=h.up u1;replace h':=h'.up u1;replace C:=fun k' u=>C k' (u1.trans u);refine⟨(j:Int)-1,rfl,fun hp=>?_,fun hp=>?_⟩
  ·have hp:=ow hp;have e0:((j:Int)-1).toNat=j-1:=oq
   have hj1:j-1+1=j:=oq
   refine⟨h.1.addr (p:=0) oq,⟨oq,oq⟩,_,h.1.read (p:=j-1) oq oq,h'.1.addr (p:=0) oq,⟨oq,oq⟩,_,h'.1.read (p:=j-1) oq oq,fun h1=>?_,fun h1=>?_⟩
   ·intro k2 u2;have h1:=ow h1;have:a<b:=xU (b:=B) (i:=j-1) (by rw [hj1];exact he) (by unfold wq at h1;omega);have e:ord a b=-1:=by unfold ord;rw [od this]
    rw [←e];exact C k2 u2
   ·have h1:=ov h1;refine⟨h.1.addr (p:=0) oq,⟨oq,oq⟩,_,h.1.read (p:=j-1) oq oq,h'.1.addr (p:=0) oq,⟨oq,oq⟩,_,h'.1.read (p:=j-1) oq oq,fun h2=>?_,fun h2=>?_⟩
    ·intro k2 u2;have h2:=ow h2;have:b<a:=xU (b:=B) (i:=j-1) (by rw [hj1];exact he.symm) (by unfold wq at h2;omega);have e:ord a b=1:=by unfold ord;rw [oh oq,od this]
     rw [←e];exact C k2 u2
    ·have h2:=ov h2;intro k2 u2;refine⟨j-1,oq,?_,oq,?_⟩
     ·rw [w64 oq oq];have:((j-1:Nat):Int)=(j:Int)-1:=oq
      rw [this]
     ·exact mZ (b:=B) (by rw [hj1];exact he) (by unfold wq at h1 h2;omega)
  ·have hp:=ov hp;have:j=0:=oq
   subst this;have hab:a=b:=by simpa using he
   intro k2 u2;have e:ord a b=0:=by unfold ord;rw [oh oq,oh oq]
   rw [←e];exact C k2 u2
theorem oX {s i:Nat}{cs':Array Value}{v:Int}(hv:v=(wq s i:Int)) (hcs:cs'=row s i++([Value.int .u32 v]:List Value).toArray):cs'=row s (i+1):=by
 rw [hcs,hv,←aQq]
theorem pU {p:Nat}(h:RowN k A n c a) (hp:n≤p):wq a p=0:=rU aX h.lt hp
end
def dM (f:Nat→Nat) (n:Nat):Array Value:=((List.range n).map fun i=>Value.int .u32 (f i)).toArray
theorem xC (f:Nat→Nat) (n:Nat):(dM f n).size=n:=by simp [dM]
theorem dW (f:Nat→Nat) (n i:Nat):(dM f n)[i]?=if i<n then some (.int .u32 (f i)) else none:=by
 unfold dM
 by_cases h:i<n <;> simp [h]
theorem qE (f:Nat→Nat) (n:Nat):RowC (dM f n):=by
 intro u hu;unfold dM at hu;simp only [ki]at hu;obtain⟨_,_,rfl⟩:=hu;exact⟨rfl,rfl⟩
theorem bM {f g:Nat→Nat}{n:Nat}(h:∀i,i<n→f i=g i):dM f n=dM g n:=by
 unfold dM;congr 1;apply List.map_congr_left;intro i hi;rw [h i (by simpa using hi)]
theorem fD (m n:Nat):row m n=dM (wq m) n:=rfl
theorem oZ (f:Nat→Nat) (n i x:Nat):(dM f n).setIfInBounds i (.int .u32 x)=dM (fun j=>if j=i then x else f j) n:=by
 apply vr;intro j;rw [qc,dW,dW,xC]
 by_cases e:i=j
 ·subst e;simp
 ·simp [e,Ne.symm e]
theorem lY (n:Nat):madeCells #[.int .u32 0] n=dM (fun _=>0) n:=by
 apply Array.toList_inj.1;rw [toList_madeCells_one];simp [dM,List.map_const']
theorem aLq (f:Nat→Nat) {n p q:Nat}(hp:p<n) (hq:q=p):ReadIn (dM f n) q 1 (.int .u32 (f p)):=by
 subst hq;refine⟨rfl,fun j u hu=>?_⟩;cases j with
 | zero=>
  have hu:#[Value.int .u32 (f q)][0]?=some u:=hu;have:u=.int .u32 (f q):=by simpa using hu.symm
  rw [this,jl,dW,od hp]
 | succ j=>
  have hu:#[Value.int .u32 (f q)][j+1]?=some u:=hu;simp at hu
theorem oR (cs:Array Value) (p:Nat) (v:Value):Sy.over cs p [v]=cs.setIfInBounds p v:=rfl
theorem mod32 (x:Nat):wrap .u32 ((x:Nat):Int)=((x % B:Nat):Int):=by rw [wu32];unfold B;omega
theorem div32 (x:Nat):Int.fdiv ((x:Nat):Int) (2^(min (Int.toNat 32) (IntKind.bits .u64)))=((x/B:Nat):Int):=by
 have:(2:Int)^(min (Int.toNat 32) (IntKind.bits .u64))=4294967296:=oz
 rw [this,vm _ oz];unfold B;omega
theorem u64n {x:Nat}(h:x<18446744073709551616):wrap .u64 ((x:Nat):Int)=((x:Nat):Int):=wu64 oq oq
section
variable {k k':World}{A A':Option Addr}{n c m n' c' m' a b:Nat}{R:World→Value→Prop}
def mixw (a b i t:Nat):Nat→Nat:=fun j=>if j<t then wq (mrow B a b (i+1)) j else wq (mrow B a b i) j
theorem qB {K:Nat}(h:RowN k A n c a) (h':RowN k A' n' c' b) (hn:n≤K) (hn':n'≤K) (hK:K≤68719476736) (C:∀k' A c,Up k k'→NatN k' A (nw (a*b)) c (a*b)→nw (a*b)≤n+n'→R k' (.slice A (nw (a*b)) c)) :
 Cl k 176 #[.slice A n c,.slice A' n' c'] R:=by
 intro k0 u0;replace h:=h.up u0;replace h':=h'.up u0;replace C:=fun k' A c u=>C k' A c (u0.trans u);have hBv:B=4294967296:=rfl;have eN:wrap .i64 ((n:Nat)+(n':Nat))=((n+n':Nat):Int):=by rw [w64 oq oq];omega
 refine aPe ⟨rfl,rfl,?_⟩;rw [eN,qj,jj];refine⟨oq,⟨oq,oq⟩,fun A2 l2 c2 cs3 hl2 hcs3 hlc2=>?_⟩;refine⟨fun j k1 vs=>∃i A l c,vs=[.tuple #[.slice A l c,.agg (row (mrow B a b i) (n+n'))],.int .i64 (i:Nat)]∧l=n+n'∧l≤c∧i≤n∧j+i=n,⟨n,fun k1 u1=>⟨0,A2,l2,c2,?_,hl2,hlc2,oq,oq⟩⟩,?_⟩
 ·rw [hcs3];have e:madeCells [Value.int .u32 0].toArray (n+n')=row (mrow B a b 0) (n+n'):=by
   have:=lY (n+n');rw [fD];refine this.trans (bM fun i _=>?_);have e0:mrow B a b 0=0:=by unfold mrow;rw [zy,yq,je]
   rw [e0];simp [wq,wd]
  rw [e];rfl
 rintro j k1 vs u1 ⟨i,A4,l4,c4,rfl,hl4,hlc,hi,hj⟩;replace h:=h.up u1;replace h':=h'.up u1;replace C:=fun k' A c u=>C k' A c (u1.trans u);refine⟨A4,l4,c4,_,jK _ _,_,rfl,rfl,fun hlt=>?_,fun hge=>?_⟩
 ·have hlt:i<n:=by have:=ow hlt;omega
  refine⟨fun j' k2 vs=>∃t A l c,vs=[.tuple #[.slice A l c,.agg (dM (mixw a b i (i+t)) (n+n'))],.int .u64 (mcar B a b i t:Nat),.int .i64 (t:Nat)]∧l=n+n'∧l≤c∧t≤n'∧j'+t=n',⟨n',fun k2 u2=>⟨0,A4,l4,c4,?_,hl4,hlc,oq,oq⟩⟩,?_⟩
  ·rw [wL];have e:row (mrow B a b i) (n+n')=dM (mixw a b i (i+0)) (n+n'):=by
    rw [fD];refine bM fun p _=>?_;unfold mixw;split
    ·unfold wq;rw [aBh aX a b oq]
    ·rfl
   rw [e];rfl
  rintro j' k2 vs u2 ⟨t,A7,l7,c7,rfl,hl7,hlc7,ht,hjt⟩;replace h:=h.up u2;replace h':=h'.up u2;replace C:=fun k' A c u=>C k' A c (u2.trans u);refine⟨A7,l7,c7,_,qE _ _,_,_,rfl,rfl,fun hlt2=>?_,fun hge2=>?_⟩
  ·have hlt2:t<n':=by have:=ow hlt2;omega
   have es:wrap .i64 (((i:Nat):Int)+((t:Nat):Int))=((i+t:Nat):Int):=by rw [w64 oq oq];omega
   have hget:mixw a b i (i+t) (i+t)=wq (mrow B a b i) (i+t):=by unfold mixw;rw [oh oq]
   have hrd:=aLq (mixw a b i (i+t)) (n:=n+n') (p:=i+t) (q:=Int.toNat ((i+t:Nat):Int)*1+0) oq (by rw [qj];omega);rw [hget]at hrd;have hx:=bD a i;have hy:=bD b t;have hz:=bD (mrow B a b i) (i+t);have hc:=yI aX a b i t;have hp:wq a i*wq b t≤4294967295*4294967295:=vo oq oq;have hs:=wK aX a b i t;have e1:wrap .u64 (wrap .u64 ((wq a i:Nat):Int)*wrap .u64 ((wq b t:Nat):Int))=((wq a i*wq b t:Nat):Int):=by
    rw [u64n oq,u64n oq,←vk,u64n oq]
   have e2:wrap .u64 (((mcar B a b i t:Nat):Int)+((wq a i*wq b t:Nat):Int))=((mcar B a b i t+wq a i*wq b t:Nat):Int):=by rw [←kw,u64n oq]
   have e3:wrap .u64 (((mcar B a b i t+wq a i*wq b t:Nat):Int)+wrap .u64 ((wq (mrow B a b i) (i+t):Nat):Int))=((wq (mrow B a b i) (i+t)+wq a i*wq b t+mcar B a b i t:Nat):Int):=by
    rw [u64n (x:=wq (mrow B a b i) (i+t)) oq,←kw,u64n oq]
    congr 1;omega
   refine⟨h.addr hlt,⟨oq,oq⟩,_,h.read (p:=i) hlt (by rw [qj];omega),h'.addr hlt2,⟨oq,oq⟩,_,h'.read (p:=t) hlt2 (by rw [qj];omega),?_⟩;rw [es];have hin:(decide ((0:Int)≤((i+t:Nat):Int)∧((i+t:Nat):Int)<(l7:Nat)))=true:=decide_eq_true ⟨oq,oq⟩;refine⟨hin,_,hrd,hin,⟨oq,oq⟩,fun cs14 hcs k3 u3=>?_⟩;rw [e1,e2,e3]at hcs ⊢;refine⟨j'-1,oq,t+1,A7,l7,c7,?_,hl7,hlc7,oq,oq⟩;rw [oR,mod32,qj,oZ]at hcs;have eg:cs14=dM (mixw a b i (i+(t+1))) (n+n'):=by
    rw [hcs];refine bM fun p _=>?_;unfold mixw
    by_cases hpe:p=(i+t)*1+0
    ·rw [od hpe,od oq,hpe,jj,jl];exact hs.1.symm
    ·rw [oh hpe]
     by_cases hpl:p<i+t
     ·rw [od hpl,od oq]
     ·rw [oh hpl,oh oq]
   have ec:((wq (mrow B a b i) (i+t)+wq a i*wq b t+mcar B a b i t) / B:Nat)=mcar B a b i (t+1):=hs.2.symm;have et:wrap .i64 (((t:Nat):Int)+1)=((t+1:Nat):Int):=by rw [w64 oq oq];omega
   rw [eg,div32,ec,et]
  ·have hge2:t=n':=by have:=ov hge2;omega
   subst hge2;have es:wrap .i64 (((i:Nat):Int)+((t:Nat):Int))=((i+t:Nat):Int):=by rw [w64 oq oq];omega
   rw [es];have hin:(decide ((0:Int)≤((i+t:Nat):Int)∧((i+t:Nat):Int)<(l7:Nat)))=true:=decide_eq_true ⟨oq,oq⟩;refine⟨rfl,hin,⟨oq,oq⟩,fun cs11 hcs k3 u3=>?_⟩;refine⟨j-1,oq,i+1,A7,l7,c7,?_,hl7,hlc7,oq,oq⟩;rw [oR,mod32,qj,oZ]at hcs;have hend:=aBg aX (a:=a) (i:=i) h'.lt;have eg:cs11=row (mrow B a b (i+1)) (n+t):=by
    rw [hcs,fD];refine bM fun p _=>?_
    by_cases hpe:p=(i+t)*1+0
    ·rw [od hpe,hpe,jj,jl,hend];exact qz (bD _ _)
    ·rw [oh hpe];unfold mixw
     by_cases hpl:p<i+t
     ·rw [od hpl]
     ·rw [oh hpl];exact rA aX h'.lt oq
   have et:wrap .i64 (((i:Nat):Int)+1)=((i+1:Nat):Int):=by rw [w64 oq oq];omega
   rw [eg,et]
 ·have hge:i=n:=by have:=ov hge;omega
  subst hge;intro k3 u3 hrow;have em:mrow B a b i=a*b:=by unfold mrow;rw [qz h.lt]
  rw [em]at hrow;have hlt:a*b<B^(i+n'):=by rw [←em];exact sI aX h'.lt
  subst hl4;have hR:=RowN.of_row hrow hlt hlc;refine qT hR oq fun k4 u4 hN=>⟨_,_,_,rfl,fun k5 u5=>C k5 _ _ ((u3.trans u4).trans u5) (hN.up u5) ?_⟩;have:=aI hlt;omega
end
theorem or32 {r x:Nat}(hr:r<4294967296) (hx:x<4294967296):BitVec.toNat (BitVec.ofInt (IntKind.bits .u64) ((r*4294967296:Nat):Int) ||| BitVec.ofInt (IntKind.bits .u64) ((x:Nat):Int))=r*4294967296+x:=by
 have eb:IntKind.bits .u64=64:=rfl;rw [eb,BitVec.ofInt_natCast,BitVec.ofInt_natCast,BitVec.toNat_or,BitVec.toNat_ofNat,BitVec.toNat_ofNat,qz oq,qz oq];have:=Nat.shiftLeft_add_eq_or_of_lt (a:=r) (i:=32) (b:=x) oq;rw [zf]at this;exact this.symm
section
variable {k k':World}{A A':Option Addr}{n c m n' c' m' a b:Nat}{R:World→Value→Prop}
def fromw (x i:Nat):Nat→Nat:=fun p=>if i≤p then wq x p else 0
theorem aAg {d:Nat}(h:RowN k A n c a) (hn:n≤137438953472) (hd0:0<d) (hd:d<4294967296) (C:∀k' A c,Up k k'→NatN k' A (nw (a/d)) c (a/d)→R k' (.tuple #[.slice A (nw (a/d)) c,.int .u32 ((a % d:Nat):Int)])) :
 Cl k 268 #[.slice A n c,.int .u32 ((d:Nat):Int)] R:=by
 intro k0 u0;replace h:=h.up u0;replace C:=fun k' A c u=>C k' A c (u0.trans u);have hBv:B=4294967296:=rfl;refine aEn ⟨rfl,?_⟩;rw [qj,jj];refine⟨oq,⟨oq,oq⟩,fun A2 l2 c2 cs3 hl2 hcs3 hlc2=>⟨rfl,?_⟩⟩;refine⟨fun j k1 vs=>∃A l c,vs=[.tuple #[.slice A l c,.agg (dM (fromw (a/d) j) n)],.int .u64 ((a/B^j % d:Nat):Int),.int .i64 (((j:Nat):Int)-1)]∧l=n∧l≤c∧j≤n,⟨n,fun k1 u1=>⟨A2,l2,c2,?_,hl2,hlc2,oy _⟩⟩,?_⟩
 ·have e:cs3=dM (fromw (a/d) n) n:=by
   rw [hcs3];refine (lY n).trans (bM fun i hi=>?_);unfold fromw;rw [oh oq]
  rw [e,w64 oq oq,qs h.lt,Nat.zero_mod];rfl
 rintro j k1 vs u1 ⟨A4,l4,c4,rfl,hl4,hlc,hj⟩;replace h:=h.up u1;replace C:=fun k' A c u=>C k' A c (u1.trans u);refine⟨A4,l4,c4,_,qE _ _,_,_,rfl,fun hp=>?_,fun hp=>?_⟩
 ·have hp:0<j:=by have:=ow hp;omega
  have e1:((j:Nat):Int)-1=((j-1:Nat):Int):=oq
  rw [e1];have hj1:j-1+1=j:=oq
  have hw:=bD a (j-1);have hr:=qy (a/B^j) hd0;have hb:=byword (b:=B) (n:=a) (d:=d) aX hd0 (j-1);rw [hj1]at hb;have ed:wrap .u64 ((d:Nat):Int)=((d:Nat):Int):=u64n oq;have hnz:(decide (wrap .u64 ((d:Nat):Int)≠0))=true:=by rw [ed];exact decide_eq_true oq
  have es:wrap .u64 (((a/B^j % d:Nat):Int)*2^(min (Int.toNat 32) (IntKind.bits .u64)))=((a/B^j % d*4294967296:Nat):Int):=by
   have:(2:Int)^(min (Int.toNat 32) (IntKind.bits .u64))=((4294967296:Nat):Int):=oz
   rw [this,←vk,u64n oq]
  have ex:wrap .u64 ((wq a (j-1):Nat):Int)=((wq a (j-1):Nat):Int):=u64n oq;have hin:(decide ((0:Int)≤((j-1:Nat):Int)∧((j-1:Nat):Int)<(l4:Nat)))=true:=decide_eq_true ⟨oq,oq⟩;refine⟨h.addr (p:=0) oq,⟨oq,oq⟩,_,h.read (p:=j-1) oq (by rw [qj];omega),hnz,hin,⟨oq,oq⟩,fun cs9 hcs=>⟨hnz,fun k2 u2=>?_⟩⟩;rw [es,ex,or32 oq hw]at hcs ⊢;rw [u64n (x:=a/B^j % d*4294967296+wq a (j-1)) oq,ed]at hcs ⊢;rw [←ya,oR,qj]at hcs;rw [←Int.ofNat_tmod];have e2:(a/B^j % d*4294967296+wq a (j-1)) / d=wq (a/d) (j-1):=hb.1;have e3:(a/B^j % d*4294967296+wq a (j-1)) % d=a/B^(j-1) % d:=hb.2;rw [e2]at hcs;rw [e3];have hq:=bD (a/d) (j-1);rw [u64n oq,mod32,qz oq,oZ]at hcs;refine⟨j-1,oq,A4,l4,c4,?_,hl4,hlc,oq⟩;have eg:cs9=dM (fromw (a/d) (j-1)) n:=by
   rw [hcs];refine bM fun p _=>?_;unfold fromw
   by_cases hpe:p=(j-1)*1+0
   ·rw [od hpe,od oq]
    congr 1;omega
   ·rw [oh hpe]
    by_cases hpl:j≤p
    ·rw [od hpl,od oq]
    ·rw [oh hpl,oh oq]
  rw [eg,w64 oq oq]
 ·have hp:j=0:=by have:=ov hp;omega
  subst hp;intro k2 u2 hrow;have er:dM (fromw (a/d) 0) n=row (a/d) n:=by
   rw [fD];exact bM fun p _=>by unfold fromw;rw [od (jk _)]
  rw [er]at hrow;subst hl4;have hlt:a/d<B^l4:=qe (zo _ _) h.lt;have hm:a % d<4294967296:=ze (qy _ hd0) hd;refine qT (RowN.of_row hrow hlt hlc) oq fun k3 u3 hN=>⟨_,_,_,rfl,fun k4 u4=>?_⟩;have e0:a/B^0 % d=a % d:=by rw [zy,ka]
  rw [e0,mod32,qz oq];exact C k4 _ _ ((u2.trans u3).trans u4) (hN.up u4)
theorem aNn (h:RowN k A n c a) (h':RowN k A' n' c' b) (hn:n≤137438953472) (hn':n'≤n) (hab:b≤a) (C:∀k' A c,Up k k'→NatN k' A (nw (a-b)) c (a-b)→R k' (.slice A (nw (a-b)) c)) :
 Cl k 179 #[.slice A n c,.slice A' n' c'] R:=by
 intro k0 u0;replace h:=h.up u0;replace h':=h'.up u0;replace C:=fun k' A c u=>C k' A c (u0.trans u);have hBv:B=4294967296:=rfl;refine aPa fun A2 l2 c2 cs3 hl2 hcs3 hlc2=>?_;refine⟨fun j k1 vs=>∃i A l c,vs=[.tuple #[.slice A l c,.agg (row (a-b) i)],.int .i64 (borrow B a b i:Nat),.int .i64 (i:Nat)]∧l=i∧l≤c∧i≤n∧j+i=n,⟨n,fun k1 u1=>⟨0,A2,l2,c2,by rw [hcs3,qO];rfl,hl2,hlc2,oq,oq⟩⟩,?_⟩;rintro j k1 vs u1 ⟨i,A4,l4,c4,rfl,hl4,hlc,hi,hj⟩;have hl4':=hl4.symm;subst hl4';replace h:=h.up u1;replace h':=h'.up u1;replace C:=fun k' A c u=>C k' A c (u1.trans u);have hbw:=pJ (b:=B) a b i;have hxa:=bD a i;have hxb:=bD b i;have hs:=aSa aX hab i;have hbs:=qN aX a b i;have size:Sy.sizeOk 4 (i+Int.toNat 1):=by
  have:Int.toNat 1=1:=rfl;rw [this];exact⟨oq,oq⟩
 -- one more word
 have step:∀(v r:Int) {A10:Option Addr}{l10 c10:Nat}{cs11:Array Value},(v=(wq a i:Int)-(borrow B a b i:Nat)-(wq b i:Int)∧0≤v∧r=0∨v=(wq a i:Int)-(borrow B a b i:Nat)-(wq b i:Int)+4294967296∧v<4294967296∧r=1)→i<n→l10=i+Int.toNat 1→
  cs11=row (a-b) i++([Value.int .u32 (wrap .u32 v)]:List Value).toArray→l10≤c10→
  ∃m,m<j∧∃i' A l c,[Value.tuple #[Value.slice A10 l10 c10,Value.agg cs11],Value.int .i64 r,Value.int .i64 (wrap .i64 (((i:Nat):Int)+1))]=[.tuple #[.slice A l c,.agg (row (a-b) i')],.int .i64 (borrow B a b i':Nat),.int .i64 (i':Nat)]∧l=i'∧l≤c∧i'≤n∧m+i'=n:=by
  intro v r A10 l10 c10 cs11 hv hlt hl hcs11 hlc10;refine⟨j-1,oq,i+1,A10,l10,c10,?_,by simpa using hl,hlc10,oq,oq⟩;have hs':wq (a-b) i=(wq a i+4294967296-wq b i-borrow B a b i) % 4294967296:=hs;have hbs':borrow B a b (i+1)=if wq a i<wq b i+borrow B a b i then 1 else 0:=hbs;have e1:cs11=row (a-b) (i+1):=oX (by rw [wu32,hs'];omega) hcs11;have e2:r=(borrow B a b (i+1):Nat):=by
   rw [hbs'];split <;> omega
  have e3:wrap .i64 (((i:Nat):Int)+1)=((i+1:Nat):Int):=by rw [w64 oq oq];omega
  rw [e1,e2,e3]
 have ex:wrap .i64 (wq a i:Int)=(wq a i:Int):=w64 oq oq;have ey:wrap .i64 (wq b i:Int)=(wq b i:Int):=w64 oq oq;have e1:wrap .i64 ((wq a i:Int)-((borrow B a b i:Nat):Int))=(wq a i:Int)-((borrow B a b i:Nat):Int):=w64 oq oq;have e2:wrap .i64 ((wq a i:Int)-((borrow B a b i:Nat):Int)-(wq b i:Int))=(wq a i:Int)-((borrow B a b i:Nat):Int)-(wq b i:Int):=w64 oq oq;have e3:wrap .i64 ((wq a i:Int)-((borrow B a b i:Nat):Int)-(wq b i:Int)+4294967296)=(wq a i:Int)-((borrow B a b i:Nat):Int)-(wq b i:Int)+4294967296:=w64 oq oq;have e4:wrap .i64 ((wq a i:Int)-((borrow B a b i:Nat):Int)+4294967296)=(wq a i:Int)-((borrow B a b i:Nat):Int)+4294967296:=w64 oq oq;refine⟨A4,i,c4,row (a-b) i,jK _ _,_,_,rfl,rfl,fun hlt=>?_,fun hge=>?_⟩
 ·have hlt:i<n:=by have:=ow hlt;omega
  refine⟨h.addr hlt,⟨oq,oq⟩,_,h.read (p:=i) hlt (by rw [qj];omega),rfl,fun hb=>?_,fun hb=>?_⟩
  ·have hb:i<n':=by have:=ow hb;omega
   refine⟨h'.addr hb,⟨oq,oq⟩,_,h'.read (p:=i) hb (by rw [qj];omega),?_⟩;rw [ex,ey,e1,e2,e3];refine⟨fun hneg=>?_,fun hpos=>?_⟩
   ·have hneg:=ow hneg;exact⟨rfl,oz,size,fun A10 l10 c10 cs11 hl hcs hc k3 _=>step _ 1 (.inr ⟨rfl,oq,rfl⟩) hlt hl hcs hc⟩
   ·have hpos:=ov hpos;exact⟨rfl,oz,size,fun A10 l10 c10 cs11 hl hcs hc k3 _=>step _ 0 (.inl ⟨rfl,oq,rfl⟩) hlt hl hcs hc⟩
  ·have hb:n'≤i:=by have:=ov hb;omega
   have hz:=pU h' hb;rw [ex,e1,e4];refine⟨fun hneg=>?_,fun hpos=>?_⟩
   ·have hneg:=ow hneg;exact⟨rfl,oz,size,fun A10 l10 c10 cs11 hl hcs hc k3 _=>step _ 1 (.inr ⟨oq,oq,rfl⟩) hlt hl hcs hc⟩
   ·have hpos:=ov hpos;exact⟨rfl,oz,size,fun A10 l10 c10 cs11 hl hcs hc k3 _=>step _ 0 (.inl ⟨oq,oq,rfl⟩) hlt hl hcs hc⟩
 ·have hge:i=n:=by have:=ov hge;omega
  subst hge;intro k3 u3 hrow;have hlt:a-b<B^i:=qe (Nat.sub_le _ _) h.lt;have hR:RowN k3 A4 i c4 (a-b):=RowN.of_row hrow hlt hlc;exact qT hR oq fun k4 u4 hN=>⟨_,_,_,rfl,fun k5 u5=>C k5 _ _ ((u3.trans u4).trans u5) (hN.up u5)⟩
end
theorem nW {t:Nat}(h:0<t):bl (t/2)+1=bl t:=by
 have h1:bl t≤bl (t/2)+1:=dD.2 (by
  have:=eP (t/2)
  rw [ql];omega)
 have h2:bl (t/2)≤bl t-1:=dD.2 (by
  have h3:=eP t;have h4:bl t≠0:=fun e=>by rw [e]at h3;simp at h3;omega
  have e:bl t=bl t-1+1:=oq
  rw [e,ql]at h3
  omega)
 have h4:bl t≠0:=fun e=>by have h3:=eP t;rw [e]at h3;simp at h3;omega
 omega
theorem aAd {m n:Nat}(h:Len B m (n+1)):bl m=32*n+bl (wq m n):=by
 have hB:∀j,B^j=2^(32*j):=fun j=>by rw [sS,←vq]
 have ht:wq m n≠0:=h.top aX oq;have hd:m/B^n=wq m n:=by
  unfold wq wd;refine (qz ?_).symm;rw [qg (qk aX),oa,←ql];exact h.lt
 have hp:0<B^n:=qk aX;have e1:=qi m (B^n);have e2:=qy m hp;rw [hd]at e1
 have hu:bl m≤32*n+bl (wq m n):=dD.2 (by
  have h1:=eP (wq m n);rw [oi,←hB];have:B^n*(wq m n+1)≤B^n*2^bl (wq m n):=qu _ h1;rw [zw,jj]at this
  omega)
 have hl:32*n+bl (wq m n)-1<bl m:=by
  refine xy fun hle=>?_;have h1:=dD.1 hle;have h2:=dT ht;have h3:bl (wq m n)≠0:=fun e=>by have h3:=eP (wq m n);rw [e]at h3;simp at h3;omega
  have e3:32*n+bl (wq m n)-1=32*n+(bl (wq m n)-1):=oq
  rw [e3,oi,←hB]at h1;have:B^n*2^(bl (wq m n)-1)≤B^n*wq m n:=qu _ h2;exact absurd h1 (Nat.not_lt.2 (qb this (by generalize B^n*wq m n=y at e1;generalize m % B^n=z at e1;omega)))
 omega
section
variable {k k':World}{A A':Option Addr}{n c m n' c' m' a b:Nat}{R:World→Value→Prop}
theorem NatN.len (h:NatN k A n c a):Len B a n:=by rw [h.2];exact bC a
theorem NatN.zero (h:NatN k A n c a):n=0↔a=0:=h.len.zero_iff aX
theorem aYm (h:NatN k A n c a) (hn:n≤137438953472) (C:∀k',Up k k'→R k' (.int .i64 (bl a:Nat))):Cl k 252 #[.slice A n c] R:=by
 intro k0 u0;replace h:=h.up u0;replace C:=fun k' u=>C k' (u0.trans u);refine aOz ⟨rfl,fun hz=>?_,fun hz=>⟨rfl,rfl,?_⟩⟩
 ·intro k1 u1;have hz:n=0:=by have:=eq_of_beq hz;omega
  have:=h.zero.1 hz;have e:bl a=0:=by rw [this];rfl
  have:=C k1 u1;rw [e]at this;exact this
 ·have hz:n≠0:=fun e=>by rw [e]at hz;cases hz
  have e1:wrap .i64 ((n:Nat)-1)=((n-1:Nat):Int):=by rw [w64 oq oq];omega
  rw [e1];have hl:=h.len;have hn1:n-1+1=n:=oq
  rw [←hn1]at hl;have hbl:=aAd hl;have e2:wrap .i64 (32*((n-1:Nat):Int))=((32*(n-1):Nat):Int):=by rw [w64 oq oq];omega
  have hw:=bD a (n-1);have hb32:bl (wq a (n-1))≤32:=dD.2 oq;refine⟨h.1.addr (p:=0) oq,⟨oq,oq⟩,_,h.1.read (p:=n-1) oq (by rw [qj];omega),fun j _ vs=>∃t x:Nat,vs=[.int .i64 (x:Int),.int .u32 (t:Int)]∧j=bl t∧x+bl t=bl a∧t<4294967296,⟨bl (wq a (n-1)),fun k1 _=>⟨_,32*(n-1),by rw [e2],rfl,hbl.symm,hw⟩⟩,?_⟩;rintro j k1 vs u1 ⟨t,x,rfl,rfl,hx,ht⟩;refine⟨_,_,rfl,fun hp=>?_,fun hp=>?_⟩
  ·have hp:0<t:=by have:=ow hp;omega
   intro k2 _;have hh:=nW hp;have e3:wrap .i64 ((x:Int)+1)=((x+1:Nat):Int):=by rw [w64 oq oq];omega
   have e4:Int.fdiv (t:Int) (2^(min (Int.toNat 1) (IntKind.bits .u32)))=((t/2:Nat):Int):=by
    have:(2:Int)^(min (Int.toNat 1) (IntKind.bits .u32))=2:=oz
    rw [this,vm _ oz];omega
   rw [e3,e4];exact⟨bl (t/2),oq,t/2,x+1,rfl,rfl,oq,oq⟩
  ·have hp:t=0:=by have:=ov hp;omega
   subst hp;intro k2 u2;have e:x=bl a:=by have:bl 0=0:=rfl;omega
   rw [e];exact C k2 (u1.trans u2)
def sc (a r i:Nat):Nat:=(a % B^i)*2^r/B^i
theorem aVx (a r:Nat):sc a r 0=0:=by unfold sc;rw [zy,yq,je,Nat.zero_div]
theorem aXg (a r i:Nat):sc a r i<2^r:=by
 unfold sc;rw [qg (qk aX),oa (2^r)];exact qa (qy _ (qk aX)) (qk oz)
theorem aVw (a r i:Nat):wq (a*2^r) i=(wq a i*2^r+sc a r i) % B∧sc a r (i+1)=(wq a i*2^r+sc a r i) / B:=by
 have hp:0<B^i:=qk aX;have e1:(a % B^(i+1))*2^r=(a % B^i)*2^r+B^i*(wq a i*2^r):=by
  rw [dQ,jt,qf];rfl
 have e2:(a % B^(i+1))*2^r/B^i=wq a i*2^r+sc a r i:=by
  rw [e1,jp _ _ hp];unfold sc;omega
 constructor
 ·have e3:a*2^r=(a % B^(i+1))*2^r+B^i*(B*(a/B^(i+1)*2^r)):=by
   have:=Nat.mod_add_div a (B^(i+1))
   conv=>lhs;rw [←this]
   rw [jt,ql,qf,qf]
  unfold wq wd;rw [e3,jp _ _ hp,e2,zu];rfl
 ·rw [←e2,jq,←ql];rfl
theorem aZs {a r n:Nat}(h:a<B^n) (hr:r<32):wq (a*2^r) n=sc a r n∧a*2^r<B^(n+1):=by
 have hlt:=aXg a r n;have hr2:2^r<2^32:=zr oz hr;have e:sc a r n=a*2^r/B^n:=by unfold sc;rw [qz h]
 constructor
 ·rw [e]at hlt ⊢;unfold wq wd;exact qz (ze hlt (by rw [sS];exact hr2))
 ·rw [ql];exact xp h (by rw [sS];exact hr2)
theorem aDg (T w p:Nat):wq (T*B^w) p=if p<w then 0 else wq T (p-w):=by
 have:=dV (b:=B) aX 0 T w (qk aX) p;rw [jx,oa]at this;unfold wq;rw [this];split
 ·unfold wd;simp
 ·rfl
theorem orsh {x r y:Nat}(hr:r<32) (hx:x<4294967296) (hy:y<2^r):BitVec.toNat (BitVec.ofInt (IntKind.bits .u64) ((x*2^r:Nat):Int) ||| BitVec.ofInt (IntKind.bits .u64) ((y:Nat):Int))=x*2^r+y:=by
 have eb:IntKind.bits .u64=64:=rfl;have hr2:2^r≤2^31:=oc oz oq;have h1:x*2^r≤4294967295*2^31:=vo oq hr2;rw [eb,BitVec.ofInt_natCast,BitVec.ofInt_natCast,BitVec.toNat_or,BitVec.toNat_ofNat,BitVec.toNat_ofNat,qz oq,qz oq];have:=Nat.shiftLeft_add_eq_or_of_lt (a:=x) (i:=r) (b:=y) hy;rw [zf]at this;exact this.symm
theorem kZ {s:Nat}(h:NatN k A n c a) (hn:n≤68719476736) (hs:s≤1099511627776) (C:∀k' A c,Up k k'→NatN k' A (nw (a*2^s)) c (a*2^s)→R k' (.slice A (nw (a*2^s)) c)) :
 Cl k 227 #[.slice A n c,.int .i64 (s:Int)] R:=by
 intro k0 u0;replace h:=h.up u0;replace C:=fun k' A c u=>C k' A c (u0.trans u);refine aEs ⟨rfl,fun hz=>?_,fun hz=>?_⟩
 ·intro k1 u1;have hz:n=0:=by have:=eq_of_beq hz;omega
  have ha:=h.zero.1 hz;have e:a*2^s=0:=by rw [ha,je]
  have:=C k1 none 0 u1;rw [e,nw_zero]at this;exact this ⟨⟨oz,oy _,fun p hp=>oq⟩,nw_zero.symm⟩
 ·have ew:wrap .i64 (Int.tdiv (s:Int) 32)=((s/32:Nat):Int):=by
   have:Int.tdiv (s:Int) 32=((s/32:Nat):Int):=(ya s 32).symm;rw [this,w64 oq oq]
  have er:wrap .u64 (Int.tmod (s:Int) 32)=((s % 32:Nat):Int):=by
   have:Int.tmod (s:Int) 32=((s % 32:Nat):Int):=(Int.ofNat_tmod s 32).symm;rw [this,u64n oq]
  rw [ew,er,qj,qj,jj];generalize hw:s/32=w;generalize hr:s % 32=r;have hr32:r<32:=oq
  have hmin:min r (IntKind.bits .u64)=r:=by
   have eb:IntKind.bits .u64=64:=rfl;rw [eb];omega
  rw [hmin];have hS:a*2^s=a*2^r*B^w:=by
   have:s=r+32*w:=oq
   rw [this,oi,vq,sS,qf]
  refine⟨oq,⟨oq,oq⟩,fun A2 l2 c2 cs3 hl2 hcs3 hlc2=>?_⟩;refine⟨fun j k1 vs=>∃i A l c,vs=[.tuple #[.slice A l c,.agg (row (a*2^s) (w+i))],.int .u64 (sc a r i:Nat),.int .i64 (i:Nat)]∧l=w+i∧l≤c∧i≤n∧j+i=n,⟨n,fun k1 u1=>⟨0,A2,l2,c2,?_,hl2,hlc2,oq,oq⟩⟩,?_⟩
  ·have e:cs3=row (a*2^s) (w+0):=by
    rw [hcs3,fD];refine (lY w).trans (bM fun p hp=>?_);rw [hS,aDg,od hp]
   rw [e,aVx];rfl
  rintro j k1 vs u1 ⟨i,A4,l4,c4,rfl,hl4,hlc,hi,hj⟩;replace h:=h.up u1;replace C:=fun k' A c u=>C k' A c (u1.trans u);have hc:=aXg a r i;have hx:=bD a i;have hr2:2^r≤2^31:=oc oz oq;have hxr:wq a i*2^r≤4294967295*2^31:=vo oq hr2;have size:Sy.sizeOk 4 (l4+Int.toNat 1):=by
   have:Int.toNat 1=1:=rfl;rw [this];exact⟨oq,oq⟩
  have hwi:wq (a*2^s) (w+i)=wq (a*2^r) i:=by rw [hS,aDg,oh oq];congr 1;omega
  have hst:=aVw a r i;refine⟨A4,l4,c4,_,jK _ _,_,_,rfl,rfl,fun hlt=>?_,fun hge=>?_⟩
  ·have hlt:i<n:=by have:=ow hlt;omega
   have e1:wrap .u64 (wrap .u64 ((wq a i:Nat):Int)*2^r)=((wq a i*2^r:Nat):Int):=by
    have:(2:Int)^r=((2^r:Nat):Int):=by simp
    rw [u64n (x:=wq a i) oq,this,←vk,u64n oq]
   refine⟨h.1.addr hlt,⟨oq,oq⟩,_,h.1.read (p:=i) hlt (by rw [qj];omega),decide_eq_true oq,?_⟩;rw [e1,orsh hr32 hx hc,u64n oq];refine⟨rfl,oz,size,fun A9 l9 c9 cs10 hl hcs hlc9 k2 u2=>⟨j-1,oq,i+1,A9,l9,c9,?_,by rw [hl,hl4];rfl,hlc9,oq,oq⟩⟩;have eg:cs10=row (a*2^s) (w+(i+1)):=by
    refine oX (s:=a*2^s) (i:=w+i) ?_ hcs;rw [mod32,hwi,hst.1]
   have et:wrap .i64 (((i:Nat):Int)+1)=((i+1:Nat):Int):=by rw [w64 oq oq];omega
   rw [eg,div32,←hst.2,et]
  ·have hge:i=n:=by have:=ov hge;omega
   subst hge;have hend:=aZs (r:=r) h.1.lt hr32;refine⟨rfl,oz,size,fun A8 l8 c8 cs9 hl hcs hlc8 k2 u2 hrow=>?_⟩;have eg:cs9=row (a*2^s) (w+i+1):=by
    refine oX (s:=a*2^s) (i:=w+i) ?_ hcs;rw [mod32,hwi,hend.1,qz (by rw [sS];omega)]
   have hl8:l8=w+i+1:=by rw [hl,hl4];rfl
   subst hl8;rw [eg]at hrow;have hlt:a*2^s<B^(w+i+1):=by
    have e:w+i+1=(i+1)+w:=oq
    rw [hS,e,oi];exact qa hend.2 (qk aX)
   exact qT (RowN.of_row hrow hlt hlc8) oq fun k3 u3 hN=>⟨_,_,_,rfl,fun k4 u4=>C k4 _ _ ((u2.trans u3).trans u4) (hN.up u4)⟩
end
theorem or32' {r x:Nat}(hr:r<4294967296) (hx:x<4294967296):BitVec.toNat (BitVec.ofInt (IntKind.bits .u64) ((x:Nat):Int) ||| BitVec.ofInt (IntKind.bits .u64) ((r*4294967296:Nat):Int))=x+r*4294967296:=by
 rw [BitVec.or_comm,or32 hr hx,zj]
theorem shl32 {x:Nat}(h:x<4294967296):wrap .u64 (((x:Nat):Int)*2^(min (Int.toNat 32) (IntKind.bits .u64)))=((x*4294967296:Nat):Int):=by
 have:(2:Int)^(min (Int.toNat 32) (IntKind.bits .u64))=((4294967296:Nat):Int):=oz
 rw [this,←vk,u64n oq]
theorem fdivp (x r:Nat):Int.fdiv ((x:Nat):Int) (2^r)=((x/2^r:Nat):Int):=by
 have:(2:Int)^r=((2^r:Nat):Int):=by simp
 rw [this,vm _ (Int.natCast_nonneg _)];exact (Int.natCast_ediv _ _).symm
theorem bAb (a w i:Nat) {r:Nat}(hr:r<32):wq (a/(B^w*2^r)) i=(wq a (w+i)+wq a (w+i+1)*B) / 2^r % B:=by
 have hb:B=2^r*2^(32-r):=by rw [←oi,sS];congr 1;omega
 have hP:0<2^r:=qk oz;have h:=aRz hb hP (qk oz) a w i;unfold wq;rw [h,zj w i];have hx:wd B a (i+w) / 2^r<2^(32-r):=by
  rw [qg hP,oa,←hb];exact aDf aX _ _
 generalize wd B a (i+w)=x at *
 generalize wd B a (i+w+1)=y at *
 have e:x+y*B=x+2^r*(y*2^(32-r)):=by
  congr 1
  conv=>lhs;rw [hb]
  ac_rfl
 rw [e,jp _ _ hP];have hR:0<2^(32-r):=qk oz;generalize 2^(32-r)=R at *
 generalize x/2^r=z at *
 have e2:y*R % B=y % 2^r*R:=(lD y R (2^r) hR hP).1 |> fun h=>by rw [oa R]at h;rw [hb];exact h
 have e3:z+y*R=z+y % 2^r*R+B*(y/2^r):=by
  have:=Nat.mod_add_div y (2^r)
  conv=>lhs;rw [←this]
  rw [jt,hb,wj]
  congr 2
  ac_rfl
 rw [e3,zu,e2];refine (qz ?_).symm;have hy:y % 2^r+1≤2^r:=qy _ hP;have:=om R hy;rw [←hb,jt,zk]at this;omega
section
variable {k k':World}{A A':Option Addr}{n c m n' c' m' a b:Nat}{R:World→Value→Prop}
theorem aJt {s:Nat}(h:NatN k A n c a) (hn:n≤137438953472) (hs:s≤4398046511104) (C:∀k' A c,Up k k'→NatN k' A (nw (a/2^s)) c (a/2^s)→R k' (.slice A (nw (a/2^s)) c)) :
 Cl k 314 #[.slice A n c,.int .i64 (s:Int)] R:=by
 intro k0 u0;replace h:=h.up u0;replace C:=fun k' A c u=>C k' A c (u0.trans u);have hBv:B=4294967296:=rfl;have ew:wrap .i64 (Int.tdiv (s:Int) 32)=((s/32:Nat):Int):=by
  have:Int.tdiv (s:Int) 32=((s/32:Nat):Int):=(ya s 32).symm;rw [this,w64 oq oq]
 have er:wrap .u64 (Int.tmod (s:Int) 32)=((s % 32:Nat):Int):=by
  have:Int.tmod (s:Int) 32=((s % 32:Nat):Int):=(Int.ofNat_tmod s 32).symm;rw [this,u64n oq]
 refine aBo fun A2 l2 c2 cs3 hl2 hcs3 hlc2=>?_;rw [ew,er,qj];generalize hw:s/32=w;generalize hr:s % 32=r;have hr32:r<32:=oq
 have hmin:min r (IntKind.bits .u64)=r:=by
  have eb:IntKind.bits .u64=64:=rfl;rw [eb];omega
 rw [hmin];have hS:a/2^s=a/(B^w*2^r):=by
  have:s=32*w+r:=oq
  rw [this,oi,vq,sS]
 rw [hS]at C;have hdec:(decide ((0:Int)≤((r:Nat):Int)))=true:=decide_eq_true oq;refine⟨fun j k1 vs=>∃i A l c,vs=[.tuple #[.slice A l c,.agg (row (a/(B^w*2^r)) i)],.int .i64 ((w+i:Nat):Int)]∧l=i∧l≤c∧(i=0∨w+i≤n)∧j=n-(w+i),⟨_,fun k1 u1=>⟨0,A2,l2,c2,by rw [hcs3];rfl,hl2,hlc2,Or.inl rfl,rfl⟩⟩,?_⟩;rintro j k1 vs u1 ⟨i,A4,l4,c4,rfl,hl4,hlc,hi,hj⟩;have hl4':=hl4.symm;subst hl4';replace h:=h.up u1;replace C:=fun k' A c u=>C k' A c (u1.trans u);have hword:=bAb a w i hr32;have hx:=bD a (w+i);have hy:=bD a (w+i+1);have hw64:(w:Int)+i≤1000000000000:=oq
 have e1:wrap .i64 (((w+i:Nat):Int)+1)=((w+i+1:Nat):Int):=by rw [w64 oq oq];omega
 have eu:∀ {z:Nat},z<4294967296→wrap .u64 ((z:Nat):Int)=((z:Nat):Int):=fun hz=>u64n oq
 -- one more word
 have step:∀(v:Int) {A10:Option Addr}{l10 c10:Nat}{cs11:Array Value},v=(((wq a (w+i)+wq a (w+i+1)*B) / 2^r:Nat):Int)→w+i<n→l10=i+Int.toNat 1→
  cs11=row (a/(B^w*2^r)) i++([Value.int .u32 (wrap .u32 v)]:List Value).toArray→l10≤c10→
  ∃m,m<j∧∃i' A l c,[Value.tuple #[Value.slice A10 l10 c10,Value.agg cs11],Value.int .i64 ((w+i+1:Nat):Int)]=[.tuple #[.slice A l c,.agg (row (a/(B^w*2^r)) i')],.int .i64 ((w+i':Nat):Int)]∧l=i'∧l≤c∧(i'=0∨w+i'≤n)∧m=n-(w+i'):=by
  intro v A10 l10 c10 cs11 hv hlt hl hcs11 hlc10;refine⟨j-1,oq,i+1,A10,l10,c10,?_,by simpa using hl,hlc10,Or.inr oq,oq⟩;have e1:cs11=row (a/(B^w*2^r)) (i+1):=oX (by rw [hv,mod32,←hword]) hcs11;rw [e1];rfl
 refine⟨A4,i,c4,row (a/(B^w*2^r)) i,jK _ _,_,rfl,rfl,fun hlt=>?_,fun hge=>?_⟩
 ·have hlt:w+i<n:=by have:=ow hlt;omega
  have size:Sy.sizeOk 4 (i+Int.toNat 1):=by
   have:Int.toNat 1=1:=rfl;rw [this];exact⟨oq,oq⟩
  rw [e1];refine⟨h.1.addr hlt,⟨oq,oq⟩,_,h.1.read (p:=w+i) hlt (by rw [qj];omega),rfl,fun hb=>?_,fun hb=>?_⟩
  ·have hb:w+i+1<n:=by have:=ow hb;omega
   refine⟨h.1.addr hb,⟨oq,oq⟩,_,h.1.read (p:=w+i+1) hb (by rw [qj];omega),hdec,?_⟩;rw [eu hx,eu hy,shl32 hy,or32' hy hx,u64n oq,fdivp];exact⟨rfl,oz,size,fun A9 l9 c9 cs10 hl hcs hlc9 k2 u2=>step _ rfl hlt hl hcs hlc9⟩
  ·have hb:n≤w+i+1:=by have:=ov hb;omega
   have hz:wq a (w+i+1)=0:=pU h.1 hb;refine⟨hdec,?_⟩;rw [eu hx,fdivp];exact⟨rfl,oz,size,fun A9 l9 c9 cs10 hl hcs hlc9 k2 u2=>step _ (by rw [hz,je,jl]) hlt hl hcs hlc9⟩
 ·have hge:n≤w+i:=by have:=ov hge;omega
  intro k2 u2 hrow;have hlt:a/(B^w*2^r)<B^i:=by
   rw [qg (zb (qk aX) (qk oz))];refine oo (oo h.1.lt (oc aX hge)) ?_;rw [zj w i,oi];exact qu _ (zm _ (qk oz))
  refine qT (RowN.of_row hrow hlt hlc) oq fun k3 u3 hN=>⟨_,_,_,rfl,fun k4 u4=>?_⟩;have:=C k4 A4 c4 ((u2.trans u3).trans u4);rw [←hS]at this hN ⊢;exact this (hN.up u4)
end
theorem aCk (f g:Nat→Nat) (n m:Nat):dM f n++dM g m=dM (fun i=>if i<n then f i else g (i-n)) (n+m):=by
 apply vr;intro i;rw [Array.getElem?_append,xC,dW,dW,dW]
 by_cases h:i<n
 ·rw [od h,od h,od oq,od h]
 ·rw [oh h]
  by_cases h2:i<n+m
  ·rw [od oq,od h2,oh h]
  ·rw [oh oq,oh h2]
theorem aFp (x y n m:Nat):row x n++row y m=row (x % B^n+B^n*y) (n+m):=by
 rw [fD,fD,fD,aCk];refine bM fun i _=>?_;have h:=dV (b:=B) aX (x % B^n) y n (qy _ (qk aX)) i;unfold wq;rw [h]
 by_cases hi:i<n
 ·rw [od hi,od hi,nQ aX _ _ _ hi]
 ·rw [oh hi,oh hi]
section
variable {k k':World}{A A':Option Addr}{n c m n' c' m' a b:Nat}{R:World→Value→Prop}
theorem RowN.cells (h:RowN k A n c m) {j:Nat}(hj:j≤n):(row m j).size=j*1∧∀(p:Nat) (u:Value),(row m j)[p]?=some u→cellAt k.cell? A p=some u:=by
 refine⟨by rw [uS,jj],fun p u hu=>?_⟩;have hp:p<j:=by
  refine xy fun hle=>?_;rw [jf (by rw [uS];exact hle)]at hu;cases hu
 rw [aHy m hp]at hu;cases hu;exact h.at_ p oq
theorem RowN.from (h:RowN k A n c m) {j:Nat}(hj:j<n):RowN k (A.map fun a=>a.add (j*1)) (n-j) (c-j) (m/B^j):=by
 have hc:=h.cap;refine⟨?_,oq,fun p hp=>?_⟩
 ·rw [qg (qk aX),←oi,xc oq];exact h.lt
 ·have:=h.at_ (j+p) oq;obtain⟨b,o,rfl⟩:=h.addr hj;have e:wq (m/B^j) p=wq m (j+p):=kD m j p;rw [e,←this]
  by_cases hj0:j=0
  ·subst hj0;simp [cellAt,Addr.add]
  ·simp [cellAt,Addr.add,hj0,Nat.add_assoc]
theorem NatN.from (h:NatN k A n c m) {j:Nat}(hj:j<n):NatN k (A.map fun a=>a.add (j*1)) (n-j) (c-j) (m/B^j):=by
 refine⟨h.1.from hj,(iQ (Len.of_top (h.1.from hj).lt fun hp=>?_)).symm⟩;rw [kD];have:=h.len.top aX oq;have e:j+(n-j-1)=n-1:=oq
 rw [e];exact this
theorem aRj {s j l:Nat}{kk kk':IntKind}(h1:j<l) (h2:l≤c):Sy.slcD s (.slice A n c) (.int kk (j:Int)) (.int kk' (l:Int))=some (.slice (A.map fun a=>a.add (j*s)) (l-j) (c-j)):=by
 unfold Sy.slcD;dsimp only;rw [od ⟨oq,oq,oq⟩,qj,qj,oh oq]
theorem aMf {s j:Nat}{kk kk':IntKind}(h1:j≤c):Sy.slcD s (.slice A n c) (.int kk 0) (.int kk' (j:Int))=some (.slice A j c):=by
 have:=aCw (A:=A) (n:=n) (s:=s) (kk:=kk) (kk':=kk') (c:=c) (hi:=(j:Int)) oq oq
 rwa [qj]at this
theorem aHs {a b:Nat}:(decide (ord a b > 0))=true→b<a:=by
 intro h;have h:=ow h;unfold ord at h;split at h
 ·exact absurd h oz
 ·split at h
  ·assumption
  ·exact absurd h oz
theorem aBu {a b:Nat}:(decide (ord a b > 0))=false→a≤b:=by
 intro h;refine zv fun hlt=>?_;have h:=ov h;unfold ord at h;rw [oh oq,od hlt]at h;exact h oz
theorem aHr {a b:Nat}:(decide (ord a b<0))=true→a<b:=by
 intro h;have h:=ow h;unfold ord at h;split at h
 ·assumption
 ·split at h
  ·exact absurd h oz
  ·exact absurd h oz
theorem uE {a b:Nat}:(decide (ord a b<0))=false→b≤a:=by
 intro h;refine zv fun hlt=>?_;have h:=ov h;unfold ord at h;rw [od hlt]at h;exact h oz
theorem qtail {A4 A8 A10 A14:Option Addr}{l4 c4 l8 c8 l10 c10 l14 c14 V P r j g m14:Nat}{cs9:Array Value}{I14:Nat→World→List Value→Prop}
 (hV:NatN k A4 l4 c4 V) (hP:NatN k A14 l14 c14 P) (hr:NatN k A10 l10 c10 r) (hV0:0<V) (hl4:l4≤68719476735) (hl10:l10≤68719476735) (hl14:l14≤l10) (hj:j<l10) (hj8:j<l8) (hqg:P/V≤g) (hg:g<4294967296)
 (next:∀k' A l c,Up k k'→NatN k' A l c (r % B^j+B^j*(P-V*(P/V)))→∃m,m<m14∧I14 m k' [Value.tuple #[Value.slice A8 l8 c8,Value.agg (Sy.over cs9 (Int.toNat (j:Int)*1+0) ([Value.int .u32 (wrap .u32 ((P/V:Nat):Int))]))],Value.slice A l c,Value.int .i64 (wrap .i64 ((j:Int)-1))]) :
 (Cl k 174 #[Value.int .u64 (g:Int)] fun k19 r18=>∃A19 l19 c19,some (Value.slice A19 l19 c19)=some r18∧
 Cl k19 176 #[Value.slice A4 l4 c4,Value.slice A19 l19 c19] fun k21 r20=>∃A20 l20 c20,some (Value.slice A20 l20 c20)=some r20∧
 nqT k21 (g:Int) A20 l20 c20 A14 l14 c14 A4 l4 c4 (j:Int) l8 cs9 A10 l10 c10 m14 I14 A8 c8):=by
  have hg1:nw g≤1:=aI (by rw [yg];exact hg);have hVw:=hV.2;have hPw:=hP.2;have hc10:=hr.1.cap;refine uC (x:=g) oq fun k19 A19 c19 u19 hG=>⟨_,_,_,rfl,qB (K:=68719476736) (hV.1.up u19) hG.1 oq oq oq fun k21 A20 c20 u21 hPr hle=>⟨_,_,_,rfl,?_⟩⟩;refine⟨fun m k vs=>∃A l c g,vs=[.int .u64 ((g:Nat):Int),.slice A l c]∧NatN k A l c (V*g)∧P/V≤g∧g<4294967296∧m=g∧l≤l4+1,⟨g,fun k22 u22=>⟨A20,_,c20,g,rfl,hPr.up u22,hqg,hg,rfl,oq⟩⟩,?_⟩;rintro m22 k22 vs22 u22 ⟨A22,l22,c22,g2,rfl,hp,hqg2,hg2,rfl,hl22⟩;have uk:=(u19.trans u21).trans u22;refine⟨_,_,_,_,rfl,oP hp (hP.up uk) oq oq fun k24 u24=>⟨_,rfl,fun hgt=>?_,fun hle=>?_⟩⟩
  ·have hgt:=aHs hgt;have hg0:0<m22:=by
    refine jr fun e=>?_;rw [e,Nat.mul_zero]at hgt;omega
   have hgq:P/V<m22:=by
    rw [qg hV0,oa];exact hgt
   have hVm:V≤V*m22:=zm _ hg0;have hlen:l4≤l22:=by rw [hVw,hp.2];exact aW hVm
   refine aNn (hp.1.up u24) (hV.1.up (uk.trans u24)) oq hlen hVm fun k26 A24 c24 u26 hD=>⟨_,_,_,rfl,fun k27 u27=>⟨m22-1,oq,A24,nw (V*m22-V),c24,m22-1,?_,?_,oq,oq,rfl,?_⟩⟩
   ·have e:wrap .u64 (((m22:Nat):Int)-1)=((m22-1:Nat):Int):=by rw [wu64 oq oq];omega
    rw [e]
   ·have e:V*m22-V=V*(m22-1):=by rw [Nat.mul_sub,jj]
    have:=hD.up u27;rw [←e];exact this
   ·refine qb (aW (Nat.sub_le _ _)) ?_;rw [←hp.2];exact hl22
  ·have hle:=aBu hle;have hq:m22=P/V:=by
    have:m22≤P/V:=by rw [zq hV0,oa];exact hle
    omega
   have hlen:l22≤l14:=by rw [hp.2,hPw];exact aW hle
   have len:∀x l:Nat,((row x l).toList:List Value).length=Int.toNat ((l:Nat):Int)*1:=fun x l=>by
    rw [qj,jj];exact uS x l
   refine⟨decide_eq_true ⟨oq,oq⟩,⟨oq,oq⟩,fun cs24 hcs24 _ l25 c25 cs26 hl25 hcs26 _=>?_⟩;have ukk:=uk.trans u24;refine⟨A10,j,c10,aMf oq,row r j,jK _ _,(hr.1.up ukk).cells oq,len _ _,oq,⟨by rw [qj];omega,by rw [qj];omega⟩,fun _ l29 c29 cs30 hl29 hcs30 _=>?_⟩;refine aNn (hP.1.up ukk) (hp.1.up u24) oq hlen hle fun k29 A31 c31 u29 hD=>?_;have hDl:nw (P-V*m22)≤l14:=by rw [hPw];exact aW (Nat.sub_le _ _)
   rw [qj]at hl29;refine⟨_,_,_,rfl,row (P-V*m22) (nw (P-V*m22)),jK _ _,hD.1.cells (oy _),len _ _,oq,⟨by rw [qj];omega,by rw [qj];omega⟩,fun A33 l33 c33 cs34 hl33 hcs34 hlc33 k30 u30 hrow=>?_⟩;rw [qj]at hl33;have er:cs34=row (r % B^j+B^j*(P-V*m22)) l33:=by
    rw [hcs34,hcs30,hcs26,xk,xk];have:([]:List Value).toArray++row r j=row r j:=by simp
    rw [this,aFp,hl33,hl29,hl25,jx]
   rw [er]at hrow;have hlt:r % B^j+B^j*(P-V*m22)<B^l33:=by
    have e:l33=j+nw (P-V*m22):=oq
    have h1:=cS (P-V*m22);have h2:=qy r (qk (n:=j) aX);rw [e,oi];have h3:=qu (B^j) (Nat.succ_le_of_lt h1);rw [Nat.mul_succ]at h3;omega
   refine qT (RowN.of_row hrow hlt hlc33) oq fun k32 u32 hN=>⟨_,_,_,rfl,fun k33 u33=>?_⟩;have:=next k33 A33 (nw (r % B^j+B^j*(P-V*m22))) c33 ((((ukk.trans u29).trans u30).trans u32).trans u33) (by rw [←hq];exact hN.up u33)
   rw [hcs24,hq];rw [hq]at this;exact this
end
theorem aMl {x m:Nat}(h:x<B^(m+2)):x/B^m=wq x m+wq x (m+1)*B:=by
 unfold wq wd;have e:x/B^(m+1)=x/B^m/B:=by rw [ql,jq]
 have h2:x/B^m/B<B:=by
  rw [←e,qg (qk aX),oa,←ql];exact h
 rw [e,qz h2];have:=Nat.mod_add_div (x/B^m) B;rw [oa]at this;exact this.symm
section
variable (a V j:Nat)
theorem aFi:a % (V*B^(j+1)) / B^j=a/B^j % (V*B):=by
 have e:V*B^(j+1)=B^j*(V*B):=by rw [ql];ac_rfl
 rw [e,Nat.mod_mul_right_div_self]
theorem aHu:a % (V*B^(j+1)) / B^j/V=wq (a/V) j:=by
 rw [aFi,Nat.mod_mul_right_div_self];unfold wq wd;rw [jq,jq,oa]
theorem aQg:a % (V*B^(j+1)) % B^j+B^j*(a % (V*B^(j+1)) / B^j-V*(a % (V*B^(j+1)) / B^j/V))=a % (V*B^j):=by
 have e:∀x,x-V*(x/V)=x % V:=fun x=>by have:=Nat.mod_add_div x V;omega
 have e2:V*B^(j+1)=B^j*(V*B):=by rw [ql];ac_rfl
 rw [e,aFi,Nat.mod_mul_right_mod,e2,Nat.mod_mul_right_mod,oa V];exact Nat.mod_mul.symm
theorem aQh (h:a % (V*B^(j+1)) / B^j<V):a % (V*B^(j+1))=a % (V*B^j)∧wq (a/V) j=0:=by
 have h1:=aQg a V j;have h2:=aHu a V j;rw [qs h]at h1 h2;rw [Nat.mul_zero,Nat.sub_zero,Nat.mod_add_div]at h1;exact⟨h1,h2.symm⟩
end
theorem aJl (Q j n:Nat):Sy.over (dM (fromw Q (j+1)) n) (Int.toNat (j:Int)*1+0) [.int .u32 (wrap .u32 ((wq Q j:Nat):Int))]=dM (fromw Q j) n:=by
 have hq:=bD Q j;rw [oR,mod32,qz (by unfold B;omega),qj,oZ];refine bM fun p _=>?_;unfold fromw
 by_cases hpe:p=j*1+0
 ·rw [od hpe,od oq]
  congr 1;omega
 ·rw [oh hpe]
  by_cases hpl:j+1≤p
  ·rw [od hpl,od oq]
  ·rw [oh hpl,oh oq]
theorem aEe {Q j:Nat}(n:Nat) (h:wq Q j=0):dM (fromw Q (j+1)) n=dM (fromw Q j) n:=by
 refine bM fun p _=>?_;unfold fromw
 by_cases hpe:p=j
 ·subst hpe;rw [oh oq,od oq,h]
 ·by_cases hpl:j+1≤p
  ·rw [od hpl,od oq]
  ·rw [oh hpl,oh oq]
section
variable {k k':World}{A A':Option Addr}{n c m n' c' m' a b:Nat}{R:World→Value→Prop}
abbrev QInv (a' V l6:Nat):Nat→World→List Value→Prop:=fun m k vs=>∃A8 c8 A10 l10 c10,vs=[.tuple #[.slice A8 l6 c8,.agg (dM (fromw (a' / V) m) l6)],.slice A10 l10 c10,.int .i64 (((m:Nat):Int)-1)]∧l6≤c8∧NatN k A10 l10 c10 (a' % (V*B^m))∧m≤l6
theorem nM (h:NatN k A n c a) (h':NatN k A' n' c' b) (hn:n≤34359738368) (hn':n'≤34359738368) (hb:0<b)
 (C:∀k' A c A' c',Up k k'→NatN k' A (nw (a/b)) c (a/b)→NatN k' A' (nw (a % b)) c' (a % b)→R k' (.tuple #[.slice A (nw (a/b)) c,.slice A' (nw (a % b)) c'])) :
 Cl k 261 #[.slice A n c,.slice A' n' c'] R:=by
 intro k0 u0;replace h:=h.up u0;replace h':=h'.up u0;replace C:=fun k' A c A' c' u=>C k' A c A' c' (u0.trans u);have hBv:B=4294967296:=rfl;refine aVh (oP h h' oq oq fun k1 u1=>⟨_,rfl,fun hlt=>?_,fun hge=>⟨rfl,fun h1=>?_,fun h1=>⟨rfl,?_⟩⟩⟩)
 ·intro k2 u2;have hlt:=aHr hlt;have e1:a/b=0:=qs hlt;have e2:a % b=a:=qz hlt;have:=C k2 none 0 A c (u1.trans u2);rw [e1,e2,nw_zero,←h.2]at this;exact this ⟨⟨oz,oy _,fun p hp=>oq⟩,nw_zero.symm⟩ (h.up (u1.trans u2))
 ·have h1:n'=1:=by have:=eq_of_beq h1;omega
  subst h1;have hb32:b<4294967296:=by have:=h'.1.lt;rw [yg]at this;exact this
  have hw:wq b 0=b:=pG hb32;refine⟨h'.1.addr (p:=0) oq,⟨oq,oq⟩,_,(h'.1.up u1).read (p:=0) oq rfl,?_⟩;rw [hw];have hm:a % b<4294967296:=ze (qy _ hb) hb32;refine aAg (h.1.up u1) oq hb hb32 fun k4 A4 c4 u4 hq=>⟨_,_,_,_,rfl,?_⟩;rw [u64n (x:=a % b) oq];exact uC (x:=a % b) oq fun k6 A6 c6 u6 hr=>⟨_,_,_,rfl,fun k7 u7=>C k7 _ _ _ _ (((u1.trans u4).trans u6).trans u7) (hq.up (u6.trans u7)) (hr.up u7)⟩
 ·have hab:=uE hge;have hn0:n'≠0:=fun e=>by have:=h'.zero.1 e;omega
  have hbl:bl b=32*(n'-1)+bl (wq b (n'-1)):=aAd (by rw [xc oq];exact h'.len);have hlo:bl (wq b (n'-1))≠0:=fun e=>by
   have h2:=eP (wq b (n'-1));rw [e]at h2;exact h'.len.top aX oq (by simpa [wq] using h2)
  have hhi:bl (wq b (n'-1))≤32:=dD.2 (bD b (n'-1));refine aYm (h'.up u1) oq fun k9 u9=>⟨_,rfl,?_⟩;obtain⟨s,hs⟩:∃s,s=32*n'-bl b:=⟨_,rfl⟩;have hs32:s<32:=oq
  have es:wrap .i64 ((wrap .i64 (32*(n':Nat)))-((bl b:Nat):Int))=((s:Nat):Int):=by
   rw [w64 (x:=32*((n':Nat):Int)) oq oq,w64 oq oq];omega
  rw [es];refine kZ ((h'.up u1).up u9) oq oq fun k11 A4 c4 u11 hV=>⟨_,_,_,rfl,?_⟩;refine kZ (((h.up u1).up u9).up u11) oq oq fun k13 A5 c5 u13 hA=>⟨_,_,_,rfl,rfl,rfl,?_⟩;replace hV:=hV.up u13;replace C:=fun k' A c A' c' u=>C k' A c A' c' ((((u1.trans u9).trans u11).trans u13).trans u);have hsp:0<2^s:=qk oz;have hs2:2^s≤B:=by rw [sS];exact oc oz oq
  have hquo:a*2^s/(b*2^s)=a/b:=wu _ _ hsp;have hrem:a*2^s % (b*2^s) / 2^s=a % b:=by rw [yc,yf _ hsp]
  have hV0:0<b*2^s:=zb hb hsp;have hVA:b*2^s≤a*2^s:=om _ hab;have hA1:a*2^s<B^(n+1):=by
   rw [ql];exact oo (qa h.1.lt hsp) (qu _ hs2)
  rw [←hquo,←hrem]at C;generalize b*2^s=V at *
  generalize a*2^s=a' at *
  have hl5:nw a'≤n+1:=aI hA1;have hl45:nw V≤nw a':=aW hVA;have hl4:nw V≠0:=fun e=>by have:=aZ.1 e;omega
  have hVlen:=bC V;have hVlow:=hVlen.le oq;have hVtop:=hVlen.top aX oq;generalize hlV:nw V=l4 at *
  obtain⟨L,hL⟩:∃L,L=n+2-l4:=⟨_,rfl⟩;have el:wrap .i64 ((wrap .i64 ((n:Nat)-(l4:Nat)))+2)=((L:Nat):Int):=by
   rw [w64 (x:=((n:Nat):Int)-((l4:Nat):Int)) oq oq,w64 oq oq];omega
  have en:wrap .i64 (((l4:Nat):Int)-1)=((l4-1:Nat):Int):=by rw [w64 oq oq];omega
  rw [el,en,qj,jj];have hstart:a' % (V*B^L)=a':=by
   refine qz (oo hA1 ?_);have e:n+1=(l4-1)+L:=oq
   rw [e,oi];exact om _ hVlow
  refine⟨oq,⟨oq,oq⟩,fun A6 l6 c6 cs7 hl6 hcs7 hlc6=>⟨rfl,?_⟩⟩;subst hl6;refine⟨QInv a' V l6,⟨l6,fun k14 u14=>⟨A6,c6,A5,nw a',c5,?_,hlc6,by rw [hstart];exact hA.up u14,oy _⟩⟩,?_⟩
  ·have e:cs7=dM (fromw (a' / V) l6) l6:=by
    rw [hcs7];refine (lY l6).trans (bM fun i hi=>?_);unfold fromw;rw [oh oq]
   rw [e,w64 oq oq]
  rintro m14 k14 vs14 u14 ⟨A8,c8,A10,l10,c10,rfl,hc8,hr,hm⟩;replace hV:=hV.up u14;replace C:=fun k' A c A' c' u=>C k' A c A' c' (u14.trans u);have hl10:l10≤n+1:=by rw [hr.2];exact qb (aW (Nat.mod_le _ _)) hl5
  have hc10:=hr.1.cap;refine⟨A8,l6,c8,_,qE _ _,A10,l10,c10,_,rfl,fun hp=>?_,fun hp=>?_⟩
  ·have hp:0<m14:=by have:=ow hp;omega
   obtain⟨j,rfl⟩:∃j,m14=j+1:=⟨m14-1,oq⟩;have ej:((j+1:Nat):Int)-1=(j:Int):=oq
   have ej1:wrap .i64 ((j:Int)-1)=(j:Int)-1:=w64 oq oq;rw [ej];intro A12 l12 c12 cs13 hl12 hcs13 hlc12;have skip:∀k17,Up k14 k17→a' % (V*B^(j+1)) / B^j<V→∃m,m<j+1∧∃A8' c8' A10' l10' c10',[Value.tuple #[Value.slice A8 l6 c8,Value.agg (dM (fromw (a' / V) (j+1)) l6)],Value.slice A10 l10 c10,Value.int .i64 (wrap .i64 ((j:Int)-1))]=[.tuple #[.slice A8' l6 c8',.agg (dM (fromw (a' / V) m) l6)],.slice A10' l10' c10',.int .i64 (((m:Nat):Int)-1)]∧l6≤c8'∧NatN k17 A10' l10' c10' (a' % (V*B^m))∧m≤l6:=by
    intro k17 u17 hlt;have hsk:=aQh a' V j hlt;refine⟨j,oq,A8,c8,A10,l10,c10,?_,hc8,?_,oq⟩
    ·rw [aEe _ hsk.2,ej1]
    ·rw [←hsk.1];exact hr.up u17
   refine⟨rfl,fun hlt=>?_,fun hge=>?_⟩
   ·have hlt:j<l10:=by have:=ow hlt;omega
    have hP:=hr.from hlt;have hdig:=aHu a' V j;have hleft:=aQg a' V j;have hskip:=aQh a' V j;have hPlt:a' % (V*B^(j+1)) / B^j<V*B:=by rw [aFi];exact qy _ (zb hV0 aX)
    refine⟨_,_,_,aRj hlt hc10,oP hP hV oq oq fun k16 u16=>⟨_,rfl,fun hneg=>?_,fun hnn=>?_⟩⟩
    ·intro k17 u17;exact skip k17 (u16.trans u17) (aHr hneg)
    ·have hVP:=uE hnn;replace hP:=hP.up u16;replace hV:=hV.up u16;replace hr:=hr.up u16;generalize a' % (V*B^(j+1))=ρ at *
     generalize ρ/B^j=P at *
     have hl14:l4≤l10-j:=by rw [hP.2,←hlV];exact aW hVP
     have hx:=bD P (l4-1);have hy:=bD P l4;have hv:=bD V (l4-1);have hv1:0<wq V (l4-1):=jr hVtop;have hVpart:wq V (l4-1)*B^(l4-1)≤V:=by rw [oa];exact aIk V (l4-1)
     have hP2:P<B^(l4-1+2):=by
      have e:l4-1+2=l4+1:=oq
      rw [e,ql];exact ze hPlt (qa hVlen.lt aX)
     have htw:=aMl hP2;have e41:l4-1+1=l4:=oq
     rw [e41]at htw;have hqB:P/V≤4294967295:=by
      have:P/V<B:=by rw [qg hV0,oa];exact hPlt
      omega
     have hqu:P/V≤P/B^(l4-1) / wq V (l4-1):=pT hVpart hv1 ((qg (qk aX)).1 (uj _)) (zt _ _);have next:∀k' A l c,Up k16 k'→NatN k' A l c (ρ % B^j+B^j*(P-V*(P/V)))→∃m,m<j+1∧∃A8' c8' A10' l10' c10',[Value.tuple #[Value.slice A8 l6 c8,Value.agg (Sy.over (dM (fromw (a' / V) (j+1)) l6) (Int.toNat (j:Int)*1+0) ([Value.int .u32 (wrap .u32 ((P/V:Nat):Int))]))],Value.slice A l c,Value.int .i64 (wrap .i64 ((j:Int)-1))]=[.tuple #[.slice A8' l6 c8',.agg (dM (fromw (a' / V) m) l6)],.slice A10' l10' c10',.int .i64 (((m:Nat):Int)-1)]∧l6≤c8'∧NatN k' A10' l10' c10' (a' % (V*B^m))∧m≤l6:=by
      intro k' A l c u hN;refine⟨j,oq,A8,c8,A,l,c,?_,hc8,?_,oq⟩
      ·rw [hdig,aJl,ej1]
      ·rw [←hleft];exact hN
     have eu:∀ {z:Nat},z<4294967296→wrap .u64 ((z:Nat):Int)=((z:Nat):Int):=fun hz=>u64n oq;have hnz:(decide (((wrap .u64 ((wq V (l4-1):Nat):Int)):Int)≠0))=true:=by rw [eu hv];exact decide_eq_true oq
     refine⟨hP.1.addr (p:=0) oq,⟨oq,oq⟩,_,hP.1.read (p:=l4-1) oq (by rw [qj];omega),rfl,fun hgt=>?_,fun hle=>?_⟩
     ·have hgt:l4<l10-j:=by have:=ow hgt;omega
      refine⟨hP.1.addr (p:=0) oq,⟨oq,oq⟩,_,hP.1.read (p:=l4) hgt (by rw [qj];omega),hV.1.addr (p:=0) oq,⟨oq,oq⟩,_,hV.1.read (p:=l4-1) oq (by rw [qj];omega),hnz,?_⟩;have hdl:(wq P (l4-1)+wq P l4*4294967296) / wq V (l4-1)≤wq P (l4-1)+wq P l4*4294967296:=zo _ _;rw [eu hx,eu hy,shl32 hy,or32' hy hx,u64n (x:=wq P (l4-1)+wq P l4*4294967296) oq,eu hv,←ya,u64n (x:=(wq P (l4-1)+wq P l4*4294967296) / wq V (l4-1)) oq];rw [htw,hBv]at hqu;refine⟨fun hbig=>?_,fun hsm=>?_⟩
      ·exact qtail (I14:=QInv a' V l6) (g:=4294967295) hV hP hr hV0 oq oq oq hlt oq hqB oq next
      ·have hsm:=ov hsm;exact qtail (I14:=QInv a' V l6) hV hP hr hV0 oq oq oq hlt oq hqu oq next
     ·have hle:l10-j≤l4:=by have:=ov hle;omega
      have hz:wq P l4=0:=pU hP.1 hle;refine⟨hV.1.addr (p:=0) oq,⟨oq,oq⟩,_,hV.1.read (p:=l4-1) oq (by rw [qj];omega),hnz,?_⟩;have hdl:wq P (l4-1) / wq V (l4-1)≤wq P (l4-1):=zo _ _;rw [eu hx,eu hv,←ya,u64n (x:=wq P (l4-1) / wq V (l4-1)) oq];rw [htw,hz,je,jl]at hqu;refine⟨fun hbig=>?_,fun hsm=>?_⟩
      ·exact qtail (I14:=QInv a' V l6) (g:=4294967295) hV hP hr hV0 oq oq oq hlt oq hqB oq next
      ·exact qtail (I14:=QInv a' V l6) hV hP hr hV0 oq oq oq hlt oq hqu oq next
   ·have hge:l10≤j:=by have:=ov hge;omega
    intro k82 u82 _;have hz:a' % (V*B^(j+1)) / B^j=0:=qs (oo hr.1.lt (oc aX hge));have h0:NatN k82 A12 l12 c12 0:=by
     subst hl12;exact⟨⟨oz,oq,fun p hp=>oq⟩,nw_zero.symm⟩
    refine oP h0 (hV.up u82) oq oq fun k84 u84=>⟨_,rfl,fun hneg=>?_,fun hnn=>?_⟩
    ·intro k85 u85;exact skip k85 ((u82.trans u84).trans u85) (by rw [hz];exact hV0)
    ·exact absurd (uE hnn) oq
  ·have hp:m14=0:=by have:=ov hp;omega
   subst hp;intro k150 u150 hrow;have er:dM (fromw (a' / V) 0) l6=row (a' / V) l6:=by
    rw [fD];exact bM fun p _=>by unfold fromw;rw [od (jk _)]
   rw [er]at hrow;have hlt:a' / V<B^l6:=by
    rw [qg hV0,oa];have:=qy a' (zb hV0 (qk (n:=l6) aX));rw [hstart]at this;exact this
   refine qT (RowN.of_row hrow hlt hc8) oq fun k152 u152 hQ=>⟨_,_,_,rfl,?_⟩;rw [zy,jj]at hr;refine aJt ((hr.up u150).up u152) oq oq fun k154 A13 c13 u154 hL=>⟨_,_,_,rfl,fun k155 u155=>?_⟩;exact C k155 _ _ _ _ (((u150.trans u152).trans u154).trans u155) (hQ.up (u154.trans u155)) (hL.up u155)
end
section
variable {k k':World}{A A':Option Addr}{n c m n' c' m' a b:Nat}{R:World→Value→Prop}
theorem aJi (h:NatN k A n c a) (h':NatN k A' n' c' b) (hn:n≤34359738368) (hn':n'≤34359738368)
 (C:∀k' A c,Up k k'→NatN k' A (nw (Nat.gcd a b)) c (Nat.gcd a b)→R k' (.slice A (nw (Nat.gcd a b)) c)) :
 Cl k 260 #[.slice A n c,.slice A' n' c'] R:=by
 intro k0 u0;replace h:=h.up u0;replace h':=h'.up u0;replace C:=fun k' A c u=>C k' A c (u0.trans u);refine aBi ⟨fun m k vs=>∃A n c A' n' c' x,vs=[.slice A n c,.slice A' n' c']∧NatN k A n c x∧NatN k A' n' c' m∧n≤34359738368∧n'≤34359738368∧Nat.gcd x m=Nat.gcd a b,⟨b,fun k1 u1=>⟨A,n,c,A',n',c',a,rfl,h.up u1,h'.up u1,hn,hn',rfl⟩⟩,?_⟩;rintro y k1 vs u1 ⟨A,n,c,A',n',c',x,rfl,hx,hy,hn,hn',hg⟩;refine⟨_,_,_,_,_,_,rfl,rfl,fun hp=>?_,fun hp=>?_⟩
 ·have hp:0<n':=by have:=ow hp;omega
  have hy0:0<y:=jr fun e=>by have:=hy.zero.2 e;omega
  refine nM hx hy hn hn' hy0 fun k2 A4 c4 A5 c5 u2 _ hr=>⟨_,_,_,_,_,_,rfl,fun k3 u3=>⟨x % y,qy _ hy0,A',n',c',A5,nw (x % y),c5,y,rfl,(hy.up u2).up u3,hr.up u3,hn',?_,?_⟩⟩
  ·have:=aW (xr (qy x hy0));rw [←hy.2]at this;omega
  ·rw [←hg,xi x y,xi y (x % y)];exact (Nat.gcd_rec y x).symm
 ·have hp:n'=0:=by have:=ov hp;omega
  have hy0:=hy.zero.1 hp;subst hy0;intro k2 u2;rw [wk]at hg;have:=C k2 A c (u1.trans u2);rw [←hg,←hx.2]at this;exact this (hx.up u2)
end
theorem aAk:∀d,d<10→ByteArray.extract ⟨#[48,49,50,51,52,53,54,55,56,57]⟩ d (d+1)=⟨([UInt8.ofNat (48+d)]:List UInt8).toArray⟩:=by
 intro d hd;apply ByteArray.ext
 match d,hd with
 | 0,_=>rfl
 | 1,_=>rfl
 | 2,_=>rfl
 | 3,_=>rfl
 | 4,_=>rfl
 | 5,_=>rfl
 | 6,_=>rfl
 | 7,_=>rfl
 | 8,_=>rfl
 | 9,_=>rfl
theorem bsize (l:List UInt8):ByteArray.size ⟨l.toArray⟩=l.length:=by simp [ByteArray.size]
def todo (q t r:Nat):List UInt8:=if q=0 then dig r else dig q++pad t r
theorem aMj {q t r:Nat}(h:q≠0∨r≠0):todo q (t+1) r=todo q t (r/10)++[UInt8.ofNat (48+r % 10)]:=by
 unfold todo
 by_cases hq:q=0
 ·rw [od hq,od hq,fX oq]
 ·rw [oh hq,oh hq,aCb,ja]
theorem aMk (q:Nat):todo q 0 0=dig q:=by
 unfold todo
 by_cases hq:q=0
 ·rw [od hq,hq]
 ·rw [oh hq];simp [pad,cU]
theorem aRp (t:Nat):todo 0 t 0=dig 0:=by unfold todo;rw [od rfl]
theorem aGe (m:Nat):dig m=todo (m/1000000000) 9 (m % 1000000000):=by
 unfold todo;have e:1000000000=10^9:=oz
 by_cases h:m/1000000000=0
 ·rw [od h]
  congr 1;omega
 ·rw [oh h,e];rw [e]at h;exact pP 9 m h
section
variable {k k':World}{A A':Option Addr}{n c m n' c' m' a b:Nat}{R:World→Value→Prop}
theorem vZ (h:NatN k A n c a):(dig a).length≤10*n:=by
 refine lP _ _ (oo h.1.lt ?_);rw [vq];exact Nat.pow_le_pow_left oz _
theorem aAn (h:NatN k A n c a) (hn:n≤34359738368) (C:∀k',Up k k'→R k' (.string ⟨(dec a).toArray⟩)) :
 Cl k 184 #[.slice A n c] R:=by
 intro k0 u0;replace h:=h.up u0;replace C:=fun k' u=>C k' (u0.trans u);have hlen:=vZ h;refine aEo ⟨fun m k vs=>∃A l c S,vs=[.slice A l c,.string ⟨(S:List UInt8).toArray⟩]∧NatN k A l c m∧l≤34359738368∧dig a=dig m++S,⟨a,fun k1 u1=>⟨A,n,c,[],rfl,h.up u1,hn,(ju _).symm⟩⟩,?_⟩;rintro m k1 vs u1 ⟨A1,l1,c1,S,rfl,h1,hl1,hS⟩;refine⟨_,_,_,_,rfl,rfl,fun hp=>?_,fun hp=>?_⟩
 ·have hp:0<l1:=by have:=ow hp;omega
  have hm0:m≠0:=fun e=>by have:=h1.zero.2 e;omega
  refine aAg (d:=1000000000) h1.1 oq oz oz fun k2 A3 c3 u2 hq=>⟨_,_,_,_,rfl,?_⟩;have hqm:m/1000000000<m:=Nat.div_lt_self (jr hm0) oz;have hql:nw (m/1000000000)≤l1:=by rw [h1.2];exact aW (xr hqm)
  refine⟨fun t k vs=>∃r S,vs=[.string ⟨(S:List UInt8).toArray⟩,.int .u32 ((r:Nat):Int),.int .i64 (((9-t:Nat)):Int)]∧t≤9∧r<10^t∧dig a=todo (m/1000000000) t r++S,⟨9,fun k3 u3=>⟨m % 1000000000,S,rfl,oz,qy _ oz,by rw [hS,←aGe]⟩⟩,?_⟩;rintro t k3 vs u3 ⟨r,S',rfl,ht,hr,hS'⟩;have hSl:S'.length≤10*n:=by rw [hS',og]at hlen;omega
  have hr9:r<1000000000:=oo hr (oc oz ht);refine⟨_,_,_,rfl,fun h9=>?_,fun h9=>?_⟩
  ·have h9:0<t:=by have:=ow h9;omega
   obtain⟨t',rfl⟩:∃t',t=t'+1:=⟨t-1,oq⟩;have em:Int.tmod ((r:Nat):Int) 10=((r % 10:Nat):Int):=(Int.ofNat_tmod r 10).symm;have ed:wrap .u32 (Int.tdiv ((r:Nat):Int) 10)=((r/10:Nat):Int):=by
    have:Int.tdiv ((r:Nat):Int) 10=((r/10:Nat):Int):=(ya r 10).symm;rw [this,mod32,qz (by unfold B;omega)]
   have ew:wrap .u32 (((r % 10:Nat):Int)+1)=((r % 10+1:Nat):Int):=by
    rw [wu32];omega
   have ei:wrap .i64 (((9-(t'+1):Nat):Int)+1)=((9-t':Nat):Int):=by rw [w64 oq oq];omega
   have step:m/1000000000≠0∨r≠0→∃x,x<t'+1∧∃r' S2,[Value.string ((ByteArray.extract ⟨#[48,49,50,51,52,53,54,55,56,57]⟩ (r % 10) (r % 10+1))++⟨S'.toArray⟩),Value.int .u32 ((r/10:Nat):Int),Value.int .i64 ((9-t':Nat):Int)]=[.string ⟨(S2:List UInt8).toArray⟩,.int .u32 ((r':Nat):Int),.int .i64 (((9-x:Nat)):Int)]∧x≤9∧r'<10^x∧dig a=todo (m/1000000000) x r'++S2:=by
    intro hnz;refine⟨t',oq,r/10,UInt8.ofNat (48+r % 10) :: S',?_,oq,?_,?_⟩
    ·rw [aAk _ (qy _ oz),cK];rfl
    ·rw [qg oz,←ql];exact hr
    ·rw [hS',aMj hnz,ja];rfl
   have hsz:(decide (((ByteArray.size (ByteArray.extract ⟨#[48,49,50,51,52,53,54,55,56,57]⟩ (r % 10) (r % 10+1))+ByteArray.size ⟨S'.toArray⟩:Nat):Int)≤9223372036854775807))=true:=by
    rw [aAk _ (qy _ oz),bsize,bsize];exact decide_eq_true (by simp only [ob,ol];omega)
   have hr10:=qy r (show 0<10 by decide);refine⟨rfl,fun hq0=>?_,fun hq0=>⟨fun hr0=>?_,fun hr0=>?_⟩⟩
   ·rw [em,ew,ed,ei,qj,qj];refine⟨decide_eq_true oq,decide_eq_true oq,decide_eq_true oq,hsz,fun k4 u4=>step (Or.inl fun e=>?_)⟩;rw [e,nw_zero]at hq0;exact absurd hq0 oz
   ·rw [em,ew,ed,ei,qj,qj];refine⟨decide_eq_true oq,decide_eq_true oq,decide_eq_true oq,hsz,fun k4 u4=>step (Or.inr fun e=>?_)⟩;rw [e]at hr0;exact absurd hr0 oz
   ·intro k6 u6;have hq0:m/1000000000=0:=aZ.1 (by have:=ov hq0;omega);have hr0:r=0:=by have:=ov hr0;omega
    refine⟨m/1000000000,hqm,A3,_,c3,S',rfl,hq.up (u3.trans u6),oq,?_⟩;rw [hS',hr0,hq0,aRp]
  ·have h9:t=0:=by have:=ov h9;omega
   subst h9;have hr0:r=0:=by rw [zy]at hr;omega
   intro k7 u7;refine⟨m/1000000000,hqm,A3,_,c3,S',rfl,hq.up (u3.trans u7),oq,?_⟩;rw [hS',hr0,aMk]
 ·have hp:l1=0:=by have:=ov hp;omega
  have hm0:=h1.zero.1 hp;subst hm0;rw [cU,wn]at hS;have ez:(ByteArray.toList ⟨S.toArray⟩ == ByteArray.toList ⟨#[]⟩)=decide (a=0):=by
   rw [iS,iS,vz,beq_iff_eq,decide_eq_true_iff];constructor
   ·intro e;refine Decidable.byContradiction fun h0=>?_;have:=xW h0;rw [hS]at this;have e:S=[]:=by simpa using e
    rw [e]at this;exact absurd this oz
   ·intro e;rw [e,cU]at hS;rw [←hS]
  rw [ez];refine⟨fun h0=>?_,fun h0=>?_⟩
  ·intro k8 u8;have:=C k8 (u1.trans u8);unfold dec at this;rw [od (ow h0)]at this;exact this
  ·intro k8 u8;have:=C k8 (u1.trans u8);unfold dec at this;rw [oh (ov h0),hS]at this;exact this
end
end Go.Proofs.YtifcjpacobpdmaaGreat.W32

namespace Go.Proofs.YtifcjpacobpdmaaGreat
open IntKind (wrap)
open Go.RowKit
open Value (agg slice int bool tuple)
open Sy (Up Sees CallsG Seg execFn_use)
set_option maxRecDepth 100000
variable {k:World}{R:World→Value→Prop}{b0:Bool}{A1 A2:Option Addr}{c1 c2 l1 l2:Nat}{n0:Int}
theorem aQc 
 (h:Tt∧(Br (((l1:Nat):Int) == 0) (∀p3 k0,Up k k0→Sy.Blk k0 p3 64 #[int .u32 1]→
 Rt R k0 (agg #[bool false,slice none 0 0,slice (some ⟨p3,0,none⟩) 1 1])) (Cl k 260 #[slice A1 l1 c1,slice A2 l2 c2] fun k3 r2=>∃A3 l3 c3,some (slice A3 l3 c3)=some r2∧
 Cl k3 261 #[slice A1 l1 c1,slice A3 l3 c3] fun k5 r4=>∃A4 l4 c4,∃A5 l5 c5,some (tuple #[slice A4 l4 c4,slice A5 l5 c5])=some r4∧
 Cl k5 261 #[slice A2 l2 c2,slice A3 l3 c3] fun k7 r6=>∃A6 l6 c6,∃A7 l7 c7,some (tuple #[slice A6 l6 c6,slice A7 l7 c7])=some r6∧
 Rt R k7 (agg #[bool b0,slice A4 l4 c4,slice A6 l6 c6])))) :
  CallsG Tryz.prog 173 #[bool b0,slice A1 l1 c1,slice A2 l2 c2] k R:=
  qY { opq:=[] } h
theorem aLf 
 (h:Br (decide ((n0:Int)<0)) (Cl k 174 #[int .u64 (wrap .u64 (0-(wrap .u64 n0)))] fun k1 r0=>∃A1 l1 c1,some (slice A1 l1 c1)=some r0∧
 ∀p2 k2,Up k1 k2→Sy.Blk k2 p2 64 #[int .u32 1]→
 Cl k2 173 #[bool true,slice A1 l1 c1,slice (some ⟨p2,0,none⟩) 1 1] fun k4 r3=>∃b3,∃A4 l4 c4,∃A5 l5 c5,some (agg #[bool b3,slice A4 l4 c4,slice A5 l5 c5])=some r3∧
 Rt R k4 (agg #[bool b3,slice A4 l4 c4,slice A5 l5 c5])) (Cl k 174 #[int .u64 (wrap .u64 n0)] fun k7 r6=>∃A1 l1 c1,some (slice A1 l1 c1)=some r6∧
 ∀p2 k8,Up k7 k8→Sy.Blk k8 p2 64 #[int .u32 1]→
 Cl k8 173 #[bool false,slice A1 l1 c1,slice (some ⟨p2,0,none⟩) 1 1] fun k10 r9=>∃b3,∃A4 l4 c4,∃A5 l5 c5,some (agg #[bool b3,slice A4 l4 c4,slice A5 l5 c5])=some r9∧
 Rt R k10 (agg #[bool b3,slice A4 l4 c4,slice A5 l5 c5]))) :
  CallsG Tryz.prog 89 #[int .i64 n0] k R:=
  qY { opq:=[] } h
theorem aLe 
 (h:Tt∧(Br (((l2:Nat):Int) == 0) (∀p3 k0,Up k k0→Sy.Blk k0 p3 64 #[int .u32 1]→
 Rt R k0 (slice (some ⟨p3,0,none⟩) 1 1)) (Rt R k (slice A2 l2 c2)))) :
  CallsG Tryz.prog 175 #[agg #[bool b0,slice A1 l1 c1,slice A2 l2 c2]] k R:=
  qY { opq:=[] } h
theorem aQf 
 (h:Tt∧(Rt R k (bool (((l1:Nat):Int) == 0)))) :
 CallsG Tryz.prog 162 #[agg #[bool b0,slice A1 l1 c1,slice A2 l2 c2]] k R:=
 qY { opq:=[] } h
theorem aQd 
 (h:Cl k 162 #[agg #[bool b0,slice A1 l1 c1,slice A2 l2 c2]] fun k1 r0=>Gb r0 fun b3=>
 Br b3 (Rt R k1 (int .i64 0)) (Br b0 (Rt R k1 (int .i64 (-1))) (Rt R k1 (int .i64 1)))) :
  CallsG Tryz.prog 182 #[agg #[bool b0,slice A1 l1 c1,slice A2 l2 c2]] k R:=
  qY { opq:=[] } h
theorem aQe 
 (h:Cl k 184 #[slice A1 l1 c1] fun k1 r0=>∃s3,some (Value.string s3)=some r0∧
 Br b0 (Cl k1 162 #[agg #[bool b0,slice A1 l1 c1,slice A2 l2 c2]] fun k3 r2=>Gb r2 fun b4=>
 Br (!b4) ((decide (((ByteArray.size ⟨#[45]⟩+ByteArray.size s3:Nat):Int)≤9223372036854775807))=true∧
 (Cl k3 175 #[agg #[bool b0,slice A1 l1 c1,slice A2 l2 c2]] fun k5 r4=>∃A5 l5 c5,some (slice A5 l5 c5)=some r4∧
 ∀p6 k6,Up k5 k6→Sy.Blk k6 p6 64 #[int .u32 1]→
 Cl k6 178 #[slice A5 l5 c5,slice (some ⟨p6,0,none⟩) 1 1] fun k8 r7=>Gi r7 fun n7=>
 Br (decide ((n7:Int) > 0)) ((decide (((ByteArray.size (⟨#[45]⟩++s3)+ByteArray.size ⟨#[47]⟩:Nat):Int)≤9223372036854775807))=true∧
 (Cl k8 184 #[slice A2 l2 c2] fun k10 r9=>∃s8,some (Value.string s8)=some r9∧
 (decide (((ByteArray.size ((⟨#[45]⟩++s3)++⟨#[47]⟩)+ByteArray.size s8:Nat):Int)≤9223372036854775807))=true∧
 (Rt R k10 (Value.string (((⟨#[45]⟩++s3)++⟨#[47]⟩)++s8))))) (Rt R k8 (Value.string (⟨#[45]⟩++s3))))) (Cl k3 175 #[agg #[bool b0,slice A1 l1 c1,slice A2 l2 c2]] fun k14 r13=>∃A5 l5 c5,some (slice A5 l5 c5)=some r13∧
 ∀p6 k15,Up k14 k15→Sy.Blk k15 p6 64 #[int .u32 1]→
 Cl k15 178 #[slice A5 l5 c5,slice (some ⟨p6,0,none⟩) 1 1] fun k17 r16=>Gi r16 fun n7=>
 Br (decide ((n7:Int) > 0)) ((decide (((ByteArray.size s3+ByteArray.size ⟨#[47]⟩:Nat):Int)≤9223372036854775807))=true∧
 (Cl k17 184 #[slice A2 l2 c2] fun k19 r18=>∃s8,some (Value.string s8)=some r18∧
 (decide (((ByteArray.size (s3++⟨#[47]⟩)+ByteArray.size s8:Nat):Int)≤9223372036854775807))=true∧
 (Rt R k19 (Value.string ((s3++⟨#[47]⟩)++s8))))) (Rt R k17 (Value.string s3)))) (Cl k1 175 #[agg #[bool b0,slice A1 l1 c1,slice A2 l2 c2]] fun k23 r22=>∃A4 l4 c4,some (slice A4 l4 c4)=some r22∧
 ∀p5 k24,Up k23 k24→Sy.Blk k24 p5 64 #[int .u32 1]→
 Cl k24 178 #[slice A4 l4 c4,slice (some ⟨p5,0,none⟩) 1 1] fun k26 r25=>Gi r25 fun n6=>
 Br (decide ((n6:Int) > 0)) ((decide (((ByteArray.size s3+ByteArray.size ⟨#[47]⟩:Nat):Int)≤9223372036854775807))=true∧
 (Cl k26 184 #[slice A2 l2 c2] fun k28 r27=>∃s7,some (Value.string s7)=some r27∧
 (decide (((ByteArray.size (s3++⟨#[47]⟩)+ByteArray.size s7:Nat):Int)≤9223372036854775807))=true∧
 (Rt R k28 (Value.string ((s3++⟨#[47]⟩)++s7))))) (Rt R k26 (Value.string s3)))) :
   CallsG Tryz.prog 95 #[agg #[bool b0,slice A1 l1 c1,slice A2 l2 c2]] k R:=
  qY { opq:=[] } h
end Go.Proofs.YtifcjpacobpdmaaGreat

namespace Go.Proofs.YtifcjpacobpdmaaGreat.W32
open IntKind (wrap)
open Go.RowKit Num
open Sy (Up Sees CallsG cellAt ReadAt ReadIn RowAt RowC sizeOk)
structure QN (k:World) (b:Bool) (A:Option Addr) (l c:Nat) (A':Option Addr) (l' c':Nat) (q:Rat):Prop where
 n:NatN k A l c q.num.natAbs
 d:NatN k A' l' c' q.den
 s:b=decide (q.num<0)
def qv (b:Bool) (A:Option Addr) (l c:Nat) (A':Option Addr) (l' c':Nat):Value:=.agg #[.bool b,.slice A l c,.slice A' l' c']
theorem nw_one:nw 1=1:=iQ (Len.one oz oz)
theorem aZl {m:Nat}(h:0<m):0<nw m:=jr fun e=>by have:=aZ.1 e;omega
section
variable {k k':World}{A A':Option Addr}{n c m n' c' m' a b l l':Nat}{R:World→Value→Prop}{x q:Rat}{g:Bool}
theorem QN.up (h:QN k g A l c A' l' c' q) (hu:Up k k'):QN k' g A l c A' l' c' q:=⟨h.n.up hu,h.d.up hu,h.s⟩
theorem NatN.none (k:World):NatN k none 0 0 0:=⟨⟨oz,oy _,fun p hp=>oq⟩,nw_zero.symm⟩
theorem pY {p:Nat}(h:Sy.Blk k p 64 #[Value.int .u32 1]):NatN k (some ⟨p,0,none⟩) 1 1 1:=
 ⟨⟨oz,oy _,fun q hq=>by
   have:q=0:=oq
   subst this;unfold cellAt;simp only [jx,h.cell]
   rfl⟩,nw_one.symm⟩
def RQ (R:World→Value→Prop) (k:World) (q:Rat):Prop:=∀k' b A l c A' l' c',Up k k'→QN k' b A l c A' l' c' q→R k' (.agg #[.bool b,.slice A l c,.slice A' l' c'])
theorem aNs (h:NatN k A n c a) (h':NatN k A' n' c' b) (hb:0<b) (hn:n≤34359738368) (hn':n'≤34359738368) (C:RQ R k (mkRat (sgn g a) b)) :
 Cl k 173 #[.bool g,.slice A n c,.slice A' n' c'] R:=by
 intro k0 u0;replace h:=h.up u0;replace h':=h'.up u0;replace C:RQ R k0 (mkRat (sgn g a) b):=fun k' b A l c A' l' c' u=>C k' b A l c A' l' c' (u0.trans u);have hab:=gY (sgn g a) hb;have hdn:=jG (sgn g a) hb;have hng:=pV (sgn g a) hb;rw [mC]at hab hdn;rw [aIb]at hng;refine aQc ⟨rfl,fun hz=>?_,fun hz=>?_⟩
 ·intro p k1 u1 hblk k2 u2;have hz:n=0:=by have:=eq_of_beq hz;omega
  have ha:=h.zero.1 hz;subst ha;have e1:(mkRat (sgn g 0) b).num.natAbs=0:=by rw [hab,Nat.zero_div]
  have e2:(mkRat (sgn g 0) b).den=1:=by rw [hdn,Nat.gcd_zero_left,Nat.div_self hb]
  refine C k2 _ _ _ _ _ _ _ (u1.trans u2) ⟨?_,?_,?_⟩
  ·rw [e1];exact NatN.none k2
  ·rw [e2];exact (pY hblk).up u2
  ·rw [hng];simp
 ·have hz:n≠0:=fun e=>by rw [e]at hz;exact absurd hz oz
  have ha:0<a:=jr fun e=>hz (h.zero.2 e);have hg0:0<Nat.gcd a b:=xa _ ha;have hgl:nw (Nat.gcd a b)≤34359738368:=by
   have:=aW (Nat.le_of_dvd ha (xl a b));rw [←h.2]at this;omega
  refine aJi h h' hn hn' fun k3 A3 c3 u3 hG=>⟨_,_,_,rfl,?_⟩;refine nM (h.up u3) hG hn hgl hg0 fun k5 A4 c4 A5 c5 u5 hQ _=>⟨_,_,_,_,_,_,rfl,?_⟩;refine nM ((h'.up u3).up u5) (hG.up u5) hn' hgl hg0 fun k7 A6 c6 A7 c7 u7 hD _=>⟨_,_,_,_,_,_,rfl,fun k8 u8=>?_⟩;refine C k8 _ _ _ _ _ _ _ (((u3.trans u5).trans u7).trans u8) ⟨?_,?_,?_⟩
  ·rw [hab];exact hQ.up (u7.trans u8)
  ·rw [hdn];exact hD.up u8
  ·rw [hng,decide_eq_true ha,Bool.and_true]
theorem kF {z:Int}(h0:-9223372036854775808≤z) (h1:z≤9223372036854775807) (C:RQ R k (z:Rat)) :
 Cl k 89 #[.int .i64 z] R:=by
 intro k0 u0;replace C:RQ R k0 (z:Rat):=fun k' b A l c A' l' c' u=>C k' b A l c A' l' c' (u0.trans u);have small:nw z.natAbs≤2:=aI (by unfold B;omega);have fin:∀ {k1 k2 k3:World}{g:Bool}{A:Option Addr}{l c p:Nat},sgn g z.natAbs=z→Up k0 k1→NatN k1 A (nw z.natAbs) c z.natAbs→Up k1 k2→Sy.Blk k2 p 64 #[Value.int .u32 1]→Up k2 k3→
  CallsG Tryz.prog 173 #[Value.bool g,Value.slice A (nw z.natAbs) c,Value.slice (some ⟨p,0,none⟩) 1 1] k3 fun k4 r3=>∃b3,∃A4 l4 c4,∃A5 l5 c5,some (Value.agg #[Value.bool b3,Value.slice A4 l4 c4,Value.slice A5 l5 c5])=some r3∧∀k5,Up k4 k5→R k5 (Value.agg #[Value.bool b3,Value.slice A4 l4 c4,Value.slice A5 l5 c5]):=by
  intro k1 k2 k3 g A l c p hz u1 hN u2 hblk u3;refine aNs (k:=k2) (hN.up u2) (pY hblk) oz oq oz (fun k4 b A4 l4 c4 A5 l5 c5 u4 hQ=>⟨_,_,_,_,_,_,_,rfl,fun k5 u5=>?_⟩) k3 u3;refine C k5 _ _ _ _ _ _ _ (((u1.trans u2).trans u4).trans u5) ?_;rw [hz,Rat.mkRat_one]at hQ;exact hQ.up u5
 refine aLf ⟨fun hn=>?_,fun hn=>?_⟩
 ·have hn:=ow hn;have e:wrap .u64 (0-wrap .u64 z)=((z.natAbs:Nat):Int):=by rw [IntKind.wrap_u64,IntKind.wrap_u64];omega
  rw [e];exact uC oq fun k1 A1 c1 u1 hN=>⟨_,_,_,rfl,fun p k2 u2 hb k3 u3=>fin (l:=0) (by unfold sgn;simp;omega) u1 hN u2 hb u3⟩
 ·have hn:=ov hn;have e:wrap .u64 z=((z.natAbs:Nat):Int):=by rw [IntKind.wrap_u64];omega
  rw [e];exact uC oq fun k1 A1 c1 u1 hN=>⟨_,_,_,rfl,fun p k2 u2 hb k3 u3=>fin (l:=0) (by unfold sgn;simp;omega) u1 hN u2 hb u3⟩
theorem eG (h:QN k g A l c A' l' c' q) (C:∀k' A c,Up k k'→NatN k' A (nw q.den) c q.den→R k' (.slice A (nw q.den) c)) :
 Cl k 175 #[.agg #[.bool g,.slice A l c,.slice A' l' c']] R:=by
 intro k0 u0;replace h:=h.up u0;have hd:=aZl q.den_pos;have hl:=h.d.2;refine aLe ⟨rfl,fun hz=>?_,fun hz=>fun k1 u1=>?_⟩
 ·have:=eq_of_beq hz;omega
 ·have:=C k1 A' c' (u0.trans u1);rw [←hl]at this;exact this (h.d.up u1)
theorem aGk (h:QN k g A l c A' l' c' q) (C:∀k',Up k k'→R k' (.bool (decide (q=0)))) :
 Cl k 162 #[.agg #[.bool g,.slice A l c,.slice A' l' c']] R:=by
 intro k0 u0;refine aQf ⟨rfl,fun k1 u1=>?_⟩;have e:(((l:Nat):Int) == 0)=decide (q=0):=by
  rw [vz,beq_iff_eq,decide_eq_true_iff];have h1:=h.n.zero;rw [←Rat.num_eq_zero];omega
 rw [e];exact C k1 (u0.trans u1)
theorem aZw (h:QN k g A l c A' l' c' q) (C:∀k',Up k k'→R k' (.int .i64 q.num.sign)) :
 Cl k 182 #[.agg #[.bool g,.slice A l c,.slice A' l' c']] R:=by
 intro k0 u0;replace h:=h.up u0;replace C:=fun k' u=>C k' (u0.trans u);have hs:=h.s;refine aQd (aGk h fun k1 u1=>⟨_,rfl,fun hz=>?_,fun hz=>⟨fun hg=>?_,fun hg=>?_⟩⟩)
 ·intro k2 u2;have hz:=ow hz;have:=C k2 (u1.trans u2);rw [hz]at this;exact this
 ·intro k2 u2;rw [hg]at hs;have:=C k2 (u1.trans u2);rw [Int.sign_eq_neg_one_of_neg (ow hs.symm)]at this;exact this
 ·intro k2 u2;rw [hg]at hs;have hz:=ov hz;have h0:q.num≠0:=fun e=>hz (Rat.num_eq_zero.1 e);have:=C k2 (u1.trans u2);rw [ko (by have:=ov hs.symm;omega)]at this;exact this
end
section
variable {k k':World}{A A':Option Addr}{n c m n' c' m' a b l l':Nat}{R:World→Value→Prop}{x q:Rat}{g:Bool}
theorem aKj {z:Int}(h:z.natAbs≤9223372036854775808):nw z.natAbs≤2:=aI (by unfold B;omega)
theorem lO (h:NatN k A n c a):(dec a).length≤10*n+1:=by
 unfold dec;split
 ·simp
 ·exact Nat.le_succ_of_le (vZ h)
theorem aVu (h:QN k g A l c A' l' c' q) (hl:l≤34359738368) (hl':l'≤34359738368) (C:∀k',Up k k'→R k' (.string ⟨(aE q).toArray⟩)) :
 Cl k 95 #[.agg #[.bool g,.slice A l c,.slice A' l' c']] R:=by
 intro k0 u0;replace h:=h.up u0;replace C:=fun k' u=>C k' (u0.trans u);have hs:=h.s;have hld:=h.d.2;have hsn:=lO h.n;have hsd:=lO h.d
 -- from the sign on
 have tail:∀ {k1 k4:World}(s:List UInt8),Up k0 k1→s.length≤10*l+2→aE q=s++(if q.den=1 then [] else 47 :: dec q.den)→
  Up k1 k4→CallsG Tryz.prog 175 #[Value.agg #[Value.bool g,Value.slice A l c,Value.slice A' l' c']] k4 fun k5 r4=>∃A5 l5 c5,some (Value.slice A5 l5 c5)=some r4∧
  ∀p6 k6,Up k5 k6→Sy.Blk k6 p6 64 #[Value.int .u32 1]→
  Cl k6 178 #[Value.slice A5 l5 c5,Value.slice (some ⟨p6,0,none⟩) 1 1] fun k8 r7=>∃n7,some (Value.int .i64 n7)=some r7∧
  ((decide ((n7:Int) > 0))=true→
  ((decide (((ByteArray.size ⟨s.toArray⟩+ByteArray.size ⟨#[47]⟩:Nat):Int)≤9223372036854775807))=true∧
  (Cl k8 184 #[Value.slice A' l' c'] fun k10 r9=>∃s8,some (Value.string s8)=some r9∧
  (decide (((ByteArray.size (⟨s.toArray⟩++⟨#[47]⟩)+ByteArray.size s8:Nat):Int)≤9223372036854775807))=true∧
  (∀k11,Up k10 k11→R k11 (Value.string ((⟨s.toArray⟩++⟨#[47]⟩)++s8))))))∧
  ((decide ((n7:Int) > 0))=false→
  (∀k12,Up k8 k12→R k12 (Value.string ⟨s.toArray⟩))):=by
  intro k1 k4 s u1 hlen hr u4;refine eG (h.up u1) (fun k5 A5 c5 u5 hD=>⟨_,_,_,rfl,fun p k6 u6 hblk=>?_⟩) k4 u4;refine oP (hD.up u6) (pY hblk) oq oz fun k8 u8=>⟨_,rfl,fun h1=>?_,fun h1=>?_⟩
  ·have h1:=aHs h1;rw [oh oq]at hr;have e1:(⟨s.toArray⟩++⟨#[47]⟩:ByteArray)=⟨(s++[47]).toArray⟩:=cK s [47];have e0:ByteArray.size ⟨#[47]⟩=1:=rfl;refine⟨decide_eq_true (by rw [bsize,e0];omega),aAn (h.d.up (((u1.trans u5).trans u6).trans u8)) hl' fun k10 u10=>⟨_,rfl,?_,fun k11 u11=>?_⟩⟩
   ·rw [e1,bsize,bsize,og];exact decide_eq_true (by simp only [ob,ol];omega)
   ·have:=C k11 (((((u1.trans u5).trans u6).trans u8).trans u10).trans u11);rw [e1,cK,ja];rw [hr]at this;exact this
  ·have h1:=aBu h1;have hd1:q.den=1:=by have:=q.den_pos;omega
   rw [od hd1,ju]at hr;intro k12 u12;have:=C k12 ((((u1.trans u5).trans u6).trans u8).trans u12);rw [hr]at this;exact this
 refine aQe (aAn h.n hl fun k1 u1=>⟨_,rfl,fun hg=>?_,fun hg=>?_⟩)
 ·rw [hg]at hs;have hneg:=ow hs.symm;subst hg;refine aGk (h.up u1) fun k3 u3=>⟨_,rfl,fun hz=>⟨?_,fun k4 u4=>?_⟩,fun hz=>?_⟩
  ·have e0:ByteArray.size ⟨#[45]⟩=1:=rfl;exact decide_eq_true (by rw [e0,bsize];omega)
  ·have e1:(⟨#[45]⟩++⟨(dec q.num.natAbs).toArray⟩:ByteArray)=⟨(45 :: dec q.num.natAbs).toArray⟩:=cK [45] _;rw [e1];exact tail (k1:=k3) (45 :: dec q.num.natAbs) (u1.trans u3) (by simp only [ob];omega) (by unfold aE;rw [od hneg];rfl) u4
  ·exfalso;have h0:q≠0:=fun e=>by rw [e]at hneg;exact absurd hneg oz
   rw [decide_eq_false h0]at hz;exact absurd hz oz
 ·rw [hg]at hs;have hpos:=ov hs.symm;subst hg;exact fun k22 u22=>tail (k1:=k1) (dec q.num.natAbs) u1 oq (by unfold aE;rw [oh hpos];rfl) u22
end
end Go.Proofs.YtifcjpacobpdmaaGreat.W32

namespace Go.Proofs.YtifcjpacobpdmaaGreat
open Go.RowKit
open Value (agg slice int bool tuple)
open Sy (Up Sees CallsG Seg execFn_use)
set_option maxRecDepth 100000
variable {k:World}{R:World→Value→Prop}
end Go.Proofs.YtifcjpacobpdmaaGreat

namespace Go.Proofs.YtifcjpacobpdmaaGreat.W32
open Go.RowKit Num
open Sy (Up Sees CallsG cellAt ReadAt ReadIn RowAt RowC sizeOk)
def RB (R:World→Value→Prop) (k:World) (q:Rat) (K:Nat):Prop:=∀k' b A l c A' l' c',Up k k'→QN k' b A l c A' l' c' q→l≤K→l'≤K→R k' (.agg #[.bool b,.slice A l c,.slice A' l' c'])
section
variable {k k':World}{A A':Option Addr}{n c m n' c' m' a b l l':Nat}{R:World→Value→Prop}{x y q:Rat}{g:Bool}
theorem aEd {K:Nat}(h:NatN k A n c a) (h':NatN k A' n' c' b) (hb:0<b) (hn:n≤K) (hn':n'≤K) (hK:K≤34359738368) (hq:mkRat (sgn g a) b=q) (C:RB R k q K) :
 Cl k 173 #[.bool g,.slice A n c,.slice A' n' c'] R:=by
 refine aNs h h' hb oq oq fun k1 b1 A1 l1 c1 A2 l2 c2 u1 hQ=>?_;have hab:=gY (sgn g a) hb;have hdn:=jG (sgn g a) hb;rw [mC]at hab hdn;have e1:l1≤n:=by rw [hQ.n.2,h.2,hab];exact aW (zo _ _)
 have e2:l2≤n':=by rw [hQ.d.2,h'.2,hdn];exact aW (zo _ _)
 rw [hq]at hQ;exact C k1 b1 A1 l1 c1 A2 l2 c2 u1 hQ oq oq
section
variable {K L:Nat}{g':Bool}{Ax Ax' Ay Ay':Option Addr}{lx cx lx' cx' ly cy ly' cy':Nat}
end
end
section
variable {k k':World}{A A':Option Addr}{n c m n' c' m' a b l l':Nat}{R:World→Value→Prop}{x y q:Rat}{g:Bool}
variable {K L:Nat}{g':Bool}{Ax Ax' Ay Ay':Option Addr}{lx cx lx' cx' ly cy ly' cy':Nat}
end
open Sy (Up Sees CallsG Seg)
def QV (k:World) (cs:Array Value) (q:Rat) (K:Nat):Prop:=∃b A l c A' l' c',cs=#[.bool b,.slice A l c,.slice A' l' c']∧QN k b A l c A' l' c' q∧l≤K∧l'≤K
section
variable {k k':World}{cs cs':Array Value}{R:World→Value→Prop}{x y q:Rat}{K L:Nat}
theorem QV.up (h:QV k cs q K) (u:Up k k'):QV k' cs q K:=by
 obtain⟨b,A,l,c,A',l',c',h1,h2,h3,h4⟩:=h;exact⟨b,A,l,c,A',l',c',h1,h2.up u,h3,h4⟩
theorem QV.mono (h:QV k cs q K) (hL:K≤L):QV k cs q L:=by
 obtain⟨b,A,l,c,A',l',c',h1,h2,h3,h4⟩:=h;exact⟨b,A,l,c,A',l',c',h1,h2,oq,oq⟩
theorem QV.seg (h:QV k cs q K):Seg 3 cs:=by
 obtain⟨b,A,l,c,A',l',c',rfl,h2,h3,h4⟩:=h;exact⟨rfl,by simp [Value.scalar,Value.noWord]⟩
theorem mH {z:Int}(h0:-9223372036854775808≤z) (h1:z≤9223372036854775807) (C:∀k' ds,Up k k'→QV k' ds (z:Rat) 2→R k' (.agg ds)) :
 Cl k 89 #[.int .i64 z] R:=by
 refine W32.kF h0 h1 fun k1 b A l c A' l' c' u1 hQ=>C k1 _ u1 ⟨b,A,l,c,A',l',c',rfl,hQ,?_,?_⟩
 ·rw [hQ.n.2,Rat.num_intCast];exact aKj oq
 ·rw [hQ.d.2,Rat.den_intCast,nw_one];decide
theorem zV (hx:QV k cs x K) (C:∀k',Up k k'→R k' (.bool (decide (x=0)))) :
 Cl k 162 #[.agg cs] R:=by
 obtain⟨_,_,_,_,_,_,_,rfl,hx,l1,l2⟩:=hx;exact W32.aGk hx C
theorem zC (hx:QV k cs x K) (C:∀k',Up k k'→R k' (.int .i64 x.num.sign)) :
 Cl k 182 #[.agg cs] R:=by
 obtain⟨_,_,_,_,_,_,_,rfl,hx,l1,l2⟩:=hx;exact W32.aZw hx C
theorem gJ (hx:QV k cs x K) (hK:K≤34359738368) (C:∀k',Up k k'→R k' (.string ⟨(aE x).toArray⟩)) :
 Cl k 95 #[.agg cs] R:=by
 obtain⟨_,_,_,_,_,_,_,rfl,hx,l1,l2⟩:=hx;exact aVu hx oq oq C
end
