/- Several texts in one. (Printed by prep.py.) -/
import Derived.Test.YtifcjpacobpdmaaGreatReRP
namespace Go.Proofs.YtifcjpacobpdmaaGreat
open IntKind (wrap)
open Go.RowKit
open Value (agg slice int bool tuple)
open Sy (Up Sees CallsG Seg execFn_use)
set_option maxRecDepth 100000
variable {k:World}{R:World→Value→Prop}
theorem aFn {n0:Nat}
 (h:Br (Ieee.Format.order (FloatKind.format .f32) n0 4286578687 == some Ordering.gt || Ieee.Format.order (FloatKind.format .f32) n0 4286578687 == some Ordering.eq) (Rt R k (bool (Ieee.Format.order (FloatKind.format .f32) n0 2139095039 == some Ordering.lt || Ieee.Format.order (FloatKind.format .f32) n0 2139095039 == some Ordering.eq))) (Rt R k (bool false))) :
 CallsG Tryz.prog 80 #[Value.float .f32 n0] k R:=
 qX { opq:=[] } [.one (.var 0)] [Value.float .f32 n0] [.flt .f32] ⟨⟨_,rfl⟩,trivial⟩ h
theorem aLz {n0:Nat}
 (h:∀n1,Sy.F2F .f32 .f64 n0 n1→
 Cl k 138 #[Value.float .f64 n1] fun k1 r0=>∃cs2,Seg 3 cs2∧∃n3,some (tuple #[agg cs2,int .i64 n3])=some r0∧
 Rt R k1 (agg cs2)) :
  CallsG Tryz.prog 83 #[Value.float .f32 n0] k R:=
  qX { opq:=[42],nanc:=true } [.one (.var 0)] [Value.float .f32 n0] [.flt .f32] ⟨⟨_,rfl⟩,trivial⟩ h
def bAd (z:Nat) (k:World) (R:World→Value→Prop) (A0:Option Addr) (l0 c0:Nat):Prop:=
 Cl k 87 #[] fun k1 r0=>Gt 288 r0 fun cs1=>
 Cl k1 88 #[slice A0 l0 c0,int .i64 (z:Nat)] fun k3 r2=>Gi r2 fun n2=>
 Br ((n2:Int) != 0) (Rt R k3 (tuple #[agg cs1,int .i64 n2])) (Tt∧(Cl k3 89 #[int .i64 (wrap .i64 (Int.tdiv (l0:Nat) 24))] fun k6 r5=>Gt 3 r5 fun cs3=>
 ∃I7:Nat→World→List Value→Prop,(∃m7,∀k7,Up k6 k7→I7 m7 k7 [int .i64 0,agg cs1])∧
 ∀m7 k7 vs7,Up k6 k7→I7 m7 k7 vs7→∃n4,∃cs5,Seg 288 cs5∧some [int .i64 n4,agg cs5]=some vs7∧
 Br (decide ((n4:Int)<24)) (Cl k7 89 #[int .i64 0] fun k9 r8=>Gt 3 r8 fun cs6=>
 ∃I10:Nat→World→List Value→Prop,(∃m10,∀k10,Up k9 k10→I10 m10 k10 [int .i64 n4,agg cs6])∧
 ∀m10 k10 vs10,Up k9 k10→I10 m10 k10 vs10→∃n7,∃cs8,Seg 3 cs8∧some [int .i64 n7,agg cs8]=some vs10∧
 Tt∧(Br (decide ((n7:Int)<(l0:Nat))) (Ad A0∧Ix n7 l0∧
 Ad A0∧Ix n7 l0∧
 ∃n9:Nat,Sy.ReadAt k10.cell? A0 (Int.toNat n7*3+z) 1 (Value.float .f32 n9)∧
 Cl k10 83 #[Value.float .f32 n9] fun k12 r11=>Gt 3 r11 fun cs10=>
 Cl k12 90 #[agg cs8,agg cs10] fun k14 r13=>Gt 3 r13 fun cs11=>
 ∀k15,Up k14 k15→∃m,m<m10∧I10 m k15 [int .i64 (wrap .i64 (n7+24)),agg cs11]) (Cl k10 91 #[agg cs8,agg cs3] fun k17 r16=>Gt 3 r16 fun cs9=>
 Cl k17 82 #[agg cs9] fun k19 r18=>Gt 12 r18 fun cs10=>
 (decide ((0:Int)≤n4∧(n4:Int)<24))=true∧
 (∀k20,Up k19 k20→∃m,m<m7∧I7 m k20 [int .i64 (wrap .i64 (n4+1)),agg (Sy.over cs5 (Int.toNat n4*12+0) cs10.toList)])))) (Rt R k7 (tuple #[agg cs5,int .i64 0]))))
def bBo (z:Nat) (k:World) (R:World→Value→Prop) (A0:Option Addr) (l0 c0:Nat):Prop:=
 Cl k 88 #[slice A0 l0 c0,int .i64 (z:Nat)] fun k1 r0=>Gi r0 fun n1=>
 Br ((n1:Int) != 0) (Cl k1 89 #[int .i64 0] fun k3 r2=>Gt 3 r2 fun cs2=>
 Rt R k3 (tuple #[agg cs2,int .i64 n1])) (Cl k1 89 #[int .i64 0] fun k6 r5=>Gt 3 r5 fun cs2=>
 ∃I7:Nat→World→List Value→Prop,(∃m7,∀k7,Up k6 k7→I7 m7 k7 [int .i64 0,agg cs2])∧
 ∀m7 k7 vs7,Up k6 k7→I7 m7 k7 vs7→∃n3,∃cs4,Seg 3 cs4∧some [int .i64 n3,agg cs4]=some vs7∧
 Tt∧(Br (decide ((n3:Int)<(l0:Nat))) (∃I8:Nat→World→List Value→Prop,(∃m8,∀k8,Up k7 k8→I8 m8 k8 [int .i64 (Int.tmod n3 24),agg cs4])∧
 ∀m8 k8 vs8,Up k7 k8→I8 m8 k8 vs8→∃n5,∃cs6,Seg 3 cs6∧some [int .i64 n5,agg cs6]=some vs8∧
 Tt∧(Br (decide ((n5:Int)<(l0:Nat))) (Ad A0∧Ix n3 l0∧
 Ad A0∧Ix n3 l0∧
 ∃n7:Nat,Sy.ReadAt k8.cell? A0 (Int.toNat n3*3+z) 1 (Value.float .f32 n7)∧
 Ad A0∧Ix n5 l0∧
 Ad A0∧Ix n5 l0∧
 ∃n8:Nat,Sy.ReadAt k8.cell? A0 (Int.toNat n5*3+z) 1 (Value.float .f32 n8)∧
 Cl k8 83 #[Value.float .f32 n7] fun k10 r9=>Gt 3 r9 fun cs9=>
 Cl k10 83 #[Value.float .f32 n8] fun k12 r11=>Gt 3 r11 fun cs10=>
 Cl k12 92 #[agg cs9,agg cs10] fun k14 r13=>Gt 3 r13 fun cs11=>
 Cl k14 93 #[agg cs11,agg cs6] fun k16 r15=>Gi r15 fun n12=>
 Br (decide ((n12:Int) > 0)) (∀k17,Up k16 k17→∃m,m<m8∧I8 m k17 [int .i64 (wrap .i64 (n5+24)),agg cs11]) (∀k18,Up k16 k18→∃m,m<m8∧I8 m k18 [int .i64 (wrap .i64 (n5+24)),agg cs6])) (∀k19,Up k8 k19→∃m,m<m7∧I7 m k19 [int .i64 (wrap .i64 (n3+1)),agg cs6]))) (Rt R k7 (tuple #[agg cs4,int .i64 0]))))
end Go.Proofs.YtifcjpacobpdmaaGreat

namespace Go.Proofs.YtifcjpacobpdmaaGreat
open Go.RowKit
open Sy (Seg Up RowAt ReadAt ReadIn cellAt flat RowC)
section
variable {α:Type}{k k':World}{A:Option Addr}{n s i j m p:Nat}{P Q:Array Value→α→Prop}{xs cs:Array Value}{f g:Nat→α}{x:Value}
def bBr (k:World) (A:Option Addr) (xs:Array Value):Prop:=∀(p:Nat) u,xs[p]?=some u→∃b o,A=some ⟨b,o,none⟩∧b<k.heap.size∧k.cell? ⟨b,o+p,none⟩=some u
def Els (k:World) (A:Option Addr) (n s:Nat) (P:Array Value→α→Prop) (f:Nat→α):Prop:=∃xs,bBr k A xs∧RowC xs∧ArrV n s P xs f
end
open Go.RowKit Num Ieee FT W32
open Sy (Up Sees CallsG Seg RowC)
section
variable {k k':World}{R:World→Value→Prop}{w v n:Nat}
theorem aYs {x y:Int}(h:x≤y):(some (compare x y) == some Ordering.lt || some (compare x y) == some Ordering.eq)=true:=by
 simp only [compare,compareOfLessAndEq]
 by_cases g:x<y
 ·rw [od g];rfl
 ·rw [oh g,od oq];rfl
theorem aYr {x y:Int}(h:y≤x):(some (compare x y) == some Ordering.gt || some (compare x y) == some Ordering.eq)=true:=by
 simp only [compare,compareOfLessAndEq]
 by_cases g:y<x
 ·rw [oh oq,oh oq];rfl
 ·rw [oh oq,od oq];rfl
theorem aVa {m:Nat}{p:Int}(hm:m<2^24) (hp:p≤104):m <<< (p-min p 104).toNat≤16777215 <<< (104-min p 104).toNat:=by
 have e:min p 104=p:=oq
 rw [e,show (p-p).toNat=0 by omega,xw,zf];have:=ot (104-p).toNat;have h2:(2:Nat)^24=16777216:=rfl
 calc m≤16777215*1:=oq
  _≤_:=qu _ this
theorem xA (h:v<2^32) (C:∀k',Up k k'→R k' (.bool (decide (eK v<255)))):Cl k 80 #[.float .f32 v] R:=by
 intro k0 u0;have hr:=gO h;have hx:single.read 4286578687=.number true 16777215 104:=by decide +kernel
 have hy:single.read 2139095039=.number false 16777215 104:=by decide +kernel
 have key:∀b c:Bool,(b && c)=decide (eK v<255)→(b=true→(∀k0',Up k0 k0'→R k0' (Value.bool c)))∧(b=false→(∀k1,Up k0 k1→R k1 (Value.bool false))):=fun b c e=>by
  refine⟨fun hb k1 u1=>?_,fun hb k1 u1=>?_⟩
  ·have:=C k1 (u0.trans u1);rw [hb,Bool.true_and]at e
   rwa [←e]at this
  ·have:=C k1 (u0.trans u1);rw [hb,Bool.false_and]at e
   rwa [←e]at this
 refine aFn (key _ _ ?_);rw [show FloatKind.format .f32=single from rfl]
 by_cases hE:eK v<255
 ·rw [od hE]at hr;rw [decide_eq_true hE,iC hr hx,iC hr hy];have hm:cI v<2^24:=by
   have:=pS v;have e2:(2:Nat)^23+2^23=2^24:=rfl;unfold cI;split <;> omega
  have hp:cX v≤104:=by unfold cX;omega
  have hb:=aVa hm hp;have g1:signed true 16777215 (104-min (cX v) 104).toNat≤signed (cF v) (cI v) (cX v-min (cX v) 104).toNat:=by
   unfold signed;simp only [if_true];generalize cI v <<< _=a at *;generalize 16777215 <<< _=b at *;split <;> omega
  have g2:signed (cF v) (cI v) (cX v-min (cX v) 104).toNat≤signed false 16777215 (104-min (cX v) 104).toNat:=by
   unfold signed;simp only [zp,if_false];generalize cI v <<< _=a at *;generalize 16777215 <<< _=b at *;split <;> omega
  rw [aYr g1,aYs g2];rfl
 ·rw [oh hE]at hr;rw [decide_eq_false hE]
  by_cases hf:iN v=0
  ·have hE2:eK v=255:=by have:=tK v;omega
   have e:=jM h;rw [jI,hE2,hf]at e;rw [e];generalize cF v=s;revert s;decide +kernel
  ·rw [oh hf]at hr;have e:∀y,single.order v y=none:=fun y=>by
    unfold Format.order;rw [hr];unfold Datum.order;rfl
   rw [e,e];rfl
theorem aCo (h:v<2^32) (C:∀k' ds,Up k k'→QV k' ds (fP v) 40→R k' (.agg ds)):Cl k 83 #[.float .f32 v] R:=by
 intro k0 u0;refine aLz fun n1 hc=>?_;obtain⟨h1,_,h3⟩:=aGz h hc;refine aQk h1 fun k1 ds u1 hd=>⟨ds,hd.seg,_,rfl,fun k2 u2=>?_⟩;rw [h3]at hd;exact C k2 ds (u0.trans (u1.trans u2)) (hd.up u2)
end
open IntKind (wrap)
open Value (agg slice int bool tuple)
open Sy (Up Sees CallsG Seg execFn_use)
set_option maxRecDepth 100000
variable {k:World}{R:World→Value→Prop}{cs0:Array Value}
theorem aBv (hcs0:Seg 13 cs0)
 (h:∃I0:Nat→World→List Value→Prop,(∃m0,∀k0,Up k k0→I0 m0 k0 [int .i64 0,agg (iK 13 (zS++zS))])∧
 ∀m0 k0 vs0,Up k k0→I0 m0 k0 vs0→∃n1,∃cs2,Seg 234 cs2∧some [int .i64 n1,agg cs2]=some vs0∧
 Br (decide ((n1:Int)<13)) ((decide ((0:Int)≤n1∧(n1:Int)<13))=true∧
 (∃n3 y3:Nat,Sy.celD cs0 (Int.toNat n1*1)=some (Value.complex .f32 n3 y3)∧
 Cl k0 61 #[Value.float .f32 n3] fun k2 r1=>∃cs4,Seg 3 cs4∧∃n5,some (tuple #[agg cs4,int .i64 n5])=some r1∧
 Cl k2 61 #[Value.float .f32 y3] fun k4 r3=>∃cs6,Seg 3 cs6∧∃n7,some (tuple #[agg cs6,int .i64 n7])=some r3∧
 Br ((n5:Int) != 0) (Rt R k4 (tuple #[agg (iK 13 (zS++zS)),int .i64 1])) (Br ((n7:Int) != 0) (Rt R k4 (tuple #[agg (iK 13 (zS++zS)),int .i64 1])) (Cl k4 38 #[agg #[bool false,slice none 0 0,bool false,slice none 0 0,bool false,slice none 0 0,bool false,slice none 0 0,slice none 0 0],agg cs4] fun k8 r7=>Gt 9 r7 fun cs8=>
 Cl k8 38 #[agg #[bool false,slice none 0 0,bool false,slice none 0 0,bool false,slice none 0 0,bool false,slice none 0 0,slice none 0 0],agg cs6] fun k10 r9=>Gt 9 r9 fun cs9=>
 Cl k10 79 #[agg cs8,agg cs9] fun k12 r11=>Gt 18 r11 fun cs10=>
 (decide ((0:Int)≤n1∧(n1:Int)<13))=true∧
 (∀k13,Up k12 k13→∃m,m<m0∧I0 m k13 [int .i64 (wrap .i64 (n1+1)),agg (Sy.over cs2 (Int.toNat n1*18+0) cs10.toList)]))))) (Rt R k0 (tuple #[agg cs2,int .i64 0]))) :
   CallsG Tryz.prog 18 #[agg cs0] k R:=
  qX { opq:=[39,37,35,88,55],loops:=[(0,[.tmp 12 false [.int .i64],.blk 2 [.seg 234]])] } [.agg [.seg 0 13]] [agg cs0] [.seg 13] ⟨⟨cs0,rfl,hcs0⟩,trivial⟩ h
theorem aCl (hcs0:Seg 13 cs0)
 (h:∃I0:Nat→World→List Value→Prop,(∃m0,∀k0,Up k k0→I0 m0 k0 [int .i64 0])∧
 ∀m0 k0 vs0,Up k k0→I0 m0 k0 vs0→∃n1,some [int .i64 n1]=some vs0∧
 Br (decide ((n1:Int)<13)) ((decide ((0:Int)≤n1∧(n1:Int)<13))=true∧
 (∃n2 y2:Nat,Sy.celD cs0 (Int.toNat n1*1)=some (Value.complex .f32 n2 y2)∧
 Cl k0 80 #[Value.float .f32 n2] fun k2 r1=>Gb r1 fun b3=>
 Br (!b3) (Cl k2 81 #[] fun k4 r3=>Gt 312 r3 fun cs4=>
 Rt R k4 (tuple #[agg cs4,int .i64 1])) ((decide ((0:Int)≤n1∧(n1:Int)<13))=true∧
 (∃n4 y4:Nat,Sy.celD cs0 (Int.toNat n1*1)=some (Value.complex .f32 n4 y4)∧
 Cl k2 80 #[Value.float .f32 y4] fun k7 r6=>Gb r6 fun b5=>
 Br (!b5) (Cl k7 81 #[] fun k9 r8=>Gt 312 r8 fun cs6=>
 Rt R k9 (tuple #[agg cs6,int .i64 1])) (∀k11,Up k7 k11→∃m,m<m0∧I0 m k11 [int .i64 (wrap .i64 (n1+1))]))))) (∃I12:Nat→World→List Value→Prop,(∃m12,∀k12,Up k0 k12→I12 m12 k12 [int .i64 0,agg (iK 13 (zT++zT))])∧
 ∀m12 k12 vs12,Up k0 k12→I12 m12 k12 vs12→∃n2,∃cs3,Seg 312 cs3∧some [int .i64 n2,agg cs3]=some vs12∧
 Br (decide ((n2:Int)<13)) ((decide ((0:Int)≤n2∧(n2:Int)<13))=true∧
 (∃n4 y4:Nat,Sy.celD cs0 (Int.toNat n2*1)=some (Value.complex .f32 n4 y4)∧
 (decide ((0:Int)≤n2∧(n2:Int)<13))=true∧
 (∃n5 y5:Nat,Sy.celD cs0 (Int.toNat n2*1)=some (Value.complex .f32 n5 y5)∧
 Cl k12 83 #[Value.float .f32 n4] fun k14 r13=>Gt 3 r13 fun cs6=>
 Cl k14 82 #[agg cs6] fun k16 r15=>Gt 12 r15 fun cs7=>
 Cl k16 83 #[Value.float .f32 y5] fun k18 r17=>Gt 3 r17 fun cs8=>
 Cl k18 82 #[agg cs8] fun k20 r19=>Gt 12 r19 fun cs9=>
 (decide ((0:Int)≤n2∧(n2:Int)<13))=true∧
 (∀k21,Up k20 k21→∃m,m<m12∧I12 m k21 [int .i64 (wrap .i64 (n2+1)),agg (Sy.over cs3 (Int.toNat n2*24+0) (cs7.toList++cs9.toList))])))) (Rt R k12 (tuple #[agg cs3,int .i64 0])))) :
   CallsG Tryz.prog 19 #[agg cs0] k R:=
  qX { opq:=[48,46,44,42,55],loops:=[(0,[.tmp 4 false [.int .i64]]),(2,[.tmp 6 false [.int .i64],.blk 2 [.seg 312]])] } [.agg [.seg 0 13]] [agg cs0] [.seg 13] ⟨⟨cs0,rfl,hcs0⟩,trivial⟩ h
theorem yP (hcs0:Seg 26 cs0)
 (h:∃I0:Nat→World→List Value→Prop,(∃m0,∀k0,Up k k0→I0 m0 k0 [int .i64 0,agg #[Value.complex .f32 0 0,Value.complex .f32 0 0,Value.complex .f32 0 0,Value.complex .f32 0 0,Value.complex .f32 0 0,Value.complex .f32 0 0,Value.complex .f32 0 0,Value.complex .f32 0 0,Value.complex .f32 0 0,Value.complex .f32 0 0,Value.complex .f32 0 0,Value.complex .f32 0 0,Value.complex .f32 0 0]])∧
 ∀m0 k0 vs0,Up k k0→I0 m0 k0 vs0→∃n1,∃cs2,Seg 13 cs2∧some [int .i64 n1,agg cs2]=some vs0∧
 Br (decide ((n1:Int)<13)) ((decide ((0:Int)≤n1∧(n1:Int)<13))=true∧
 (∃n3,∃n4,some (agg (Sy.pickL cs0 (Int.toNat n1*2+0) 2).toArray)=some (agg #[int .u32 n3,int .u32 n4])∧
 (decide ((0:Int)≤n1∧(n1:Int)<13))=true∧
 (∀k1,Up k0 k1→∃m,m<m0∧I0 m k1 [int .i64 (wrap .i64 (n1+1)),agg (Sy.over cs2 (Int.toNat n1*1+0) [Value.complex .f32 (Int.toNat n3) (Int.toNat n4)])]))) (Cl k0 18 #[agg cs2] fun k3 r2=>∃cs3,Seg 234 cs3∧∃n4,some (tuple #[agg cs3,int .i64 n4])=some r2∧
 Cl k3 19 #[agg cs2] fun k5 r4=>∃cs5,Seg 312 cs5∧∃n6,some (tuple #[agg cs5,int .i64 n6])=some r4∧
 Br ((n4:Int) != n6) (Rt R k5 (bool false)) (Cl k5 20 #[agg cs3,agg cs5] fun k8 r7=>Gb r7 fun b7=>
 Br (!b7) (Rt R k8 (bool false)) (Br ((n4:Int) != 0) (Cl k8 16 #[] fun k11 r10=>Gb r10 fun b8=>
 Rt R k11 (bool b8)) (Cl k8 12 #[agg cs3] fun k14 r13=>Gt 13 r13 fun cs8=>
 ∃I15:Nat→World→List Value→Prop,(∃m15,∀k15,Up k14 k15→I15 m15 k15 [int .i64 0])∧
 ∀m15 k15 vs15,Up k14 k15→I15 m15 k15 vs15→∃n9,some [int .i64 n9]=some vs15∧
 Br (decide ((n9:Int)<13)) ((decide ((0:Int)≤n9∧(n9:Int)<13))=true∧
 (∃n10 y10:Nat,Sy.celD cs8 (Int.toNat n9*1)=some (Value.complex .f32 n10 y10)∧
 (decide ((0:Int)≤n9∧(n9:Int)<13))=true∧
 (∃n11 y11:Nat,Sy.celD cs2 (Int.toNat n9*1)=some (Value.complex .f32 n11 y11)∧
 Br (!(Ieee.Format.order (FloatKind.format .f32) n10 n11 == some Ordering.eq && Ieee.Format.order (FloatKind.format .f32) y10 y11 == some Ordering.eq)) (Rt R k15 (bool false)) (∀n12,Sy.F2F .f32 .f64 n10 n12→
 Cl k15 21 #[Value.float .f64 n12] fun k18 r17=>Gb r17 fun b13=>
 Br (!(b13 == (Ieee.Format.order (FloatKind.format .f32) n10 0 == some Ordering.lt))) (Rt R k18 (bool false)) (∀n14,Sy.F2F .f32 .f64 y10 n14→
 Cl k18 21 #[Value.float .f64 n14] fun k21 r20=>Gb r20 fun b15=>
 Br (!(b15 == (Ieee.Format.order (FloatKind.format .f32) y10 0 == some Ordering.lt))) (Rt R k21 (bool false)) (∀k23,Up k21 k23→∃m,m<m15∧I15 m k23 [int .i64 (wrap .i64 (n9+1))])))))) (Cl k15 16 #[] fun k25 r24=>Gb r24 fun b10=>
 Rt R k25 (bool b10))))))) :
  CallsG Tryz.prog 4 #[agg cs0] k R:=
  qX { opq:=[39,48,55,66],loops:=[(0,[.tmp 13 false [.int .i64],.blk 1 [.seg 13]]),(2,[.tmp 51 false [.int .i64]])],nanc:=true,nix:=true } [.agg [.seg 0 26]] [agg cs0] [.seg 26] ⟨⟨cs0,rfl,hcs0⟩,trivial⟩ h
theorem aFq
 (h:∃I0:Nat→World→List Value→Prop,(∃m0,∀k0,Up k k0→I0 m0 k0 [int .i64 0,agg (iK 13 (zT++zT))])∧
 ∀m0 k0 vs0,Up k k0→I0 m0 k0 vs0→∃n0,∃cs1,Seg 312 cs1∧some [int .i64 n0,agg cs1]=some vs0∧
 Br (decide ((n0:Int)<13)) (Cl k0 168 #[] fun k2 r1=>Gt 24 r1 fun cs2=>
 (decide ((0:Int)≤n0∧(n0:Int)<13))=true∧
 (∀k3,Up k2 k3→∃m,m<m0∧I0 m k3 [int .i64 (wrap .i64 (n0+1)),agg (Sy.over cs1 (Int.toNat n0*24+0) cs2.toList)])) (Rt R k0 (agg cs1))) :
   CallsG Tryz.prog 81 #[] k R:=
  qX { opq:=[48,46],loops:=[(0,[.tmp 2 false [.int .i64],.blk 1 [.seg 312]])] } [] [] [] trivial h
end Go.Proofs.YtifcjpacobpdmaaGreat

namespace Go.Proofs.YtifcjpacobpdmaaGreat
open Go.RowKit Num Plain W32 Ieee FT
open Sy (Up Sees CallsG Seg)
theorem aPc {v:Nat}(h:v<2^32) (hE:eK v<255):single.order (Sy.f2f .f64 .f32 (cV (fP v) 24 (-149) 128)) 0=single.order v 0:=by
 have hr:=gO h;have hz:single.read 0=.number false 0 (-149):=by decide +kernel
 rw [od hE]at hr
 by_cases hm:cI v=0
 ·have hn:fP v=0:=by
   unfold fP;rw [od hE,hm];unfold fI;rw [je,show sgn (cF v) 0=0 from by unfold sgn;cases cF v <;> rfl,ye]
  have e0:Sy.f2f .f64 .f32 0=0:=by decide +kernel
  rw [hn,wS,e0];rw [hm]at hr;rw [oQ hz hz,oQ hr hz]
 ·obtain⟨e,hh⟩:=lJ h hE hm;have hd:=pQ hh;have hn:fP v=fI (cF v) (cI v) (cX v):=by unfold fP;rw [od hE]
  have hl:(cI v).log2<24:=(zg hh.ne).2 hh.bits;have hb:bl (cI v)=(cI v).log2+1:=by unfold bl;rw [oh hm]
  have htop:cX v+(cI v).log2-23+149+3≤256:=hh.top;have hnear:=aBl (s:=cF v) (p:=cX v) gV hm oq hh.low oq;have c1:Sy.f2f .f64 .f32 (double.nearest (cF v) (cI v) (cX v))=single.nearest (cF v) (cI v) (cX v):=(jC (k:=.f64) (k':=.f32) (s:=cF v) oz aN eO hd hh).1;rw [hn,hnear,c1,←e]
theorem aHp {v:Nat}:Bel (Q4.real (fP v)) (B64^3):=by
 have hB:B64^3=2^192:=oz
 rw [hB];unfold fP;split
 ·rename_i hE;have hm:cI v<2^24:=by
   have:iN v<2^23:=qy _ oz;unfold cI;split <;> omega
  have h1:(cX v).toNat≤104:=by unfold cX;omega
  have h2:(-(cX v)).toNat≤149:=by unfold cX;omega
  refine⟨sgn (cF v) (cI v*2^(cX v).toNat),0,0,0,2^(-(cX v)).toNat,qk oz,?_,?_,oz,oz,oz,?_⟩
  ·unfold Q4.real mkQ fI;rw [ye]
  ·rw [mC]
   calc cI v*2^(cX v).toNat<2^24*2^104:=Nat.mul_lt_mul_of_lt_of_le hm (oc oz h1) oz
    _≤2^192:=oz
  ·exact qe (oc oz h2) oz
 ·exact⟨0,0,0,0,1,oz,by decide +kernel,oz,oz,oz,oz,oz⟩
abbrev CpxV (a:Array Value) (p:Nat×Nat):Prop:=a=#[.complex .f32 p.1 p.2]
abbrev bAi (a:Array Value) (p:Nat×Nat):Prop:=a=#[.int .u32 (p.1:Int),.int .u32 (p.2:Int)]∧p.1<2^32∧p.2<2^32
def fin2 (p:Nat×Nat):Prop:=eK p.1<255∧eK p.2<255
def aLl (f:Nat→Nat×Nat) (i:Nat):W4:=⟨Q4.real (fP (f i).1),Q4.real (fP (f i).2)⟩
theorem bBi {p:Prop}[Decidable p] (h:((if p then (0:Int) else 1) != 0)=true):¬p:=fun c=>by
 rw [od c]at h;cases h
theorem bBh {p:Prop}[Decidable p] (h:((if p then (0:Int) else 1) != 0)=false):p:=Decidable.byContradiction fun c=>by
 rw [oh c]at h;cases h
section
variable {k k':World}{R:World→Value→Prop}{cs:Array Value}{f:Nat→Nat×Nat}
theorem CpxV.cel {j:Nat}(h:ArrV 13 1 CpxV cs f) (hj:j<13):Sy.celD cs (Int.toNat (j:Int)*1)=some (.complex .f32 (f j).1 (f j).2):=
 aGt (by rw [h.size];omega) rfl (ArrV.get h hj)
theorem aCv (C:∀k' ds,Up k k'→SpecQ k' ds (fun _=>W4.zero) 2→R k' (.agg ds)):Cl k 81 #[] R:=by
 intro k0 u0;replace C:=fun k' ds u=>C k' ds (u0.trans u);refine aFq ⟨fun m k' vs=>∃j c,j+m=13∧vs=[.int .i64 (j:Int),.agg c]∧SpecM k' c (cut j (fun _=>some W4.zero) fun _=>none) 2,⟨13,fun _ _=>⟨0,_,rfl,rfl,ArrV.start SpecM.zero⟩⟩,?_⟩;rintro m k1 vs u1 ⟨j,c,hj,rfl,hc⟩;refine⟨_,c,hc.seg,rfl,fun hlt=>?_,fun hge k2 u2=>?_⟩
 ·have hlt:=lt13 hlt;refine aVo fun k2 d u2 h2=>⟨d,h2.seg,rfl,ix13 hlt,fun k3 u3=>?_⟩;exact⟨m-1,oq,j+1,_,oq,by rw [wup oq],ArrV.step (hc.up (u2.trans u3)) hlt h2.seg.1 (h2.up u3)⟩
 ·exact C k2 c (u1.trans u2) (SpecM.spec (ArrV.done (F:=fun _=>some W4.zero) (hc.up u2) (ge13 hge)))
theorem aEz (hx:ArrV 13 1 CpxV cs f) (hb:∀i,i<13→(f i).1<2^32∧(f i).2<2^32) (C0:(∀i,i<13→fin2 (f i))→∀k' ds,Up k k'→SpecV k' ds (aLl f) 3→R k' (.tuple #[.agg ds,.int .i64 0]))
 (C1:¬(∀i,i<13→fin2 (f i))→∀k',Up k k'→R k' (.tuple #[.agg (iK 13 (zS++zS)),.int .i64 1])):Cl k 18 #[.agg cs] R:=by
 intro k0 u0;replace C0:=fun h k' ds u=>C0 h k' ds (u0.trans u);replace C1:=fun h k' u=>C1 h k' (u0.trans u)
 refine aBv (ArrV.seg hx fun _ _ h=>by rw [h];exact mB) ⟨fun m k' vs=>∃j c,j+m=13∧vs=[.int .i64 (j:Int),.agg c]∧(∀i,i<j→fin2 (f i))∧SpecV k' c (cut j (aLl f) fun _=>W4.zero) 3,
  ⟨13,fun _ _=>⟨0,_,rfl,rfl,fun i hi=>absurd hi (Nat.not_lt_zero i),ArrV.start SpecV.zero⟩⟩,?_⟩
 rintro m k1 vs u1 ⟨j,c,hj,rfl,hf,hc⟩;refine⟨_,c,hc.seg,rfl,fun hlt=>?_,fun hge k2 u2=>?_⟩
 ·have hlt:=lt13 hlt;obtain⟨b0,b1⟩:=hb j hlt;refine⟨ix13 hlt,_,_,CpxV.cel hx hlt,vI b0 fun k2 d2 u2 h2=>⟨d2,h2.seg,_,rfl,?_⟩⟩;refine vI b1 fun k3 d3 u3 h3=>⟨d3,h3.seg,_,rfl,fun e k4 u4=>?_,fun e=>⟨fun e' k4 u4=>?_,fun e'=>?_⟩⟩
  ·exact C1 (fun hall=>bBi e (hall j hlt).1) k4 (u1.trans (u2.trans (u3.trans u4)))
  ·exact C1 (fun hall=>bBi e' (hall j hlt).2) k4 (u1.trans (u2.trans (u3.trans u4)))
  refine sV (SurdV.nil (K:=1) (jk _)) (h2.up u3) fun k4 d4 u4 h4=>⟨d4,h4.seg,rfl,?_⟩;refine sV (SurdV.nil (K:=1) (jk _)) (h3.up u4) fun k5 d5 u5 h5=>⟨d5,h5.seg,rfl,?_⟩;refine aPt (h4.up u5) h5 fun k6 d6 u6 h6=>⟨d6,h6.seg,rfl,ix13 hlt,fun k7 u7=>?_⟩;refine⟨m-1,oq,j+1,_,oq,by rw [wup oq],fun i hi=>?_,ArrV.step (hc.up (u2.trans (u3.trans (u4.trans (u5.trans (u6.trans u7)))))) hlt h6.seg.1 ((h6.up u7).cutB aHp aHp)⟩
  by_cases g:i=j
  ·subst g;exact⟨bBh e,bBh e'⟩
  ·exact hf i oq
 ·have hge:=ge13 hge;exact C0 (fun i hi=>hf i oq) k2 c (u1.trans u2) (ArrV.done (hc.up u2) hge)
theorem uT (hx:ArrV 13 1 CpxV cs f) (hb:∀i,i<13→(f i).1<2^32∧(f i).2<2^32) (C0:(∀i,i<13→fin2 (f i))→∀k' ds,Up k k'→SpecQ k' ds (aLl f) 40→R k' (.tuple #[.agg ds,.int .i64 0]))
 (C1:¬(∀i,i<13→fin2 (f i))→∀k' ds,Up k k'→SpecQ k' ds (fun _=>W4.zero) 2→R k' (.tuple #[.agg ds,.int .i64 1])):Cl k 19 #[.agg cs] R:=by
 intro k0 u0;replace C0:=fun h k' ds u=>C0 h k' ds (u0.trans u);replace C1:=fun h k' ds u=>C1 h k' ds (u0.trans u);have bad:∀ {v:Nat},(!decide (eK v<255))=true→¬eK v<255:=fun e=>ov (by simpa using e);have good:∀ {v:Nat},(!decide (eK v<255))=false→eK v<255:=fun e=>ow (by simpa using e);refine aCl (ArrV.seg hx fun _ _ h=>by rw [h];exact mB) ⟨fun m _ vs=>∃j,j+m=13∧vs=[.int .i64 ((j:Nat):Int)]∧∀i,i<j→fin2 (f i),⟨13,fun _ _=>⟨0,rfl,rfl,fun i hi=>absurd hi (Nat.not_lt_zero i)⟩⟩,?_⟩;rintro m k1 vs u1 ⟨j,hj,rfl,hf⟩;refine⟨_,rfl,fun hlt=>?_,fun hge=>?_⟩
 ·have hlt:=lt13 hlt;obtain⟨b0,b1⟩:=hb j hlt;refine⟨ix13 hlt,_,_,CpxV.cel hx hlt,xA b0 fun k2 u2=>⟨_,rfl,fun e=>?_,fun e=>⟨ix13 hlt,_,_,CpxV.cel hx hlt,xA b1 fun k3 u3=>⟨_,rfl,fun e'=>?_,fun e' k4 u4=>⟨m-1,oq,j+1,oq,by rw [wup oq],fun i hi=>?_⟩⟩⟩⟩⟩
  ·exact aCv fun k3 d u3 hd=>⟨d,hd.seg,rfl,fun k4 u4=>C1 (fun hall=>bad e (hall j hlt).1) k4 d (u1.trans (u2.trans (u3.trans u4))) (hd.up u4)⟩
  ·exact aCv fun k4 d u4 hd=>⟨d,hd.seg,rfl,fun k5 u5=>C1 (fun hall=>bad e' (hall j hlt).2) k5 d (u1.trans (u2.trans (u3.trans (u4.trans u5)))) (hd.up u5)⟩
  ·by_cases g:i=j
   ·subst g;exact⟨good e,good e'⟩
   ·exact hf i oq
 have hge:=ge13 hge;have hall:∀i,i<13→fin2 (f i):=fun i hi=>hf i oq;refine⟨fun m k' vs=>∃j c,j+m=13∧vs=[.int .i64 (j:Int),.agg c]∧SpecM k' c (cut j (fun i=>some (aLl f i)) fun _=>none) 40,⟨13,fun _ _=>⟨0,_,rfl,rfl,ArrV.start SpecM.zero⟩⟩,?_⟩;rintro m2 k2 vs u2 ⟨i,c,hi,rfl,hc⟩;refine⟨_,c,hc.seg,rfl,fun hlt=>?_,fun hge2 k3 u3=>?_⟩
 ·have hlt:=lt13 hlt;obtain⟨b0,b1⟩:=hb i hlt;refine⟨ix13 hlt,_,_,CpxV.cel hx hlt,ix13 hlt,_,_,CpxV.cel hx hlt,aCo b0 fun k3 d3 u3 h3=>⟨d3,h3.seg,rfl,?_⟩⟩;refine yX h3 oz fun k4 d4 u4 h4=>⟨d4,h4.seg,rfl,?_⟩;refine aCo b1 fun k5 d5 u5 h5=>⟨d5,h5.seg,rfl,?_⟩;refine yX h5 oz fun k6 d6 u6 h6=>⟨d6,h6.seg,rfl,ix13 hlt,fun k7 u7=>?_⟩;have hw:WQ k7 (cat2 d4 d6) (aLl f i) 40:=⟨d4,d6,rfl,h4.up (u5.trans (u6.trans u7)),h6.up u7⟩;have hl:d4.toList++d6.toList=(cat2 d4 d6).toList:=by simp [cat2]
  exact⟨m2-1,oq,i+1,_,oq,by rw [wup oq,hl],ArrV.step (hc.up (u3.trans (u4.trans (u5.trans (u6.trans u7))))) hlt hw.seg.1 hw⟩
 ·exact C0 hall k3 c (u1.trans (u2.trans u3)) (SpecM.spec (ArrV.done (F:=fun i=>some (aLl f i)) (hc.up u3) (ge13 hge2)))
theorem aId {v n:Nat}(h:v<2^32) (hE:eK v<255) (hc:Sy.F2F .f32 .f64 (Sy.f2f .f64 .f32 (cV (fP v) 24 (-149) 128)) n) :
 n<2^64∧(!(dZ n == (single.order (Sy.f2f .f64 .f32 (cV (fP v) 24 (-149) 128)) 0 == some Ordering.lt)))=false:=by
 obtain⟨h1,h2⟩:=(kS h hE).2 n hc;refine⟨h1,?_⟩;rw [aPc h hE,h2];rfl
theorem aBw (hx:ArrV 13 2 bAi cs f) (C:∀k',Up k k'→R k' (.bool true)) :
 Cl k 4 #[.agg cs] R:=by
 intro k0 u0;replace C:=fun k' u=>C k' (u0.trans u);have hb:∀i,i<13→(f i).1<2^32∧(f i).2<2^32:=fun i hi=>(ArrV.get hx hi).2
 refine yP (ArrV.seg hx fun _ _ h=>by rw [h.1];exact⟨rfl,by simp [Value.scalar,Value.noWord]⟩) ⟨fun m _ vs=>∃j c,j+m=13∧vs=[.int .i64 (j:Int),.agg c]∧ArrV 13 1 (optP 1 CpxV) c (cut j (fun i=>some (f i)) fun _=>none),
  ⟨13,fun _ _=>⟨0,iK 13 [.complex .f32 0 0],rfl,rfl,ArrV.start (ArrV.zero (s:=1) (z:=[.complex .f32 0 0]) rfl none mB)⟩⟩,?_⟩
 rintro m k1 vs u1 ⟨j,c,hj,rfl,hc⟩;have cseg:Seg 13 c:=ArrV.seg hc fun _ _ h=>optP.seg (fun _ h=>by rw [h];exact mB) h;refine⟨_,c,cseg,rfl,fun hlt=>?_,fun hge=>?_⟩
 ·have hlt:=lt13 hlt;have e:=(ArrV.get hx hlt).1;exact⟨ix13 hlt,_,_,congrArg (fun a=>some (Value.agg a)) e,ix13 hlt,fun k2 u2=>⟨m-1,oq,j+1,_,oq,by rw [wup oq];rfl,ArrV.step (ys:=#[.complex .f32 (f j).1 (f j).2]) hc hlt rfl rfl⟩⟩
 have hz:ArrV 13 1 CpxV c f:=ArrV.all (ArrV.done (F:=fun i=>some (f i)) hc (ge13 hge));have aw:∀k2,Up k1 k2→Cl k2 16 #[] fun k4 r=>∃b:Bool,some (Value.bool b)=some r∧∀k5,Up k4 k5→R k5 (.bool b):=fun k2 u2=>
  aOk fun k4 u4=>⟨_,rfl,fun k5 u5=>C k5 (u1.trans (u2.trans (u4.trans u5)))⟩
 refine aEz hz hb (fun hall k2 d u2 hd=>⟨d,hd.seg,_,rfl,?_⟩) fun hn k2 u2=>⟨_,SpecV.seg (k:=k2) (K:=1) SpecV.zero,_,rfl,?_⟩
 ·refine uT hz hb (fun _ k3 e u3 he=>⟨e,he.seg,_,rfl,fun h=>absurd h oz,fun _=>?_⟩) fun hn=>absurd hall hn;refine aBc (hd.up u3) he (fun _ _=>rfl) oz oz oz fun k4 u4=>⟨_,rfl,fun h=>absurd h oz,fun _=>⟨fun h=>absurd h oz,fun _=>?_⟩⟩;refine aWd (hd.up (u3.trans u4)) oz oz fun k5 s u5 hs=>⟨s,ArrV.seg hs fun _ _ h=>h.seg,rfl,?_⟩;refine⟨fun m _ vs=>∃j,j+m=13∧vs=[.int .i64 ((j:Nat):Int)],⟨13,fun _ _=>⟨0,rfl,rfl⟩⟩,?_⟩;rintro m6 k6 vs u6 ⟨i,hi,rfl⟩;have v6:=u2.trans (u3.trans (u4.trans (u5.trans u6)));refine⟨_,rfl,fun hlt=>?_,fun _=>aw k6 v6⟩;have hlt:=lt13 hlt;obtain⟨x,y,hN,e1⟩:=CellF.cel hs hlt;obtain⟨b0,b1⟩:=hb i hlt;obtain⟨g0,g1⟩:=hall i hlt;have ex:x=cV (fP (f i).1) 24 (-149) 128:=Near4.unique gV hN.1 (Near4.real _);have ey:y=cV (fP (f i).2) 24 (-149) 128:=Near4.unique gV hN.2 (Near4.real _);subst ex ey;have o0:=(kS b0 g0).1;have o1:=(kS b1 g1).1;refine⟨ix13 hlt,_,_,e1,ix13 hlt,_,_,CpxV.cel hz hlt,fun h=>?_,fun _ n hc=>?_⟩
  ·rw [show FloatKind.format .f32=single from rfl,o0,o1]at h;cases h
  obtain⟨p1,p2⟩:=aId b0 g0 hc;refine aRa p1 fun k7 u7=>⟨_,rfl,fun h=>?_,fun _ n' hc'=>?_⟩
  ·rw [show FloatKind.format .f32=single from rfl,p2]at h;cases h
  obtain⟨q1,q2⟩:=aId b1 g1 hc';refine aRa q1 fun k8 u8=>⟨_,rfl,fun h=>?_,fun _ k9 u9=>⟨m6-1,oq,i+1,oq,by rw [wup oq]⟩⟩;rw [show FloatKind.format .f32=single from rfl,q2]at h;cases h
 ·refine uT hz hb (fun h=>absurd h hn) fun _ k3 e u3 he=>⟨e,he.seg,_,rfl,fun h=>absurd h oz,fun _=>?_⟩;refine aBc (SpecV.zero (K:=1)) he (fun _ _=>rfl) oz oz oz fun k4 u4=>⟨_,rfl,fun h=>absurd h oz,fun _=>⟨fun _=>aw k4 (u2.trans (u3.trans u4)),fun h=>absurd h oz⟩⟩
end
