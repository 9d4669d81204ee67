/- Several texts in one. (Printed by prep.py.) -/
import Derived.Test.YtifcjpacobpdmaaGreatTtAV6
import Derived.Test.YtifcjpacobpdmaaGreatTtPK
namespace Go.Proofs.YtifcjpacobpdmaaGreat
open IntKind (wrap)
open Go.RowKit
open Value (agg slice int bool tuple)
open Sy (Up Sees CallsG Seg execFn_use)
set_option maxRecDepth 100000
variable {k:World}{R:World→Value→Prop}{cs0 cs1 cs2:Array Value}{n0 n1 n2 n3 n4:Int}
theorem aCe (hcs0:Seg 24 cs0) (hcs1:Seg 24 cs1)
 (h:∃I0:Nat→World→List Value→Prop,(∃m0,∀k0,Up k k0→I0 m0 k0 [int .i64 0,tuple #[slice none 0 0,agg #[]]])∧
 ∀m0 k0 vs0,Up k k0→I0 m0 k0 vs0→∃n4,∃A5 l5 c5,∃cs6,Sy.RowC cs6∧some [int .i64 n4,tuple #[slice A5 l5 c5,agg cs6]]=some vs0∧
 Br (decide ((n4:Int)<(wrap .i64 (2*(wrap .i64 (1+(wrap .i64 (Int.tmod n3 3)))))))) (Br (((Int.tmod n4 2):Int) == 1) (∃I1:Nat→World→List Value→Prop,(∃m1,∀k1,Up k0 k1→I1 m1 k1 [int .i64 0,tuple #[slice A5 l5 c5,agg cs6]])∧
 ∀m1 k1 vs1,Up k0 k1→I1 m1 k1 vs1→∃n7,∃A8 l8 c8,∃cs9,Sy.RowC cs9∧some [int .i64 n7,tuple #[slice A8 l8 c8,agg cs9]]=some vs1∧
 Br (decide ((n7:Int)<24)) ((decide ((0:Int)≤n7∧(n7:Int)<24))=true∧
 (∃n10,Sy.celD cs0 (Int.toNat n7*1)=some (int .i8 n10)∧
 (Sy.fltR .f32 .quo (FloatKind.nearest .f32 n10) 1082130432).isSome=true∧
 ((Sy.fltR .f32 .add ((Sy.fltR .f32 .quo (FloatKind.nearest .f32 n10) 1082130432).getD 0) (Op.negFloat .f32 (FloatKind.nearest .f32 n2))).isSome=true∧
 ((decide ((0:Int)≤n7∧(n7:Int)<24))=true∧
 (∃n11,Sy.celD cs1 (Int.toNat n7*1)=some (int .i8 n11)∧
 (Sy.fltR .f32 .quo (FloatKind.nearest .f32 n11) 1082130432).isSome=true∧
 (([Value.float .f32 ((Sy.fltR .f32 .add ((Sy.fltR .f32 .quo (FloatKind.nearest .f32 n10) 1082130432).getD 0) (Op.negFloat .f32 (FloatKind.nearest .f32 n2))).getD 0),Value.float .f32 ((Sy.fltR .f32 .quo (FloatKind.nearest .f32 n11) 1082130432).getD 0),Value.float .f32 0]:List Value).length=Int.toNat 1*3∧(0:Int)≤1∧Sy.sizeOk 12 (l8+Int.toNat 1)∧∀(A12:Option Addr) (l12 c12:Nat) (cs13:Array Value),l12=l8+Int.toNat 1→cs13=cs9++([Value.float .f32 ((Sy.fltR .f32 .add ((Sy.fltR .f32 .quo (FloatKind.nearest .f32 n10) 1082130432).getD 0) (Op.negFloat .f32 (FloatKind.nearest .f32 n2))).getD 0),Value.float .f32 ((Sy.fltR .f32 .quo (FloatKind.nearest .f32 n11) 1082130432).getD 0),Value.float .f32 0]:List Value).toArray→l12≤c12→
 ∀k2,Up k1 k2→∃m,m<m1∧I1 m k2 [int .i64 (wrap .i64 (n7+1)),tuple #[slice A12 l12 c12,agg cs13]])))))) (∀k3,Up k1 k3→∃m,m<m0∧I0 m k3 [int .i64 (wrap .i64 (n4+1)),tuple #[slice A8 l8 c8,agg cs9]])) (∃I4:Nat→World→List Value→Prop,(∃m4,∀k4,Up k0 k4→I4 m4 k4 [int .i64 0,tuple #[slice A5 l5 c5,agg cs6]])∧
 ∀m4 k4 vs4,Up k0 k4→I4 m4 k4 vs4→∃n7,∃A8 l8 c8,∃cs9,Sy.RowC cs9∧some [int .i64 n7,tuple #[slice A8 l8 c8,agg cs9]]=some vs4∧
 Br (decide ((n7:Int)<24)) ((decide ((0:Int)≤n7∧(n7:Int)<24))=true∧
 (∃n10,Sy.celD cs0 (Int.toNat n7*1)=some (int .i8 n10)∧
 (Sy.fltR .f32 .quo (FloatKind.nearest .f32 n10) 1082130432).isSome=true∧
 ((Sy.fltR .f32 .add ((Sy.fltR .f32 .quo (FloatKind.nearest .f32 n10) 1082130432).getD 0) (FloatKind.nearest .f32 n2)).isSome=true∧
 ((decide ((0:Int)≤n7∧(n7:Int)<24))=true∧
 (∃n11,Sy.celD cs1 (Int.toNat n7*1)=some (int .i8 n11)∧
 (Sy.fltR .f32 .quo (FloatKind.nearest .f32 n11) 1082130432).isSome=true∧
 (([Value.float .f32 ((Sy.fltR .f32 .add ((Sy.fltR .f32 .quo (FloatKind.nearest .f32 n10) 1082130432).getD 0) (FloatKind.nearest .f32 n2)).getD 0),Value.float .f32 ((Sy.fltR .f32 .quo (FloatKind.nearest .f32 n11) 1082130432).getD 0),Value.float .f32 0]:List Value).length=Int.toNat 1*3∧(0:Int)≤1∧Sy.sizeOk 12 (l8+Int.toNat 1)∧∀(A12:Option Addr) (l12 c12:Nat) (cs13:Array Value),l12=l8+Int.toNat 1→cs13=cs9++([Value.float .f32 ((Sy.fltR .f32 .add ((Sy.fltR .f32 .quo (FloatKind.nearest .f32 n10) 1082130432).getD 0) (FloatKind.nearest .f32 n2)).getD 0),Value.float .f32 ((Sy.fltR .f32 .quo (FloatKind.nearest .f32 n11) 1082130432).getD 0),Value.float .f32 0]:List Value).toArray→l12≤c12→
 ∀k5,Up k4 k5→∃m,m<m4∧I4 m k5 [int .i64 (wrap .i64 (n7+1)),tuple #[slice A12 l12 c12,agg cs13]])))))) (∀k6,Up k4 k6→∃m,m<m0∧I0 m k6 [int .i64 (wrap .i64 (n4+1)),tuple #[slice A8 l8 c8,agg cs9]]))) (∀k7,Up k0 k7→Sy.RowAt k7 A5 cs6→
 Rt R k7 (slice A5 l5 c5))) :
  CallsG Tryz.prog 28 #[agg cs0,agg cs1,int .i8 n2,int .u8 n3] k R:=
  qX { opq:=[97],loops:=[(0,[.tmp 18 false [.int .i64],.rw 9 227 3]),(2,[.tmp 28 false [.int .i64],.rw 9 227 3])] } [.agg [.seg 0 24],.agg [.seg 1 24],.one (.var 2),.one (.var 3)] [agg cs0,agg cs1,int .i8 n2,int .u8 n3] [.seg 24,.seg 24,.int .i8,.int .u8] ⟨⟨cs0,rfl,hcs0⟩,⟨cs1,rfl,hcs1⟩,⟨_,rfl⟩,⟨_,rfl⟩,trivial⟩ h
theorem aHp (hcs0:Seg 24 cs0)
 (h:∃I0:Nat→World→List Value→Prop,(∃m0,∀k0,Up k k0→I0 m0 k0 [int .i64 0,agg (pX 24 zS)])∧
 ∀m0 k0 vs0,Up k k0→I0 m0 k0 vs0→∃n1,∃cs2,Seg 216 cs2∧some [int .i64 n1,agg cs2]=some vs0∧
 Br (decide ((n1:Int)<24)) ((decide ((0:Int)≤n1∧(n1:Int)<24))=true∧
 (∃n3,Sy.celD cs0 (Int.toNat n1*1)=some (int .i8 n3)∧
 (decide ((0:Int)≤n1∧(n1:Int)<24))=true∧
 (Cl k0 39 #[int .i64 (wrap .i64 n3),int .i64 4] fun k2 r1=>Gt 3 r1 fun cs4=>
 Cl k2 38 #[agg (Sy.pickL cs2 (Int.toNat n1*9+0) 9).toArray,agg cs4] fun k4 r3=>Gt 9 r3 fun cs5=>
 (decide ((0:Int)≤n1∧(n1:Int)<24))=true∧
 (∀k5,Up k4 k5→∃m,m<m0∧I0 m k5 [int .i64 (wrap .i64 (n1+1)),agg (Sy.over cs2 (Int.toNat n1*9+0) cs5.toList)])))) (Rt R k0 (agg cs2))) :
   CallsG Tryz.prog 30 #[agg cs0] k R:=
  qX { opq:=[97,80,35,88],loops:=[(0,[.tmp 7 false [.int .i64],.blk 2 [.seg 216]])] } [.agg [.seg 0 24]] [agg cs0] [.seg 24] ⟨⟨cs0,rfl,hcs0⟩,trivial⟩ h
theorem aQs 
 (h:Cl k 110 #[agg #[int .i64 n0,int .i64 n1]] fun k1 r0=>Gt 3 r0 fun cs2=>
 Rt R k1 (agg cs2)) :
  CallsG Tryz.prog 39 #[int .i64 n0,int .i64 n1] k R:=
  qY { opq:=[88] } h
theorem aMf (hcs0:Seg 216 cs0) (hcs1:Seg 216 cs1)
 (h:∃I0:Nat→World→List Value→Prop,(∃m0,∀k0,Up k k0→I0 m0 k0 [int .i64 0])∧
 ∀m0 k0 vs0,Up k k0→I0 m0 k0 vs0→∃n2,some [int .i64 n2]=some vs0∧
 Br (decide ((n2:Int)<24)) ((decide ((0:Int)≤n2∧(n2:Int)<24))=true∧
 ((decide ((0:Int)≤n2∧(n2:Int)<24))=true∧
 (Cl k0 40 #[agg (Sy.pickL cs0 (Int.toNat n2*9+0) 9).toArray,agg (Sy.pickL cs1 (Int.toNat n2*9+0) 9).toArray] fun k2 r1=>Gb r1 fun b3=>
 Br (!b3) (Rt R k2 (bool false)) (∀k4,Up k2 k4→∃m,m<m0∧I0 m k4 [int .i64 (wrap .i64 (n2+1))])))) (Rt R k0 (bool true))) :
  CallsG Tryz.prog 29 #[agg cs0,agg cs1] k R:=
  qX { opq:=[80,35],loops:=[(0,[.tmp 6 false [.int .i64]])] } [.agg [.seg 0 216],.agg [.seg 1 216]] [agg cs0,agg cs1] [.seg 216,.seg 216] ⟨⟨cs0,rfl,hcs0⟩,⟨cs1,rfl,hcs1⟩,trivial⟩ h
theorem aHn
 (h:Cl k 117 #[int .i64 24] fun k1 r0=>Gt 9 r0 fun cs0=>
 Cl k1 33 #[agg (cs0.toList++(List.replicate 23 zS).flatten).toArray] fun k3 r2=>Gt 234 r2 fun cs1=>
 Cl k3 60 #[int .i64 1] fun k5 r4=>Gt 3 r4 fun cs2=>
 Cl k5 118 #[agg (Sy.pickL cs1 (Int.toNat 0*0+18) 18).toArray,agg cs2] fun k7 r6=>Gt 18 r6 fun cs3=>
 Cl k7 34 #[agg (Sy.pickL cs1 (Int.toNat 0*0+18) 18).toArray,agg cs3] fun k9 r8=>Gb r8 fun b4=>
 Br b4 (Cl k9 42 #[agg cs1] fun k11 r10=>Gt 9 r10 fun cs5=>
 Cl k11 77 #[agg cs5] fun k13 r12=>∃s6,some (Value.string s6)=some r12∧
 Rt R k13 (bool (ByteArray.toList s6 == ByteArray.toList ⟨#[50,52]⟩))) (Rt R k9 (bool false))) :
  CallsG Tryz.prog 44 #[] k R:=
  qX { opq:=[80,39,35,37,88] } [] [] [] trivial h
theorem aMg 
 (h:Cl k 60 #[int .i64 n0] fun k1 r0=>Gt 3 r0 fun cs1=>
 Cl k1 38 #[agg #[bool false,slice none 0 0,bool false,slice none 0 0,bool false,slice none 0 0,bool false,slice none 0 0,slice none 0 0],agg cs1] fun k3 r2=>Gt 9 r2 fun cs2=>
 Rt R k3 (agg cs2)) :
  CallsG Tryz.prog 117 #[int .i64 n0] k R:=
  qY { opq:=[35,88] } h
theorem aMd (hcs0:Seg 24 cs0) (hcs1:Seg 24 cs1) (hcs2:Seg 24 cs2)
 (h:Cl k 28 #[agg cs0,agg cs1,int .i8 n3,int .u8 n4] fun k1 r0=>∃A5 l5 c5,some (slice A5 l5 c5)=some r0∧
 Cl k1 22 #[slice A5 l5 c5,int .i64 0] fun k3 r2=>∃cs6,Seg 216 cs6∧∃n7,some (tuple #[agg cs6,int .i64 n7])=some r2∧
 Cl k3 28 #[agg cs0,agg cs1,int .i8 n3,int .u8 n4] fun k5 r4=>∃A8 l8 c8,some (slice A8 l8 c8)=some r4∧
 Cl k5 22 #[slice A8 l8 c8,int .i64 1] fun k7 r6=>∃cs9,Seg 216 cs9∧∃n10,some (tuple #[agg cs9,int .i64 n10])=some r6∧
 Br ((n7:Int) != 0) (Rt R k7 (bool false)) (Br ((n10:Int) != 0) (Rt R k7 (bool false)) (Cl k7 30 #[agg cs0] fun k11 r10=>Gt 216 r10 fun cs11=>
 Cl k11 29 #[agg cs6,agg cs11] fun k13 r12=>Gb r12 fun b12=>
 Br (!b12) (Rt R k13 (bool false)) (Cl k13 30 #[agg cs1] fun k16 r15=>Gt 216 r15 fun cs13=>
 Cl k16 29 #[agg cs9,agg cs13] fun k18 r17=>Gb r17 fun b14=>
 Br (!b14) (Rt R k18 (bool false)) (Cl k18 30 #[agg cs2] fun k21 r20=>Gt 216 r20 fun cs15=>
 Cl k21 31 #[agg (cs6.toList++(cs9.toList++(cs15.toList++([])))).toArray] fun k23 r22=>∃cs16,Seg 216 cs16∧∃cs17,Seg 216 cs17∧∃cs18,Seg 216 cs18∧some (agg (cs16.toList++(cs17.toList++(cs18.toList++([])))).toArray)=some r22∧
 Cl k23 32 #[agg (cs6.toList++(cs9.toList++(cs15.toList++([])))).toArray] fun k25 r24=>∃cs19,Seg 9 cs19∧∃cs20,Seg 9 cs20∧some (tuple #[agg cs19,agg cs20])=some r24∧
 Cl k25 32 #[agg (cs16.toList++(cs17.toList++(cs18.toList++([])))).toArray] fun k27 r26=>∃cs21,Seg 9 cs21∧∃cs22,Seg 9 cs22∧some (tuple #[agg cs21,agg cs22])=some r26∧
 Cl k27 33 #[agg cs6] fun k29 r28=>Gt 234 r28 fun cs23=>
 Cl k29 33 #[agg cs16] fun k31 r30=>Gt 234 r30 fun cs24=>
 ∃I32:Nat→World→List Value→Prop,(∃m32,∀k32,Up k31 k32→I32 m32 k32 [int .i64 0])∧
 ∀m32 k32 vs32,Up k31 k32→I32 m32 k32 vs32→∃n25,some [int .i64 n25]=some vs32∧
 Br (decide ((n25:Int)<13)) ((decide ((0:Int)≤n25∧(n25:Int)<13))=true∧
 ((decide ((0:Int)≤n25∧(n25:Int)<13))=true∧
 (Cl k32 35 #[agg (Sy.pickL cs23 (Int.toNat n25*18+0) 18).toArray] fun k34 r33=>Gt 18 r33 fun cs26=>
 Cl k34 34 #[agg (Sy.pickL cs24 (Int.toNat n25*18+0) 18).toArray,agg cs26] fun k36 r35=>Gb r35 fun b27=>
 Br (!b27) (Rt R k36 (bool false)) (∀k38,Up k36 k38→∃m,m<m32∧I32 m k38 [int .i64 (wrap .i64 (n25+1))])))) (∃I39:Nat→World→List Value→Prop,(∃m39,∀k39,Up k32 k39→I39 m39 k39 [int .i64 0,agg #[bool false,slice none 0 0,bool false,slice none 0 0,bool false,slice none 0 0,bool false,slice none 0 0,slice none 0 0]])∧
 ∀m39 k39 vs39,Up k32 k39→I39 m39 k39 vs39→∃n26,∃cs27,Seg 9 cs27∧some [int .i64 n26,agg cs27]=some vs39∧
 Br (decide ((n26:Int)<24)) ((decide ((0:Int)≤n26∧(n26:Int)<24))=true∧
 (Cl k39 37 #[agg (Sy.pickL cs6 (Int.toNat n26*9+0) 9).toArray,agg (Sy.pickL cs6 (Int.toNat n26*9+0) 9).toArray] fun k41 r40=>Gt 9 r40 fun cs28=>
 Cl k41 36 #[agg cs27,agg cs28] fun k43 r42=>Gt 9 r42 fun cs29=>
 ∀k44,Up k43 k44→∃m,m<m39∧I39 m k44 [int .i64 (wrap .i64 (n26+1)),agg cs29])) (Cl k39 39 #[int .i64 1,int .i64 24] fun k46 r45=>Gt 3 r45 fun cs28=>
 Cl k46 38 #[agg cs27,agg cs28] fun k48 r47=>Gt 9 r47 fun cs29=>
 Cl k48 37 #[agg cs27,agg cs29] fun k50 r49=>Gt 9 r49 fun cs30=>
 Cl k50 41 #[agg cs19] fun k52 r51=>Gt 9 r51 fun cs31=>
 Cl k52 40 #[agg cs21,agg cs31] fun k54 r53=>Gb r53 fun b32=>
 Br b32 (Cl k54 40 #[agg cs22,agg cs20] fun k56 r55=>Gb r55 fun b33=>
 Br b33 (Cl k56 42 #[agg cs23] fun k58 r57=>Gt 9 r57 fun cs34=>
 Cl k58 40 #[agg cs34,agg cs30] fun k60 r59=>Gb r59 fun b35=>
 Br b35 (Cl k60 42 #[agg cs24] fun k62 r61=>Gt 9 r61 fun cs36=>
 Cl k62 40 #[agg cs36,agg cs30] fun k64 r63=>Gb r63 fun b37=>
 Br b37 (Cl k64 43 #[agg cs23] fun k66 r65=>Gt 216 r65 fun cs38=>
 Cl k66 29 #[agg cs38,agg cs6] fun k68 r67=>Gb r67 fun b39=>
 Br b39 (Cl k68 44 #[] fun k70 r69=>Gb r69 fun b40=>
 Rt R k70 (bool b40)) (Rt R k68 (bool false))) (Rt R k64 (bool false))) (Rt R k60 (bool false))) (Rt R k56 (bool false))) (Rt R k54 (bool false))))))))) :
  CallsG Tryz.prog 6 #[agg cs0,agg cs1,agg cs2,int .i8 n3,int .u8 n4] k R:=
  qX { opq:=[97,80,39,37,35,88],loops:=[(0,[.tmp 89 false [.int .i64]]),(2,[.tmp 103 false [.int .i64],.blk 13 [.seg 9]])] } [.agg [.seg 0 24],.agg [.seg 1 24],.agg [.seg 2 24],.one (.var 3),.one (.var 4)] [agg cs0,agg cs1,agg cs2,int .i8 n3,int .u8 n4] [.seg 24,.seg 24,.seg 24,.int .i8,.int .u8] ⟨⟨cs0,rfl,hcs0⟩,⟨cs1,rfl,hcs1⟩,⟨cs2,rfl,hcs2⟩,⟨_,rfl⟩,⟨_,rfl⟩,trivial⟩ h
end Go.Proofs.YtifcjpacobpdmaaGreat

namespace Go.Proofs.YtifcjpacobpdmaaGreat
open IntKind (wrap)
open Go.RowKit Num Plain W32 FT Ieee
open Sy (Up Sees CallsG Seg)
def I8V (a:Array Value) (z:Int):Prop:=a=#[.int .i8 z]∧-128≤z∧z≤127
theorem I8V.seg {a:Array Value}{z:Int}(h:I8V a z):Seg 1 a:=by
 obtain⟨rfl,_⟩:=h;exact⟨rfl,by simp [Value.scalar,Value.noWord]⟩
theorem I8V.cel {n j:Nat}{cs:Array Value}{r:Nat→Int}(h:ArrV n 1 I8V cs r) (hj:j<n):Sy.celD cs (Int.toNat (j:Int)*1)=some (.int .i8 (r j))∧-128≤r j∧r j≤127:=by
 obtain⟨e,h1,h2⟩:=ArrV.get h hj;refine⟨?_,h1,h2⟩;have hs:=eB cs 1 j 0 oz (by rw [h.size];omega);have e':elt cs 1 j=#[.int .i8 (r j)]:=e;rw [e']at hs;have hs':cs[j*1]?=some (.int .i8 (r j)):=hs.symm;unfold Sy.celD;show (match cs[j*1]? with|some (.agg _)=>none|some (.tuple _)=>none|x=>x)=_
 rw [hs']
def yV (z:Int):Nat:=(Sy.fltR .f32 .quo (FloatKind.nearest .f32 z) 1082130432).getD 0
def jZ (w:Int) (t:Nat):Nat:=if t % 2=1 then Op.negFloat .f32 (FloatKind.nearest .f32 w) else FloatKind.nearest .f32 w
def fL (w:Int) (t:Nat):Int:=if t % 2=1 then -w else w
def aHz (z w:Int) (t:Nat):Nat:=(Sy.fltR .f32 .add (yV z) (jZ w t)).getD 0
theorem wB {z:Int}(h:-128≤z∧z≤127):(Sy.fltR .f32 .quo (FloatKind.nearest .f32 z) 1082130432).isSome=true∧Wrd (yV z) (mkRat z 4):=by
 obtain⟨r,e,hr⟩:=aRf (z:=z) oq;unfold yV;rw [e];exact⟨rfl,hr⟩
theorem aLo {w:Int}(h:-128≤w∧w≤127) (t:Nat):Wrd (jZ w t) (mkRat (4*fL w t) 4):=by
 unfold jZ fL;split
 ·exact aRe oq
 ·exact aRd oq
theorem vN (a b:Int):mkRat a 4+mkRat b 4=mkRat (a+b) 4:=by
 rw [Rat.mkRat_add_mkRat _ _ oz oz,←Int.add_mul];exact Rat.mkRat_mul_right oz
theorem aIa {z w:Int}(h:-128≤z∧z≤127) (hw:-128≤w∧w≤127) (t:Nat):(Sy.fltR .f32 .add (yV z) (jZ w t)).isSome=true∧Wrd (aHz z w t) (mkRat (z+4*fL w t) 4):=by
 have hz:(z+4*fL w t).natAbs<2^24:=by unfold fL;split <;> omega
 obtain⟨r,e,hr⟩:=aRc (wB h).2 (aLo hw t) (vN _ _) hz;have e':Sy.fltR .f32 .add (yV z) (jZ w t)=some r:=e;unfold aHz;rw [e'];exact⟨rfl,hr⟩
def lU (r fo:Nat→Int) (w:Int) (i z:Nat):Nat:=match z with
 | 0=>aHz (r (i % 24)) w (i/24)
 | 1=>yV (fo (i % 24))
 | _=>0
def aWn (r fo:Nat→Int) (w:Int) (j t z:Nat):Rat:=match z with
 | 0=>mkRat (r j+4*fL w t) 4
 | 1=>mkRat (fo j) 4
 | _=>0
section
variable {k k':World}{R:World→Value→Prop}{K n:Nat}{cs cs' cs0 cs1 cs2:Array Value}{r fo ba:Nat→Int}{w:Int}{y:Nat}{f g:Nat→Q4}{A:Option Addr}{c:Nat}
abbrev I8s (r:Nat→Int):Prop:=∀j,j<24→-128≤r j∧r j≤127
theorem oD (hr:I8s r) (hf:I8s fo) (hw:-128≤w∧w≤127) (i z:Nat):Wrd (lU r fo w i z) (aWn r fo w (i % 24) (i/24) z):=by
 have hi:=qp i (show 24 > 0 by decide)
 match z with
 | 0=>exact (aIa (hr _ hi) hw _).2
 | 1=>exact (wB (hf _ hi)).2
 | z+2=>exact nN false 0
theorem aUc {t j:Nat}(hj:j<24):lU r fo w (24*t+j) 0=aHz (r j) w t∧lU r fo w (24*t+j) 1=yV (fo j):=by
 have e1:(24*t+j) % 24=j:=oq
 have e2:(24*t+j) / 24=t:=oq
 unfold lU;rw [e1,e2];exact⟨rfl,rfl⟩
theorem SmpV.seg {a:Array Value}{g:Nat→Nat}(h:SmpV a g):Seg 3 a:=by
 obtain⟨rfl,_⟩:=h;exact⟨rfl,by simp [Value.scalar,Value.noWord]⟩
theorem aMi (y:Nat):wrap .i64 (2*(wrap .i64 (1+(wrap .i64 (Int.tmod (y:Int) 3)))))=((2*(1+y % 3):Nat):Int):=by
 rw [show Int.tmod (y:Int) 3=((y % 3:Nat):Int) from (Int.ofNat_tmod y 3).symm];simp only [jv];omega
theorem uS (h0:ArrV 24 1 I8V cs0 r) (h1:ArrV 24 1 I8V cs1 fo) (hr:I8s r) (hf:I8s fo) (hw:-128≤w∧w≤127)
 (C:∀k' A c,Up k k'→Els k' A (24*(2*(1+y % 3))) 3 SmpV (lU r fo w)→R k' (.slice A (24*(2*(1+y % 3))) c)) :
 Cl k 28 #[.agg cs0,.agg cs1,.int .i8 w,.int .u8 (y:Int)] R:=by
 intro k0 u0;replace C:=fun k' A c u=>C k' A c (u0.trans u);refine aCe (ArrV.seg h0 fun _ _ h=>h.seg) (ArrV.seg h1 fun _ _ h=>h.seg) ?_;rw [aMi];generalize hT:2*(1+y % 3)=T at *
 have hT6:T≤6:=oq
 refine⟨fun m _ vs=>∃t A l c cs,t+m=T∧l=24*t∧vs=[.int .i64 ((t:Nat):Int),.tuple #[.slice A l c,.agg cs]]∧ArrV l 3 SmpV cs (lU r fo w),⟨T,fun _ _=>⟨0,none,0,0,#[],qe T,rfl,rfl,ArrV.empty⟩⟩,?_⟩;rintro m k1 vs u1 ⟨t,A,l,c,cs,ht,hl,rfl,hcs⟩;refine⟨_,A,l,c,cs,ArrV.rowC hcs fun _ _ h=>h.seg,rfl,fun hlt=>?_,fun hge k2 u2 hrow k3 u3=>?_⟩
 ·have hlt:=ow hlt;have hlt:t<T:=oq
  have step:∀sh:Nat,sh=jZ w t→∃I1:Nat→World→List Value→Prop,(∃m1,∀k2,Up k1 k2→I1 m1 k2 [Value.int .i64 0,Value.tuple #[Value.slice A l c,Value.agg cs]])∧
   ∀m1 k2 vs1,Up k1 k2→I1 m1 k2 vs1→∃n7,∃A8 l8 c8,∃cs9,Sy.RowC cs9∧some [Value.int .i64 n7,Value.tuple #[Value.slice A8 l8 c8,Value.agg cs9]]=some vs1∧
   ((decide ((n7:Int)<24))=true→
   ((decide ((0:Int)≤n7∧(n7:Int)<24))=true∧
   (∃n10,Sy.celD cs0 (Int.toNat n7*1)=some (Value.int .i8 n10)∧
   (Sy.fltR .f32 .quo (FloatKind.nearest .f32 n10) 1082130432).isSome=true∧
   ((Sy.fltR .f32 .add ((Sy.fltR .f32 .quo (FloatKind.nearest .f32 n10) 1082130432).getD 0) sh).isSome=true∧
   ((decide ((0:Int)≤n7∧(n7:Int)<24))=true∧
   (∃n11,Sy.celD cs1 (Int.toNat n7*1)=some (Value.int .i8 n11)∧
   (Sy.fltR .f32 .quo (FloatKind.nearest .f32 n11) 1082130432).isSome=true∧
   (([Value.float .f32 ((Sy.fltR .f32 .add ((Sy.fltR .f32 .quo (FloatKind.nearest .f32 n10) 1082130432).getD 0) sh).getD 0),Value.float .f32 ((Sy.fltR .f32 .quo (FloatKind.nearest .f32 n11) 1082130432).getD 0),Value.float .f32 0]:List Value).length=Int.toNat 1*3∧(0:Int)≤1∧Sy.sizeOk 12 (l8+Int.toNat 1)∧∀(A12:Option Addr) (l12 c12:Nat) (cs13:Array Value),l12=l8+Int.toNat 1→cs13=cs9++([Value.float .f32 ((Sy.fltR .f32 .add ((Sy.fltR .f32 .quo (FloatKind.nearest .f32 n10) 1082130432).getD 0) sh).getD 0),Value.float .f32 ((Sy.fltR .f32 .quo (FloatKind.nearest .f32 n11) 1082130432).getD 0),Value.float .f32 0]:List Value).toArray→l12≤c12→
   ∀k3,Up k2 k3→∃m',m'<m1∧I1 m' k3 [Value.int .i64 (wrap .i64 (n7+1)),Value.tuple #[Value.slice A12 l12 c12,Value.agg cs13]])))))))∧
   ((decide ((n7:Int)<24))=false→
   (∀k3,Up k2 k3→∃m',m'<m∧∃t2 A l c cs,t2+m'=T∧l=24*t2∧[Value.int .i64 (wrap .i64 ((t:Int)+1)),Value.tuple #[Value.slice A8 l8 c8,Value.agg cs9]]=[.int .i64 ((t2:Nat):Int),.tuple #[.slice A l c,.agg cs]]∧ArrV l 3 SmpV cs (lU r fo w))):=by
   rintro _ rfl;refine⟨fun m' _ vs=>∃j A l c cs,j+m'=24∧l=24*t+j∧vs=[.int .i64 ((j:Nat):Int),.tuple #[.slice A l c,.agg cs]]∧ArrV l 3 SmpV cs (lU r fo w),⟨24,fun _ _=>⟨0,A,l,c,cs,rfl,hl,rfl,hcs⟩⟩,?_⟩;rintro m2 k2 vs u2 ⟨j,A2,l2,c2,cs2,hj,hl2,rfl,hc2⟩;refine⟨_,A2,l2,c2,cs2,ArrV.rowC hc2 fun _ _ h=>h.seg,rfl,fun hlt2=>?_,fun hge2 k3 u3=>?_⟩
   ·have hlt2:=lt24 hlt2;obtain⟨e0,b0⟩:=I8V.cel h0 hlt2;obtain⟨e1,b1⟩:=I8V.cel h1 hlt2;obtain⟨a1,a2⟩:=aIa b0 hw t;obtain⟨q1,q2⟩:=wB b1;refine⟨ix24 hlt2,r j,e0,(wB b0).1,a1,ix24 hlt2,fo j,e1,q1,rfl,oz,⟨by show 12*(l2+1)≤_;omega,by show l2+1≤_;omega⟩,fun A3 l3 c3 cs3 el ec _ k4 u4=>?_⟩;obtain⟨w0,w1⟩:=aUc (r:=r) (fo:=fo) (w:=w) (t:=t) hlt2;refine⟨m2-1,oq,j+1,A3,l3,c3,cs3,oq,by rw [el,hl2];rfl,by rw [wup oq],?_⟩;rw [el,ec];refine ArrV.push (a:=#[.float .f32 (aHz (r j) w t),.float .f32 (yV (fo j)),.float .f32 0]) hc2 rfl ?_;rw [hl2];exact⟨by rw [w0,w1];rfl,by rw [w0];exact a2.lt,by rw [w1];exact q2.lt,(oD hr hf hw (24*t+j) 2).lt⟩
   ·have:=ge24 hge2;exact⟨m-1,oq,t+1,A2,l2,c2,cs2,oq,oq,by rw [wup oq],hc2⟩
  refine⟨fun ho=>step _ ?_,fun he=>step _ ?_⟩
  ·have:Int.tmod (t:Int) 2=1:=by simpa using ho
   rw [show Int.tmod (t:Int) 2=((t % 2:Nat):Int) from (Int.ofNat_tmod t 2).symm]at this;unfold jZ;rw [og oq]
  ·have:¬ Int.tmod (t:Int) 2=1:=by simpa using he
   rw [show Int.tmod (t:Int) 2=((t % 2:Nat):Int) from (Int.ofNat_tmod t 2).symm]at this;unfold jZ;rw [oh oq]
 ·have hge:=ov hge;have et:t=T:=oq
  subst et;subst hl;exact C k3 A c (u1.trans (u2.trans u3)) ((ArrV.els hcs (fun _ _ h=>h.seg) hrow).up u3)
end
section
variable {k k':World}{R:World→Value→Prop}{K n:Nat}{cs cs' cs0 cs1 cs2:Array Value}{r fo ba:Nat→Int}{w:Int}{y:Nat}{f g:Nat→Q4}{A:Option Addr}{c:Nat}
theorem aJi {t:Nat}(h:t≤6):1200≤kS t∧kS t≤76863∧2*kS t+1=kS (t+1):=by
 match t,h with
 | 0,_=>decide
 | 1,_=>decide
 | 2,_=>decide
 | 3,_=>decide
 | 4,_=>decide
 | 5,_=>decide
 | 6,_=>decide
theorem qN {f:Nat→Nat→Nat}{z:Int}{T:Nat}(hl:Els k A n 3 SmpV f) (hn:n=24*T) (hT0:T≠0) (hT:T≤6) (e:dR n z f=0)
 (C:∀k' cs,Up k k'→RoundV k' cs (tT (rdV f z.toNat) T) 153726→R k' (.tuple #[.agg cs,.int .i64 0])) :
 Cl k 22 #[.slice A n c,.int .i64 z] R:=by
 intro k0 u0;replace C:=fun k' cs u=>C k' cs (u0.trans u);refine yJ (yX (hl.up u0) oq fun k1 cs u1 hs hv=>⟨cs,hs,_,rfl,fun h=>?_,fun _=>?_⟩)
 ·rw [e]at h;cases h
 replace hv:=hv e;rw [show n/24=T by omega]at hv;generalize rdV f z.toNat=q at *
 clear hl e;refine⟨fun m k' vs=>∃j c,j+m=24∧vs=[.int .i64 (j:Int),.agg c]∧RoundV k' c (cut j (tT q T) fun _=>Q4.zero) 153726,⟨24,fun k' u=>⟨0,_,rfl,rfl,ArrV.start RoundV.zero⟩⟩,?_⟩;rintro m k3 vs u3 ⟨j,c,hj,rfl,hc⟩;refine⟨_,c,hc.seg,rfl,fun hlt=>?_,fun hge k4 u4=>?_⟩
 ·have hlt:=lt24 hlt;obtain⟨A',c',h1,h2,h3⟩:=(hv.up u3) j hlt;refine⟨ix24 hlt,A',T,c',h1,nO oz oz fun k5 d5 u5 h5=>⟨d5,h5.seg,rfl,rfl,?_⟩⟩;refine⟨fun m k' vs=>∃t c,t+m=T∧vs=[.int .i64 (t:Int),.agg c]∧RatV k' c (aCb (q j) t) (kS t),⟨T,fun k' u=>⟨0,_,oq,rfl,(h5.up u).mono oz⟩⟩,?_⟩;rintro m6 k6 vs u6 ⟨t,d,ht,rfl,hd⟩;refine⟨_,d,hd.seg,rfl,fun hlt6=>?_,fun hge6=>?_⟩
  ·have hlt6:=ow hlt6;obtain⟨r1,r2,a,r3,r4⟩:=h3.rat (i:=t) oq (u5.trans u6);obtain⟨s1,s2,s3⟩:=aJi (t:=t) oq;refine⟨r1,r2,a,r3.seg,r4,aRq hd (r3.mono s1) oq oq fun k7 d7 u7 h7=>⟨d7,h7.seg,rfl,fun k8 u8=>?_⟩⟩;rw [s3]at h7;exact⟨m6-1,oq,t+1,d7,oq,by rw [aWw oq],h7.up u8⟩
  ·have hge6:=ov hge6;have et:t=T:=oq
   subst et;obtain⟨s1,s2,s3⟩:=aJi (t:=t) oq;refine⟨rfl,nO oq oq fun k7 d7 u7 h7=>⟨d7,h7.seg,rfl,?_⟩⟩;refine aRr ((hd.up u7).mono s2) (h7.mono oz) oz oz fun k8 d8 u8 h8=>⟨d8,h8.seg,_,rfl,?_⟩;refine qK (SurdV.nil (K:=1) (jw _)) h8 fun k9 d9 u9 h9=>⟨d9,h9.seg,rfl,ix24 hlt,fun k10 u10=>?_⟩;have v:=u5.trans (u6.trans (u7.trans (u8.trans (u9.trans u10))));exact⟨m-1,oq,j+1,_,oq,by rw [wup oq],ArrV.step (hc.up v) hlt h9.seg.1 (h9.up u10)⟩
 ·exact C k4 c (u1.trans (u3.trans u4)) (ArrV.done (hc.up u4) (ge24 hge))
theorem uO (x w:Int):∀m,aCb (fun t=>mkRat (x+4*fL w t) 4) (2*m)=((2*m:Nat):Int)*mkRat x 4
 | 0=>by
  show (0:Rat)=((0:Nat):Int)*mkRat x 4;rw [show (((0:Nat):Int):Rat)=0 from rfl,Rat.zero_mul]
 | m+1=>by
  show aCb _ (2*m)+mkRat (x+4*fL w (2*m)) 4+mkRat (x+4*fL w (2*m+1)) 4=_;rw [uO x w m];have e1:fL w (2*m)=w:=oh oq;have e2:fL w (2*m+1)=-w:=og oq;have e3:mkRat (x+4*w) 4+mkRat (x+4*-w) 4=mkRat x 4+mkRat x 4:=by rw [vN,vN];congr 1;omega
  have e4:(((2*(m+1):Nat):Int):Rat)=((2*m:Nat):Int)+2:=by
   rw [show ((2*(m+1):Nat):Int)=((2*m:Nat):Int)+2 by omega,Rat.intCast_add];rfl
  rw [e1,e2,Rat.add_assoc,e3,e4]
  grind
theorem zL (x:Rat):∀m,aCb (fun _=>x) m=((m:Nat):Int)*x
 | 0=>by
  show (0:Rat)=((0:Nat):Int)*x;rw [show (((0:Nat):Int):Rat)=0 from rfl,Rat.zero_mul]
 | m+1=>by
  show aCb _ m+x=_;have e4:(((m+1:Nat):Int):Rat)=((m:Nat):Int)+1:=by
   rw [show ((m+1:Nat):Int)=((m:Nat):Int)+1 by omega,Rat.intCast_add];rfl
  rw [zL x m,e4]
  grind
def quQ (r:Nat→Int) (j:Nat):Q4:=Q4.real (mkRat (r j) 4)
theorem aCv (T:Nat) (x:Rat) (h:T≠0):((T:Int):Rat)*x/((T:Int):Rat)=x:=by
 have:((T:Int):Rat)≠0:=fun c=>h ((aKw T).1 c);rw [Rat.mul_comm,Rat.mul_div_cancel this]
theorem mean0 (hr:I8s r) (hf:I8s fo) (hw:-128≤w∧w≤127) {m j:Nat}(hm:m≠0) (hj:j<24):tT (rdV (lU r fo w) 0) (2*m) j=quQ r j:=by
 have e:rdV (lU r fo w) 0 j=fun t=>mkRat (r j+4*fL w t) 4:=by
  funext t
  show lP (lU r fo w (24*t+j) 0)=_;have:=(oD hr hf hw (24*t+j) 0).num;rw [show (24*t+j) % 24=j by omega,show (24*t+j) / 24=t by omega]at this;exact this
 unfold tT quQ;rw [e,uO,aCv _ _ oq]
theorem mean1 (hr:I8s r) (hf:I8s fo) (hw:-128≤w∧w≤127) {m j:Nat}(hm:m≠0) (hj:j<24):tT (rdV (lU r fo w) 1) (2*m) j=quQ fo j:=by
 have e:rdV (lU r fo w) 1 j=fun _=>mkRat (fo j) 4:=by
  funext t
  show lP (lU r fo w (24*t+j) 1)=_;have:=(oD hr hf hw (24*t+j) 1).num;rw [show (24*t+j) % 24=j by omega,show (24*t+j) / 24=t by omega]at this;exact this
 unfold tT quQ;rw [e,zL,aCv _ _ oq]
theorem aTz {z:Int}(h:-128≤z∧z≤127):Bel (Q4.real (mkRat z 4)) (B64^1):=by
 refine⟨z,0,0,0,4,oz,?_,jg (m:=128) oq oz,oz,oz,oz,oz⟩;unfold mkQ Q4.real;rw [ka]
theorem RoundV.quarter (h:RoundV k cs f K) (e:∀j,j<24→f j=quQ r j) (hr:I8s r):RoundV k cs (quQ r) 1:=
 Arr.mono h fun i _ hi hx=>by
  have hx:SurdV k _ (f i) K:=hx;rw [e i hi]at hx;exact SurdV.cutB hx (aTz (hr i hi))
theorem xP (hr:I8s r) (hf:I8s fo) (hw:-128≤w∧w≤127) {z:Int}(hz:0≤z∧z≤2) {T:Nat}(h0:T≠0) (h6:T≤6):dR (24*T) z (lU r fo w)=0:=by
 unfold dR;rw [oh oq,oh oq,og];intro i _;unfold fin3;rw [decide_eq_true (oD hr hf hw i 0).fin,decide_eq_true (oD hr hf hw i 1).fin,decide_eq_true (oD hr hf hw i 2).fin];rfl
theorem aMe {n d:Int}(hn:In64 n) (hd:In64 d) (C:∀k' ds,Up k k'→RatV k' ds (ofQ n d) 1→R k' (.agg ds)) :
 Cl k 39 #[.int .i64 n,.int .i64 d] R:=by
 intro k0 u0;exact aQs (aWh hn hd fun k1 d1 u1 h1=>⟨d1,h1.seg,rfl,fun k2 u2=>C k2 d1 (u0.trans (u1.trans u2)) (h1.up u2)⟩)
theorem aPv (z:Int):ofQ z 4=mkRat z 4:=by
 unfold ofQ;rw [oh oz,wj];rfl
theorem sO (h0:ArrV 24 1 I8V cs0 r) (C:∀k' ds,Up k k'→RoundV k' ds (quQ r) 1→R k' (.agg ds)) :
 Cl k 30 #[.agg cs0] R:=by
 intro k0 u0;replace C:=fun k' ds u=>C k' ds (u0.trans u);refine aHp (ArrV.seg h0 fun _ _ h=>h.seg) ⟨fun m k' vs=>∃j c,j+m=24∧vs=[.int .i64 (j:Int),.agg c]∧RoundV k' c (cut j (quQ r) fun _=>Q4.zero) 1,⟨24,fun k' u=>⟨0,_,rfl,rfl,ArrV.start RoundV.zero⟩⟩,?_⟩;rintro m k1 vs u1 ⟨j,c,hj,rfl,hc⟩;refine⟨_,c,hc.seg,rfl,fun hlt=>?_,fun hge k2 u2=>C k2 c (u1.trans u2) (ArrV.done (hc.up u2) (ge24 hge))⟩;have hlt:=lt24 hlt;obtain⟨e0,b1,b2⟩:=I8V.cel h0 hlt;refine⟨ix24 hlt,r j,e0,ix24 hlt,?_⟩;rw [show wrap .i64 (r j)=r j by rw [jv];omega];refine aMe ⟨oq,oq⟩ ⟨oz,oz⟩ fun k2 d2 u2 h2=>⟨d2,h2.seg,rfl,?_⟩;refine qK (ArrV.at (hc.up u2) hlt) h2 fun k3 d3 u3 h3=>⟨d3,h3.seg,rfl,ix24 hlt,fun k4 u4=>?_⟩;rw [aPv]at h3;exact⟨m-1,oq,j+1,_,oq,by rw [wup oq],ArrV.step (hc.up (u2.trans (u3.trans u4))) hlt h3.seg.1 (h3.up u4)⟩
theorem wM (hx:RoundV k cs f K) (hy:RoundV k cs' g K) (e:∀i,i<24→f i=g i) (hK1:1≤K) (hK:K≤134217727) (C:∀k',Up k k'→R k' (.bool true)) :
 Cl k 29 #[.agg cs,.agg cs'] R:=by
 intro k0 u0;replace hx:=hx.up u0;replace hy:=hy.up u0;refine aMf hx.seg hy.seg ⟨fun m k' vs=>∃j,j+m=24∧vs=[.int .i64 ((j:Nat):Int)],⟨24,fun k' u=>⟨0,rfl,rfl⟩⟩,?_⟩;rintro m k1 vs u1 ⟨j,hj,rfl⟩;refine⟨_,rfl,fun hlt=>?_,fun hge=>fun k2 u2=>C k2 ((u0.trans u1).trans u2)⟩;have hlt:=lt24 hlt;refine⟨ix24 hlt,ix24 hlt,?_⟩;refine lY (ArrV.get (hx.up u1) hlt) (ArrV.get (hy.up u1) hlt) (e j hlt) hK1 hK fun k2 u2=>⟨_,rfl,fun h=>(nomatch h),fun _ k3 u3=>?_⟩
 exact⟨m-1,oq,j+1,oq,by rw [wup oq]⟩
def unit24 (i:Nat):Q4:=if i=0 then Q4.real 24 else Q4.zero
theorem ord24 (n:Nat):cJ unit24 n=ofR (Q4.real 1):=by
 unfold cJ;rw [pL (m:=0) oz fun j _ hj=>by unfold unit24;rw [oh hj,aKc,W4.zero_mul]];have e:(ofR (unit24 0)).mul (trn (23*n*0))=W4.real 24:=by rw [Nat.mul_zero];decide +kernel
 rw [e];decide +kernel
theorem eng24:vE (cJ unit24)=Q4.real 24:=by
 rw [aAl (g:=fun _=>ofR (Q4.real 1)) fun n _=>ord24 n];decide +kernel
theorem aMc:eR (Q4.real 24)=[50,52]:=by
 rw [aGw _ (by decide +kernel)];unfold aH;rw [show (24:Rat).num=24 from rfl,show (24:Rat).den=1 from rfl,oh oz,og rfl,show (24:Int).natAbs=24 from rfl,aOp 24 2 4 rfl oz oz oz];rfl
theorem aQu {z:Int}(hz:In64 z) (C:∀k' ds,Up k k'→SurdV k' ds (Q4.real z) 1→R k' (.agg ds)) :
 Cl k 117 #[.int .i64 z] R:=by
 intro k0 u0;refine aMg (nO hz.1 hz.2 fun k1 d1 u1 h1=>⟨d1,h1.seg,rfl,?_⟩);exact qK (SurdV.nil (K:=1) (jw _)) h1 fun k2 d2 u2 h2=>⟨d2,h2.seg,rfl,fun k3 u3=>C k3 d2 (u0.trans (u1.trans (u2.trans u3))) (h2.up u3)⟩
theorem aLz (C:∀k',Up k k'→R k' (.bool true)):Cl k 44 #[] R:=by
 intro k0 u0;replace C:=fun k' u=>C k' (u0.trans u);refine aHn (aQu (z:=24) ⟨oz,oz⟩ fun k1 d1 u1 h1=>⟨d1,h1.seg,rfl,?_⟩);refine nP (K:=1) (f:=unit24) (xR h1) oz oz fun k2 d2 u2 h2=>⟨d2,h2.seg,rfl,?_⟩;refine nO (z:=1) oq oq fun k3 d3 u3 h3=>⟨d3,h3.seg,rfl,?_⟩;have hw:WaveV k3 (Sy.pickL d2 (Int.toNat 0*0+18) 18).toArray (cJ unit24 1) 99:=ArrV.get (i:=1) (h2.up u3) oz;rw [ord24]at hw;refine aVa hw h3 fun k4 d4 u4 h4=>⟨d4,h4.seg,rfl,?_⟩;refine aCl (hw.up u4) (h4.mono oz) rfl oz oz fun k5 u5=>⟨_,rfl,fun _=>?_,fun h=>(nomatch h)⟩
 refine rB (h2.up (u3.trans (u4.trans u5))) oz oz fun k6 d6 u6 h6=>⟨d6,h6.seg,rfl,?_⟩;rw [eng24]at h6;refine aNr h6 oz oz fun k7 u7=>⟨_,rfl,fun k8 u8=>?_⟩;have:=C k8 (u1.trans (u2.trans (u3.trans (u4.trans (u5.trans (u6.trans (u7.trans u8)))))));rw [show (ByteArray.toList (str (eR (Q4.real 24))) == ByteArray.toList ⟨#[50,52]⟩)=true from txt aMc];exact this
theorem aUi (h0:ArrV 24 1 I8V cs0 r) (h1:ArrV 24 1 I8V cs1 fo) (h2:ArrV 24 1 I8V cs2 ba) (hw:-128≤w∧w≤127) (C:∀k',Up k k'→R k' (.bool true)) :
 Cl k 6 #[.agg cs0,.agg cs1,.agg cs2,.int .i8 w,.int .u8 (y:Int)] R:=by
 intro k0 u0;replace C:=fun k' u=>C k' (u0.trans u);have hr:I8s r:=fun j hj=>(I8V.cel h0 hj).2;have hf:I8s fo:=fun j hj=>(I8V.cel h1 hj).2;have hm:1+y % 3≠0:=oq
 have hT0:2*(1+y % 3)≠0:=oq
 have hT6:2*(1+y % 3)≤6:=oq
 refine aMd (ArrV.seg h0 fun _ _ h=>h.seg) (ArrV.seg h1 fun _ _ h=>h.seg) (ArrV.seg h2 fun _ _ h=>h.seg) ?_;refine uS h0 h1 hr hf hw fun k1 A1 c1 u1 e1=>⟨A1,_,c1,rfl,?_⟩;refine qN e1 rfl hT0 hT6 (xP hr hf hw oz hT0 hT6) fun k2 c2 u2 a2=>⟨c2,a2.seg,_,rfl,?_⟩;replace a2:RoundV k2 c2 (quQ r) 1:=a2.quarter (fun j hj=>mean0 hr hf hw hm hj) hr;refine uS h0 h1 hr hf hw fun k3 A3 c3 u3 e3=>⟨A3,_,c3,rfl,?_⟩;refine qN e3 rfl hT0 hT6 (xP hr hf hw oz hT0 hT6) fun k4 c4 u4 a4=>⟨c4,a4.seg,_,rfl,fun h=>(nomatch h),fun _=>⟨fun h=>(nomatch h),fun _=>?_⟩⟩
 replace a4:RoundV k4 c4 (quQ fo) 1:=a4.quarter (fun j hj=>mean1 hr hf hw hm hj) hf;replace a2:=a2.up (u3.trans u4);replace C:=fun k' u=>C k' ((u1.trans (u2.trans (u3.trans u4))).trans u);clear u1 u2 u3 u4 e1 e3;refine sO h0 fun k5 c5 u5 a5=>⟨c5,a5.seg,rfl,?_⟩;refine wM (a2.up u5) a5 (fun _ _=>rfl) oz oz fun k6 u6=>⟨_,rfl,fun h=>(nomatch h),fun _=>?_⟩
 refine sO h1 fun k7 c7 u7 a7=>⟨c7,a7.seg,rfl,?_⟩;refine wM (a4.up (u5.trans (u6.trans u7))) a7 (fun _ _=>rfl) oz oz fun k8 u8=>⟨_,rfl,fun h=>(nomatch h),fun _=>?_⟩
 refine sO h2 fun k9 c9 u9 a9=>⟨c9,a9.seg,rfl,?_⟩;have u59:=u5.trans (u6.trans (u7.trans (u8.trans u9)));replace a2:=a2.up u59;replace a4:=a4.up u59;replace C:=fun k' u=>C k' (u59.trans u);clear u5 u6 u7 u8 u9 u59 a5 a7;generalize quQ r=f at *
 generalize quQ fo=g at *
 generalize quQ ba=h at *
 refine aBo a2 a4 a9 oz oz fun k10 r0 r1 r2 u10 b0 b1 b2=>⟨r0,b0.seg,r1,b1.seg,r2,b2.seg,rfl,?_⟩;refine aDz (a2.up u10).seg (a4.up u10) (a9.up u10) oz oz fun k11 co st u11 hco hst=>⟨co,hco.seg,st,hst.seg,rfl,?_⟩;refine aDz (b0.up u11).seg (b1.up u11) (b2.up u11) oz oz fun k12 dd vv u12 hdd hvv=>⟨dd,hdd.seg,vv,hvv.seg,rfl,?_⟩;refine nP (a2.up (u10.trans (u11.trans u12))) oz oz fun k13 p u13 hp=>⟨p,hp.seg,rfl,?_⟩;refine nP (b0.up (u11.trans (u12.trans u13))) oz oz fun k14 q u14 hq=>⟨q,hq.seg,rfl,?_⟩;have u24:=u12.trans (u13.trans u14);have u04:=u10.trans (u11.trans u24);replace hco:=hco.up u24;replace hst:=hst.up u24;replace hdd:=hdd.up (u13.trans u14);replace hvv:=hvv.up (u13.trans u14);replace hp:=hp.up u14;replace a2:=a2.up u04;replace C:=fun k' u=>C k' (u04.trans u);rw [aQe]at hdd;rw [aKx]at hvv;clear u10 u11 u12 u13 u14 u24 u04 b0 b1 b2 a4 a9;refine⟨fun m _ vs=>∃j,j+m=13∧vs=[.int .i64 ((j:Nat):Int)],⟨13,fun _ _=>⟨0,rfl,rfl⟩⟩,?_⟩;rintro m k15 vs u15 ⟨j,hj,rfl⟩;refine⟨_,rfl,fun hlt=>?_,fun hge=>?_⟩
 ·have hlt:=lt13 hlt;refine⟨ix13 hlt,ix13 hlt,aNt (ArrV.get (hp.up u15) hlt) oz fun k16 e16 u16 h16=>⟨e16,h16.seg,rfl,?_⟩⟩;refine aCl (ArrV.get ((hq.up u15).up u16) hlt) h16 (aBe f j) oz oz fun k17 u17=>⟨_,rfl,fun h=>(nomatch h),fun _ k18 u18=>?_⟩
  exact⟨m-1,oq,j+1,oq,by rw [wup oq]⟩
 replace hco:=hco.up u15;replace hst:=hst.up u15;replace hdd:=hdd.up u15;replace hvv:=hvv.up u15;replace hp:=hp.up u15;replace hq:=hq.up u15;replace a2:=a2.up u15;replace C:=fun k' u=>C k' (u15.trans u);clear u15;refine⟨fun m k' vs=>∃j c,j+m=24∧vs=[.int .i64 ((j:Nat):Int),.agg c]∧SurdV k' c (cK (fun i=>(f i).mul (f i)) j) (1+4*j),⟨24,fun _ _=>⟨0,_,rfl,rfl,SurdV.nil (jw _)⟩⟩,?_⟩;rintro m2 k16 vs u16 ⟨i,c,hi,rfl,hc⟩;refine⟨_,c,hc.seg,rfl,fun hlt=>?_,fun hge2=>?_⟩
 ·have hlt:=lt24 hlt;refine⟨ix24 hlt,iM (ArrV.get (a2.up u16) hlt) (ArrV.get (a2.up u16) hlt) oz oz oz oz fun k17 d17 u17 h17=>⟨d17,h17.seg,rfl,?_⟩⟩;refine uW (hc.up u17) h17 oq oz oq oz fun k18 d18 u18 h18=>⟨d18,h18.seg,rfl,fun k19 u19=>?_⟩;exact⟨m2-1,oq,i+1,d18,oq,by rw [wup oq],(h18.up u19).mono oq⟩
 have ei:i=24:=by have:=ge24 hge2;omega
 subst ei;refine aMe (n:=1) (d:=24) ⟨oz,oz⟩ ⟨oz,oz⟩ fun k17 d17 u17 h17=>⟨d17,h17.seg,rfl,?_⟩;refine qK (hc.up u17) h17 fun k18 d18 u18 h18=>⟨d18,h18.seg,rfl,?_⟩;refine iM (hc.up (u17.trans u18)) h18 oz oz oz oz fun k19 d19 u19 h19=>⟨d19,h19.seg,rfl,?_⟩;have u69:=u16.trans (u17.trans (u18.trans u19));rw [show ofQ 1 24=1/24 by decide +kernel,←aOs f]at h19;replace h19:SurdV k19 d19 (vE (cJ f)) 6000:=h19.mono oz;refine dZ (hco.up u69) oz fun k20 d20 u20 h20=>⟨d20,h20.seg,rfl,?_⟩;refine lY (K:=1000) (SurdV.mono (hdd.up (u69.trans u20)) oz) (h20.mono oz) rfl oz oz fun k21 u21=>⟨_,rfl,fun _=>?_,fun h=>(nomatch h)⟩
 refine lY (K:=1000) (SurdV.mono (hvv.up (u69.trans (u20.trans u21))) oz) (SurdV.mono (hst.up (u69.trans (u20.trans u21))) oz) rfl oz oz fun k22 u22=>⟨_,rfl,fun _=>?_,fun h=>(nomatch h)⟩
 have u92:=u20.trans (u21.trans u22);have u62:=u69.trans u92;replace h19:=h19.up u92;replace hp:=hp.up u62;replace hq:=hq.up u62;replace a2:=a2.up u62;replace C:=fun k' u=>C k' (u62.trans u);clear u16 u17 u18 u19 u20 u21 u22 u69 u92 u62 hco hst hdd hvv h20;refine rB hp oz oz fun k23 d23 u23 h23=>⟨d23,h23.seg,rfl,?_⟩;refine lY (h23.mono oz) (h19.up u23) rfl oz oz fun k24 u24=>⟨_,rfl,fun _=>?_,fun h=>(nomatch h)⟩
 refine rB (hq.up (u23.trans u24)) oz oz fun k25 d25 u25 h25=>⟨d25,h25.seg,rfl,?_⟩;refine lY (h25.mono oz) (h19.up (u23.trans (u24.trans u25))) (aSz f) oz oz fun k26 u26=>⟨_,rfl,fun _=>?_,fun h=>(nomatch h)⟩
 have u36:=u23.trans (u24.trans (u25.trans u26));refine aQq (hp.up u36) oz oz fun k27 d27 u27 h27=>⟨d27,h27.seg,rfl,?_⟩;refine wM (K:=5000) (RoundV.mono h27 oz) (RoundV.mono (a2.up (u36.trans u27)) oz) (fun i hi=>aEd f hi) oz oz fun k28 u28=>⟨_,rfl,fun _=>?_,fun h=>(nomatch h)⟩
 exact aLz fun k29 u29=>⟨_,rfl,fun k30 u30=>C k30 (u36.trans (u27.trans (u28.trans (u29.trans u30))))⟩
end
