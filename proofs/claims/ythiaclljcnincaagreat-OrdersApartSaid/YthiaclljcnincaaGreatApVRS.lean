/- Several texts in one. (Printed by prep.py.) -/
import Derived.Test.YthiaclljcnincaaGreatApQ5
namespace Go.Proofs.YthiaclljcnincaaGreat
open Go.RowKit
open Value (agg slice int bool tuple)
open Sy (Up Sees CallsG Seg execFn_use)
set_option maxRecDepth 100000
variable {k:World}{R:World→Value→Prop}{cs0 cs1 cs2 cs3 cs4 cs5 cs6 cs7:Array Value}
theorem aQh (hcs0:Seg 3 cs0)
 (h:Cl k 64 #[int .i64 0] fun k1 r0=>Gt 3 r0 fun cs1=>
 Cl k1 64 #[int .i64 0] fun k3 r2=>Gt 3 r2 fun cs2=>
 Cl k3 64 #[int .i64 0] fun k5 r4=>Gt 3 r4 fun cs3=>
 Rt R k5 (Rg cs0 cs1 cs2 cs3)) :
  CallsG Tryz.prog 96 #[agg cs0] k R:=
  qX { opq:=[60] } [.agg [.seg 0 3]] [agg cs0] [.seg 3] ⟨⟨cs0,rfl,hcs0⟩,trivial⟩ h
theorem aVe (hcs0:Seg 3 cs0) (hcs1:Seg 3 cs1) (hcs2:Seg 3 cs2) (hcs3:Seg 3 cs3)
 (h:Cl k 100 #[agg cs0] fun k1 r0=>Gt 3 r0 fun cs4=>
 Cl k1 100 #[agg cs1] fun k3 r2=>Gt 3 r2 fun cs5=>
 Cl k3 100 #[agg cs2] fun k5 r4=>Gt 3 r4 fun cs6=>
 Cl k5 100 #[agg cs3] fun k7 r6=>Gt 3 r6 fun cs7=>
 Rt R k7 (Rg cs4 cs5 cs6 cs7)) :
  CallsG Tryz.prog 66 #[Rg cs0 cs1 cs2 cs3] k R:=
  qX { opq:=[60] } [.agg [.seg 0 3,.seg 1 3,.seg 2 3,.seg 3 3]] [agg cs0,agg cs1,agg cs2,agg cs3] [.seg 3,.seg 3,.seg 3,.seg 3] ⟨⟨cs0,rfl,hcs0⟩,⟨cs1,rfl,hcs1⟩,⟨cs2,rfl,hcs2⟩,⟨cs3,rfl,hcs3⟩,trivial⟩ h
theorem aVc (hcs0:Seg 3 cs0) (hcs1:Seg 3 cs1) (hcs2:Seg 3 cs2) (hcs3:Seg 3 cs3) (hcs4:Seg 3 cs4) (hcs5:Seg 3 cs5) (hcs6:Seg 3 cs6) (hcs7:Seg 3 cs7)
 (h:Cl k 101 #[agg cs0,agg cs4] fun k1 r0=>Gt 3 r0 fun cs8=>
 Cl k1 101 #[agg cs1,agg cs5] fun k3 r2=>Gt 3 r2 fun cs9=>
 Cl k3 101 #[agg cs2,agg cs6] fun k5 r4=>Gt 3 r4 fun cs10=>
 Cl k5 101 #[agg cs3,agg cs7] fun k7 r6=>Gt 3 r6 fun cs11=>
 Rt R k7 (Rg cs8 cs9 cs10 cs11)) :
  CallsG Tryz.prog 67 #[Rg cs0 cs1 cs2 cs3,Rg cs4 cs5 cs6 cs7] k R:=
  qX { opq:=[60] } [.agg [.seg 0 3,.seg 1 3,.seg 2 3,.seg 3 3],.agg [.seg 4 3,.seg 5 3,.seg 6 3,.seg 7 3]] [agg cs0,agg cs1,agg cs2,agg cs3,agg cs4,agg cs5,agg cs6,agg cs7] [.seg 3,.seg 3,.seg 3,.seg 3,.seg 3,.seg 3,.seg 3,.seg 3] ⟨⟨cs0,rfl,hcs0⟩,⟨cs1,rfl,hcs1⟩,⟨cs2,rfl,hcs2⟩,⟨cs3,rfl,hcs3⟩,⟨cs4,rfl,hcs4⟩,⟨cs5,rfl,hcs5⟩,⟨cs6,rfl,hcs6⟩,⟨cs7,rfl,hcs7⟩,trivial⟩ h
theorem aVf (hcs0:Seg 12 cs0) (hcs1:Seg 12 cs1)
 (h:Cl k 66 #[agg cs1] fun k1 r0=>Gt 12 r0 fun cs2=>
 Cl k1 67 #[agg cs0,agg cs2] fun k3 r2=>Gt 12 r2 fun cs3=>
 Rt R k3 (agg cs3)) :
  CallsG Tryz.prog 68 #[agg cs0,agg cs1] k R:=
  qX { opq:=[62] } [.agg [.seg 0 12],.agg [.seg 1 12]] [agg cs0,agg cs1] [.seg 12,.seg 12] ⟨⟨cs0,rfl,hcs0⟩,⟨cs1,rfl,hcs1⟩,trivial⟩ h
theorem aVd (hcs0:Seg 3 cs0) (hcs1:Seg 3 cs1) (hcs2:Seg 3 cs2) (hcs3:Seg 3 cs3) (hcs4:Seg 3 cs4) (hcs5:Seg 3 cs5) (hcs6:Seg 3 cs6) (hcs7:Seg 3 cs7)
 (h:Cl k 64 #[int .i64 0] fun k1 r0=>Gt 3 r0 fun cs8=>
 Cl k1 96 #[agg cs8] fun k3 r2=>∃cs9,Seg 3 cs9∧∃cs10,Seg 3 cs10∧∃cs11,Seg 3 cs11∧∃cs12,Seg 3 cs12∧some (Rg cs9 cs10 cs11 cs12)=some r2∧
 Cl k3 102 #[agg cs0,agg cs4] fun k5 r4=>Gt 3 r4 fun cs13=>
 Cl k5 101 #[agg cs9,agg cs13] fun k7 r6=>Gt 3 r6 fun cs14=>
 Cl k7 102 #[agg cs0,agg cs5] fun k9 r8=>Gt 3 r8 fun cs15=>
 Cl k9 101 #[agg cs10,agg cs15] fun k11 r10=>Gt 3 r10 fun cs16=>
 Cl k11 102 #[agg cs0,agg cs6] fun k13 r12=>Gt 3 r12 fun cs17=>
 Cl k13 101 #[agg cs11,agg cs17] fun k15 r14=>Gt 3 r14 fun cs18=>
 Cl k15 102 #[agg cs0,agg cs7] fun k17 r16=>Gt 3 r16 fun cs19=>
 Cl k17 101 #[agg cs12,agg cs19] fun k19 r18=>Gt 3 r18 fun cs20=>
 Cl k19 102 #[agg cs1,agg cs4] fun k21 r20=>Gt 3 r20 fun cs21=>
 Cl k21 101 #[agg cs16,agg cs21] fun k23 r22=>Gt 3 r22 fun cs22=>
 Cl k23 102 #[agg cs1,agg cs5] fun k25 r24=>Gt 3 r24 fun cs23=>
 Cl k25 64 #[int .i64 2] fun k27 r26=>Gt 3 r26 fun cs24=>
 Cl k27 102 #[agg cs23,agg cs24] fun k29 r28=>Gt 3 r28 fun cs25=>
 Cl k29 101 #[agg cs14,agg cs25] fun k31 r30=>Gt 3 r30 fun cs26=>
 Cl k31 102 #[agg cs1,agg cs6] fun k33 r32=>Gt 3 r32 fun cs27=>
 Cl k33 101 #[agg cs20,agg cs27] fun k35 r34=>Gt 3 r34 fun cs28=>
 Cl k35 102 #[agg cs1,agg cs7] fun k37 r36=>Gt 3 r36 fun cs29=>
 Cl k37 64 #[int .i64 2] fun k39 r38=>Gt 3 r38 fun cs30=>
 Cl k39 102 #[agg cs29,agg cs30] fun k41 r40=>Gt 3 r40 fun cs31=>
 Cl k41 101 #[agg cs18,agg cs31] fun k43 r42=>Gt 3 r42 fun cs32=>
 Cl k43 102 #[agg cs2,agg cs4] fun k45 r44=>Gt 3 r44 fun cs33=>
 Cl k45 101 #[agg cs32,agg cs33] fun k47 r46=>Gt 3 r46 fun cs34=>
 Cl k47 102 #[agg cs2,agg cs5] fun k49 r48=>Gt 3 r48 fun cs35=>
 Cl k49 101 #[agg cs28,agg cs35] fun k51 r50=>Gt 3 r50 fun cs36=>
 Cl k51 102 #[agg cs2,agg cs6] fun k53 r52=>Gt 3 r52 fun cs37=>
 Cl k53 64 #[int .i64 3] fun k55 r54=>Gt 3 r54 fun cs38=>
 Cl k55 102 #[agg cs37,agg cs38] fun k57 r56=>Gt 3 r56 fun cs39=>
 Cl k57 101 #[agg cs26,agg cs39] fun k59 r58=>Gt 3 r58 fun cs40=>
 Cl k59 102 #[agg cs2,agg cs7] fun k61 r60=>Gt 3 r60 fun cs41=>
 Cl k61 64 #[int .i64 3] fun k63 r62=>Gt 3 r62 fun cs42=>
 Cl k63 102 #[agg cs41,agg cs42] fun k65 r64=>Gt 3 r64 fun cs43=>
 Cl k65 101 #[agg cs22,agg cs43] fun k67 r66=>Gt 3 r66 fun cs44=>
 Cl k67 102 #[agg cs3,agg cs4] fun k69 r68=>Gt 3 r68 fun cs45=>
 Cl k69 101 #[agg cs36,agg cs45] fun k71 r70=>Gt 3 r70 fun cs46=>
 Cl k71 102 #[agg cs3,agg cs5] fun k73 r72=>Gt 3 r72 fun cs47=>
 Cl k73 64 #[int .i64 2] fun k75 r74=>Gt 3 r74 fun cs48=>
 Cl k75 102 #[agg cs47,agg cs48] fun k77 r76=>Gt 3 r76 fun cs49=>
 Cl k77 101 #[agg cs34,agg cs49] fun k79 r78=>Gt 3 r78 fun cs50=>
 Cl k79 102 #[agg cs3,agg cs6] fun k81 r80=>Gt 3 r80 fun cs51=>
 Cl k81 64 #[int .i64 3] fun k83 r82=>Gt 3 r82 fun cs52=>
 Cl k83 102 #[agg cs51,agg cs52] fun k85 r84=>Gt 3 r84 fun cs53=>
 Cl k85 101 #[agg cs44,agg cs53] fun k87 r86=>Gt 3 r86 fun cs54=>
 Cl k87 102 #[agg cs3,agg cs7] fun k89 r88=>Gt 3 r88 fun cs55=>
 Cl k89 64 #[int .i64 2] fun k91 r90=>Gt 3 r90 fun cs56=>
 Cl k91 102 #[agg cs55,agg cs56] fun k93 r92=>Gt 3 r92 fun cs57=>
 Cl k93 64 #[int .i64 3] fun k95 r94=>Gt 3 r94 fun cs58=>
 Cl k95 102 #[agg cs57,agg cs58] fun k97 r96=>Gt 3 r96 fun cs59=>
 Cl k97 101 #[agg cs40,agg cs59] fun k99 r98=>Gt 3 r98 fun cs60=>
 Rt R k99 (Rg cs60 cs54 cs50 cs46)) :
  CallsG Tryz.prog 69 #[Rg cs0 cs1 cs2 cs3,Rg cs4 cs5 cs6 cs7] k R:=
  qX { opq:=[60] } [.agg [.seg 0 3,.seg 1 3,.seg 2 3,.seg 3 3],.agg [.seg 4 3,.seg 5 3,.seg 6 3,.seg 7 3]] [agg cs0,agg cs1,agg cs2,agg cs3,agg cs4,agg cs5,agg cs6,agg cs7] [.seg 3,.seg 3,.seg 3,.seg 3,.seg 3,.seg 3,.seg 3,.seg 3] ⟨⟨cs0,rfl,hcs0⟩,⟨cs1,rfl,hcs1⟩,⟨cs2,rfl,hcs2⟩,⟨cs3,rfl,hcs3⟩,⟨cs4,rfl,hcs4⟩,⟨cs5,rfl,hcs5⟩,⟨cs6,rfl,hcs6⟩,⟨cs7,rfl,hcs7⟩,trivial⟩ h
theorem aQi (hcs0:Seg 3 cs0) (hcs1:Seg 3 cs1) (hcs2:Seg 3 cs2) (hcs3:Seg 3 cs3)
 (h:Cl k 70 #[agg cs0] fun k1 r0=>Gb r0 fun b4=>
 Br b4 (Cl k1 70 #[agg cs1] fun k3 r2=>Gb r2 fun b5=>
 Br b5 (Cl k3 70 #[agg cs2] fun k5 r4=>Gb r4 fun b6=>
 Br b6 (Cl k5 70 #[agg cs3] fun k7 r6=>Gb r6 fun b7=>
 Rt R k7 (bool b7)) (Rt R k5 (bool false))) (Rt R k3 (bool false))) (Rt R k1 (bool false))) :
  CallsG Tryz.prog 44 #[Rg cs0 cs1 cs2 cs3] k R:=
  qX { opq:=[60] } [.agg [.seg 0 3,.seg 1 3,.seg 2 3,.seg 3 3]] [agg cs0,agg cs1,agg cs2,agg cs3] [.seg 3,.seg 3,.seg 3,.seg 3] ⟨⟨cs0,rfl,hcs0⟩,⟨cs1,rfl,hcs1⟩,⟨cs2,rfl,hcs2⟩,⟨cs3,rfl,hcs3⟩,trivial⟩ h
theorem aQe (hcs0:Seg 12 cs0) (hcs1:Seg 12 cs1) (hcs2:Seg 12 cs2) (hcs3:Seg 12 cs3)
 (h:Cl k 67 #[agg cs0,agg cs2] fun k1 r0=>Gt 12 r0 fun cs4=>
 Cl k1 67 #[agg cs1,agg cs3] fun k3 r2=>Gt 12 r2 fun cs5=>
 Rt R k3 (agg (cs4.toList++(cs5.toList++([]))).toArray)) :
  CallsG Tryz.prog 42 #[agg (cs0.toList++(cs1.toList++([]))).toArray,agg (cs2.toList++(cs3.toList++([]))).toArray] k R:=
  qX { opq:=[62] } [.agg [.seg 0 12,.seg 1 12],.agg [.seg 2 12,.seg 3 12]] [agg cs0,agg cs1,agg cs2,agg cs3] [.seg 12,.seg 12,.seg 12,.seg 12] ⟨⟨cs0,rfl,hcs0⟩,⟨cs1,rfl,hcs1⟩,⟨cs2,rfl,hcs2⟩,⟨cs3,rfl,hcs3⟩,trivial⟩ h
theorem aQg (hcs0:Seg 12 cs0) (hcs1:Seg 12 cs1) (hcs2:Seg 12 cs2) (hcs3:Seg 12 cs3)
 (h:Cl k 68 #[agg cs0,agg cs2] fun k1 r0=>Gt 12 r0 fun cs4=>
 Cl k1 68 #[agg cs1,agg cs3] fun k3 r2=>Gt 12 r2 fun cs5=>
 Rt R k3 (agg (cs4.toList++(cs5.toList++([]))).toArray)) :
  CallsG Tryz.prog 45 #[agg (cs0.toList++(cs1.toList++([]))).toArray,agg (cs2.toList++(cs3.toList++([]))).toArray] k R:=
  qX { opq:=[62] } [.agg [.seg 0 12,.seg 1 12],.agg [.seg 2 12,.seg 3 12]] [agg cs0,agg cs1,agg cs2,agg cs3] [.seg 12,.seg 12,.seg 12,.seg 12] ⟨⟨cs0,rfl,hcs0⟩,⟨cs1,rfl,hcs1⟩,⟨cs2,rfl,hcs2⟩,⟨cs3,rfl,hcs3⟩,trivial⟩ h
theorem aQf (hcs0:Seg 12 cs0) (hcs1:Seg 12 cs1) (hcs2:Seg 12 cs2) (hcs3:Seg 12 cs3)
 (h:Cl k 69 #[agg cs0,agg cs2] fun k1 r0=>Gt 12 r0 fun cs4=>
 Cl k1 69 #[agg cs1,agg cs3] fun k3 r2=>Gt 12 r2 fun cs5=>
 Cl k3 68 #[agg cs4,agg cs5] fun k5 r4=>Gt 12 r4 fun cs6=>
 Cl k5 69 #[agg cs0,agg cs3] fun k7 r6=>Gt 12 r6 fun cs7=>
 Cl k7 69 #[agg cs1,agg cs2] fun k9 r8=>Gt 12 r8 fun cs8=>
 Cl k9 67 #[agg cs7,agg cs8] fun k11 r10=>Gt 12 r10 fun cs9=>
 Rt R k11 (agg (cs6.toList++(cs9.toList++([]))).toArray)) :
  CallsG Tryz.prog 43 #[agg (cs0.toList++(cs1.toList++([]))).toArray,agg (cs2.toList++(cs3.toList++([]))).toArray] k R:=
  qX { opq:=[62] } [.agg [.seg 0 12,.seg 1 12],.agg [.seg 2 12,.seg 3 12]] [agg cs0,agg cs1,agg cs2,agg cs3] [.seg 12,.seg 12,.seg 12,.seg 12] ⟨⟨cs0,rfl,hcs0⟩,⟨cs1,rfl,hcs1⟩,⟨cs2,rfl,hcs2⟩,⟨cs3,rfl,hcs3⟩,trivial⟩ h
theorem aKn (hcs0:Seg 12 cs0) (hcs1:Seg 12 cs1)
 (h:Cl k 66 #[agg cs1] fun k1 r0=>Gt 12 r0 fun cs2=>
 Rt R k1 (agg (cs0.toList++(cs2.toList++([]))).toArray)) :
  CallsG Tryz.prog 41 #[agg (cs0.toList++(cs1.toList++([]))).toArray] k R:=
  qX { opq:=[62] } [.agg [.seg 0 12,.seg 1 12]] [agg cs0,agg cs1] [.seg 12,.seg 12] ⟨⟨cs0,rfl,hcs0⟩,⟨cs1,rfl,hcs1⟩,trivial⟩ h
theorem aKo (hcs0:Seg 3 cs0)
 (h:Cl k 96 #[agg cs0] fun k1 r0=>Gt 12 r0 fun cs1=>
 Cl k1 64 #[int .i64 0] fun k3 r2=>Gt 3 r2 fun cs2=>
 Cl k3 96 #[agg cs2] fun k5 r4=>Gt 12 r4 fun cs3=>
 Rt R k5 (agg (cs1.toList++(cs3.toList++([]))).toArray)) :
  CallsG Tryz.prog 63 #[agg cs0] k R:=
  qX { opq:=[60,62] } [.agg [.seg 0 3]] [agg cs0] [.seg 3] ⟨⟨cs0,rfl,hcs0⟩,trivial⟩ h
theorem aKp (hcs0:Seg 12 cs0) (hcs1:Seg 12 cs1)
 (h:Cl k 44 #[agg cs0] fun k1 r0=>Gb r0 fun b2=>
 Br b2 (Cl k1 44 #[agg cs1] fun k3 r2=>Gb r2 fun b3=>
 Rt R k3 (bool b3)) (Rt R k1 (bool false))) :
  CallsG Tryz.prog 19 #[agg (cs0.toList++(cs1.toList++([]))).toArray] k R:=
  qX { opq:=[62] } [.agg [.seg 0 12,.seg 1 12]] [agg cs0,agg cs1] [.seg 12,.seg 12] ⟨⟨cs0,rfl,hcs0⟩,⟨cs1,rfl,hcs1⟩,trivial⟩ h
end Go.Proofs.YthiaclljcnincaaGreat

namespace Go.Proofs.YthiaclljcnincaaGreat
open Go.RowKit
open Value (agg slice int bool tuple)
open Sy (Up Sees CallsG Seg execFn_use)
set_option maxRecDepth 100000
variable {k:World}{R:World→Value→Prop}
end Go.Proofs.YthiaclljcnincaaGreat

namespace Go.Proofs.YthiaclljcnincaaGreat
open Go.RowKit Num W32
open Sy (Up Sees CallsG)
section
variable {k k':World}{R:World→Value→Prop}{x y q:Rat}{K L:Nat}{cs cs':Array Value}{g:Bool}{A A':Option Addr}{l c l' c':Nat}
end
