/- Several texts in one. (Printed by prep.py.) -/
import Derived.Test.YtifcjpacobpdmaaGreatRpQ5
import Ieee.Arith
import Derived.Test.YtifcjpacobpdmaaGreatRpRat5
namespace Go.Proofs.YtifcjpacobpdmaaGreat
open Go.RowKit
open Value (agg slice int bool tuple)
open Sy (Up Sees CallsG Seg execFn_use)
set_option maxRecDepth 100000
variable {k:World}{R:World→Value→Prop}{cs0 cs1:Array Value}{n0 n1 n2 n3 n4 n5 n6 n7 n8 n9 n10 n11 n12 n13 n14 n15:Int}
theorem aZx (hcs0:Seg 3 cs0) (hcs1:Seg 3 cs1)
 (h:Cl k 180 #[agg cs0,agg cs1] fun k1 r0=>∃cs2,Seg 3 cs2∧∃n3,some (tuple #[agg cs2,int .i64 n3])=some r0∧
 Rt R k1 (agg cs2)) :
  CallsG Tryz.prog 91 #[agg cs0,agg cs1] k R:=
  qX { opq:=[42] } [.agg [.seg 0 3],.agg [.seg 1 3]] [agg cs0,agg cs1] [.seg 3,.seg 3] ⟨⟨cs0,rfl,hcs0⟩,⟨cs1,rfl,hcs1⟩,trivial⟩ h
theorem aFb 
 (h:Cl k 123 #[agg #[int .i64 n0,int .i64 n1]] fun k1 r0=>Gt 3 r0 fun cs8=>
 Cl k1 123 #[agg #[int .i64 n2,int .i64 n3]] fun k3 r2=>Gt 3 r2 fun cs9=>
 Cl k3 123 #[agg #[int .i64 n4,int .i64 n5]] fun k5 r4=>Gt 3 r4 fun cs10=>
 Cl k5 123 #[agg #[int .i64 n6,int .i64 n7]] fun k7 r6=>Gt 3 r6 fun cs11=>
 Rt R k7 (Rg cs8 cs9 cs10 cs11)) :
  CallsG Tryz.prog 159 #[agg #[int .i64 n0,int .i64 n1,int .i64 n2,int .i64 n3,int .i64 n4,int .i64 n5,int .i64 n6,int .i64 n7]] k R:=
  qY { opq:=[42] } h
theorem aFt 
 (h:Cl k 159 #[agg #[int .i64 n0,int .i64 n1,int .i64 n2,int .i64 n3,int .i64 n4,int .i64 n5,int .i64 n6,int .i64 n7]] fun k1 r0=>Gt 12 r0 fun cs16=>
 Cl k1 159 #[agg #[int .i64 n8,int .i64 n9,int .i64 n10,int .i64 n11,int .i64 n12,int .i64 n13,int .i64 n14,int .i64 n15]] fun k3 r2=>Gt 12 r2 fun cs17=>
 Rt R k3 (agg (cs16.toList++(cs17.toList++([]))).toArray)) :
  CallsG Tryz.prog 71 #[agg #[int .i64 n0,int .i64 n1,int .i64 n2,int .i64 n3,int .i64 n4,int .i64 n5,int .i64 n6,int .i64 n7,int .i64 n8,int .i64 n9,int .i64 n10,int .i64 n11,int .i64 n12,int .i64 n13,int .i64 n14,int .i64 n15]] k R:=
  qY { opq:=[44] } h
end Go.Proofs.YtifcjpacobpdmaaGreat

namespace Go.Proofs.YtifcjpacobpdmaaGreat
open Go.RowKit
open Value (agg slice int bool tuple)
open Sy (Up Sees CallsG Seg execFn_use)
set_option maxRecDepth 100000
variable {k:World}{R:World→Value→Prop}{n0 n1:Int}
theorem bAv 
 (h:Br ((n1:Int) == 0) (Cl k 60 #[int .i64 n0] fun k1 r0=>Gt 3 r0 fun cs2=>
 Rt R k1 (agg cs2)) (Cl k 186 #[int .i64 n0,int .i64 n1] fun k4 r3=>∃cs2,Seg 3 cs2∧∃n3,some (tuple #[agg cs2,int .i64 n3])=some r3∧
 Rt R k4 (agg cs2))) :
  CallsG Tryz.prog 110 #[agg #[int .i64 n0,int .i64 n1]] k R:=
  qY { opq:=[88] } h
end Go.Proofs.YtifcjpacobpdmaaGreat

namespace Go.Proofs.YtifcjpacobpdmaaGreat
open Go.RowKit Num W32
open Sy (Up Sees CallsG)
section
variable {k k':World}{R:World→Value→Prop}{x y q:Rat}{K L:Nat}{cs cs':Array Value}{g:Bool}{A A':Option Addr}{l c l' c':Nat}
theorem aSu {n d:Int}(hn:In64 n) (hd:In64 d) (C:∀k' ds,Up k k'→RatV k' ds (ofQ n d) 1→R k' (.agg ds)):Cl k 110 #[.agg #[.int .i64 n,.int .i64 d]] R:=by
 intro k0 u0;refine bAv ⟨fun hb=>?_,fun hb=>?_⟩
 ·have e:d=0:=eq_of_beq hb;refine sB hn.1 hn.2 ?_;intro k1 c1 u1 h1;refine⟨c1,h1.seg,rfl,?_⟩;intro k2 u2;refine C k2 c1 (u0.trans (u1.trans u2)) ?_;unfold ofQ;rw [og e];exact h1.up u2
 ·have e:¬ d=0:=by simpa using hb
  refine aMf hn.1 hn.2 hd.1 hd.2 ?_;intro k1 c1 u1 h1;refine⟨c1,h1.seg,_,rfl,?_⟩;intro k2 u2;refine C k2 c1 (u0.trans (u1.trans u2)) ?_;unfold ofQ;rw [oh e];exact h1.up u2
end
open IntKind (wrap)
open Value (agg slice int bool tuple)
open Sy (Up Sees CallsG Seg execFn_use)
set_option maxRecDepth 100000
variable {k:World}{R:World→Value→Prop}{A0 A1 A2 A4 A5:Option Addr}{c0 c1 c2 c4 c5 l0 l1 l2 l4 l5:Nat}{n0 n1 n2 n3 n4 n5:Int}{b0 b3:Bool}
theorem aSr 
 (h:Tt∧(Br (((l0:Nat):Int) == 0) (Rt R k (int .i64 0)) (Tt∧(Tt∧(Ad A0∧((0:Int)≤(wrap .i64 ((l0:Nat)-1))∧((wrap .i64 ((l0:Nat)-1)):Int)<(l0:Nat))∧
 ∃n1,Sy.ReadAt k.cell? A0 (Int.toNat (wrap .i64 ((l0:Nat)-1))*1+0) 1 (int .u64 n1)∧
 Cl k 297 #[int .u64 n1] fun k2 r1=>Gi r1 fun n2=>
 Rt R k2 (int .i64 (wrap .i64 ((wrap .i64 (64*(wrap .i64 ((l0:Nat)-1))))+n2)))))))) :
  CallsG Tryz.prog 229 #[slice A0 l0 c0] k R:=
  qY { opq:=[] } h
theorem aUi {n0:Nat}
 (h:Rt R k (Value.float .f64 (Int.toNat (wrap .u64 (BitVec.toNat (BitVec.ofInt (IntKind.bits .u64) ((n0:Nat):Int) &&& ~~~(BitVec.ofInt (IntKind.bits .u64) 9223372036854775808))))))) :
 CallsG Tryz.prog 215 #[Value.float .f64 n0] k R:=
 qX { opq:=[] } [.one (.var 0)] [Value.float .f64 n0] [.flt .f64] ⟨⟨_,rfl⟩,trivial⟩ h
theorem aIx {n0:Nat} 
 (h:Br ((n1:Int) == 0) (Cl k 215 #[Value.float .f64 n0] fun k1 r0=>∃n2:Nat,some (Value.float .f64 n2)=some r0∧
 Rt R k1 (bool (Ieee.Format.order (FloatKind.format .f64) n2 9218868437227405311 == some Ordering.gt))) (Br (decide ((n1:Int)<0)) (Rt R k (bool (Ieee.Format.order (FloatKind.format .f64) (Op.negFloat .f64 n0) 9218868437227405311 == some Ordering.gt))) (Rt R k (bool (Ieee.Format.order (FloatKind.format .f64) n0 9218868437227405311 == some Ordering.gt))))) :
  CallsG Tryz.prog 127 #[Value.float .f64 n0,int .i64 n1] k R:=
  qX { opq:=[] } [.one (.var 0),.one (.var 1)] [Value.float .f64 n0,int .i64 n1] [.flt .f64,.int .i64] ⟨⟨_,rfl⟩,⟨_,rfl⟩,trivial⟩ h
theorem aIy {n0:Nat}
 (h:Rt R k (bool (Ieee.Format.order (FloatKind.format .f64) n0 n0 != some Ordering.eq))) :
 CallsG Tryz.prog 128 #[Value.float .f64 n0] k R:=
 qX { opq:=[] } [.one (.var 0)] [Value.float .f64 n0] [.flt .f64] ⟨⟨_,rfl⟩,trivial⟩ h
theorem xL 
 (h:Br (decide ((n0:Int) ≥ 0)) (Rt R k (Value.float .f64 9218868437227405312)) (Rt R k (Value.float .f64 18442240474082181120))) :
 CallsG Tryz.prog 233 #[int .i64 n0] k R:=
 qY { opq:=[] } h
theorem aNj {n0:Nat}
 (h:Cl k 215 #[Value.float .f64 n0] fun k1 r0=>∃n1:Nat,some (Value.float .f64 n1)=some r0∧
 Br (Ieee.Format.order (FloatKind.format .f64) n1 4503599627370496 == some Ordering.lt) ((Sy.fltR .f64 .mul n0 4841369599423283200).isSome=true∧
 (Rt R k1 (tuple #[Value.float .f64 ((Sy.fltR .f64 .mul n0 4841369599423283200).getD 0),int .i64 (-52)]))) (Rt R k1 (tuple #[Value.float .f64 n0,int .i64 0]))) :
   CallsG Tryz.prog 328 #[Value.float .f64 n0] k R:=
  qX { opq:=[] } [.one (.var 0)] [Value.float .f64 n0] [.flt .f64] ⟨⟨_,rfl⟩,trivial⟩ h
theorem aUk {n0:Nat} 
 (h:Br (Ieee.Format.order (FloatKind.format .f64) n0 0 == some Ordering.eq) (Rt R k (Value.float .f64 n0)) (Cl k 127 #[Value.float .f64 n0,int .i64 0] fun k2 r1=>Gb r1 fun b2=>
 Br b2 (Rt R k2 (Value.float .f64 n0)) (Cl k2 128 #[Value.float .f64 n0] fun k5 r4=>Gb r4 fun b3=>
 Br b3 (Rt R k5 (Value.float .f64 n0)) (Cl k5 328 #[Value.float .f64 n0] fun k8 r7=>∃n4:Nat,∃n5,some (tuple #[Value.float .f64 n4,int .i64 n5])=some r7∧
 Br (decide (((wrap .i64 ((wrap .i64 (n1+n5))+(wrap .i64 ((wrap .i64 (BitVec.toNat (BitVec.ofInt (IntKind.bits .i64) (wrap .i64 (Int.fdiv ((n4:Nat):Int) (2^(min (Int.toNat 52) (IntKind.bits .u64))))) &&& BitVec.ofInt (IntKind.bits .i64) 2047)))-1023)))):Int)<(-1075))) (Cl k8 329 #[Value.float .f64 0,Value.float .f64 n4] fun k10 r9=>∃n6:Nat,some (Value.float .f64 n6)=some r9∧
 Rt R k10 (Value.float .f64 n6)) (Br (decide (((wrap .i64 ((wrap .i64 (n1+n5))+(wrap .i64 ((wrap .i64 (BitVec.toNat (BitVec.ofInt (IntKind.bits .i64) (wrap .i64 (Int.fdiv ((n4:Nat):Int) (2^(min (Int.toNat 52) (IntKind.bits .u64))))) &&& BitVec.ofInt (IntKind.bits .i64) 2047)))-1023)))):Int) > 1023)) (Br (Ieee.Format.order (FloatKind.format .f64) n4 0 == some Ordering.lt) (Cl k8 233 #[int .i64 (-1)] fun k13 r12=>∃n6:Nat,some (Value.float .f64 n6)=some r12∧
 Rt R k13 (Value.float .f64 n6)) (Cl k8 233 #[int .i64 1] fun k16 r15=>∃n6:Nat,some (Value.float .f64 n6)=some r15∧
 Rt R k16 (Value.float .f64 n6))) (Br (decide (((wrap .i64 ((wrap .i64 (n1+n5))+(wrap .i64 ((wrap .i64 (BitVec.toNat (BitVec.ofInt (IntKind.bits .i64) (wrap .i64 (Int.fdiv ((n4:Nat):Int) (2^(min (Int.toNat 52) (IntKind.bits .u64))))) &&& BitVec.ofInt (IntKind.bits .i64) 2047)))-1023)))):Int)<(-1022))) ((Sy.fltR .f64 .mul 4368491638549381120 (Int.toNat (wrap .u64 (BitVec.toNat (BitVec.ofInt (IntKind.bits .u64) (wrap .u64 (BitVec.toNat (BitVec.ofInt (IntKind.bits .u64) ((n4:Nat):Int) &&& ~~~(BitVec.ofInt (IntKind.bits .u64) 9218868437227405312)))) ||| BitVec.ofInt (IntKind.bits .u64) (wrap .u64 ((wrap .u64 (wrap .i64 ((wrap .i64 ((wrap .i64 ((wrap .i64 (n1+n5))+(wrap .i64 ((wrap .i64 (BitVec.toNat (BitVec.ofInt (IntKind.bits .i64) (wrap .i64 (Int.fdiv ((n4:Nat):Int) (2^(min (Int.toNat 52) (IntKind.bits .u64))))) &&& BitVec.ofInt (IntKind.bits .i64) 2047)))-1023))))+53))+1023)))*2^(min (Int.toNat 52) (IntKind.bits .u64))))))))).isSome=true∧
 (Rt R k8 (Value.float .f64 ((Sy.fltR .f64 .mul 4368491638549381120 (Int.toNat (wrap .u64 (BitVec.toNat (BitVec.ofInt (IntKind.bits .u64) (wrap .u64 (BitVec.toNat (BitVec.ofInt (IntKind.bits .u64) ((n4:Nat):Int) &&& ~~~(BitVec.ofInt (IntKind.bits .u64) 9218868437227405312)))) ||| BitVec.ofInt (IntKind.bits .u64) (wrap .u64 ((wrap .u64 (wrap .i64 ((wrap .i64 ((wrap .i64 ((wrap .i64 (n1+n5))+(wrap .i64 ((wrap .i64 (BitVec.toNat (BitVec.ofInt (IntKind.bits .i64) (wrap .i64 (Int.fdiv ((n4:Nat):Int) (2^(min (Int.toNat 52) (IntKind.bits .u64))))) &&& BitVec.ofInt (IntKind.bits .i64) 2047)))-1023))))+53))+1023)))*2^(min (Int.toNat 52) (IntKind.bits .u64))))))))).getD 0)))) ((Sy.fltR .f64 .mul 4607182418800017408 (Int.toNat (wrap .u64 (BitVec.toNat (BitVec.ofInt (IntKind.bits .u64) (wrap .u64 (BitVec.toNat (BitVec.ofInt (IntKind.bits .u64) ((n4:Nat):Int) &&& ~~~(BitVec.ofInt (IntKind.bits .u64) 9218868437227405312)))) ||| BitVec.ofInt (IntKind.bits .u64) (wrap .u64 ((wrap .u64 (wrap .i64 ((wrap .i64 ((wrap .i64 (n1+n5))+(wrap .i64 ((wrap .i64 (BitVec.toNat (BitVec.ofInt (IntKind.bits .i64) (wrap .i64 (Int.fdiv ((n4:Nat):Int) (2^(min (Int.toNat 52) (IntKind.bits .u64))))) &&& BitVec.ofInt (IntKind.bits .i64) 2047)))-1023))))+1023)))*2^(min (Int.toNat 52) (IntKind.bits .u64))))))))).isSome=true∧
 (Rt R k8 (Value.float .f64 ((Sy.fltR .f64 .mul 4607182418800017408 (Int.toNat (wrap .u64 (BitVec.toNat (BitVec.ofInt (IntKind.bits .u64) (wrap .u64 (BitVec.toNat (BitVec.ofInt (IntKind.bits .u64) ((n4:Nat):Int) &&& ~~~(BitVec.ofInt (IntKind.bits .u64) 9218868437227405312)))) ||| BitVec.ofInt (IntKind.bits .u64) (wrap .u64 ((wrap .u64 (wrap .i64 ((wrap .i64 ((wrap .i64 (n1+n5))+(wrap .i64 ((wrap .i64 (BitVec.toNat (BitVec.ofInt (IntKind.bits .i64) (wrap .i64 (Int.fdiv ((n4:Nat):Int) (2^(min (Int.toNat 52) (IntKind.bits .u64))))) &&& BitVec.ofInt (IntKind.bits .i64) 2047)))-1023))))+1023)))*2^(min (Int.toNat 52) (IntKind.bits .u64))))))))).getD 0)))))))))) :
   CallsG Tryz.prog 300 #[Value.float .f64 n0,int .i64 n1] k R:=
  qX { opq:=[] } [.one (.var 0),.one (.var 1)] [Value.float .f64 n0,int .i64 n1] [.flt .f64,.int .i64] ⟨⟨_,rfl⟩,⟨_,rfl⟩,trivial⟩ h
theorem aUh {n0:Nat} 
 (h:Cl k 300 #[Value.float .f64 n0,int .i64 n1] fun k1 r0=>∃n2:Nat,some (Value.float .f64 n2)=some r0∧
 Rt R k1 (Value.float .f64 n2)) :
  CallsG Tryz.prog 234 #[Value.float .f64 n0,int .i64 n1] k R:=
  qX { opq:=[] } [.one (.var 0),.one (.var 1)] [Value.float .f64 n0,int .i64 n1] [.flt .f64,.int .i64] ⟨⟨_,rfl⟩,⟨_,rfl⟩,trivial⟩ h
theorem aXg {n3:Nat}
 (h:Br b0 (Rt R k (Value.float .f64 (Op.negFloat .f64 n3))) (Rt R k (Value.float .f64 n3))) :
 CallsG Tryz.prog 232 #[agg #[bool b0,slice A1 l1 c1,slice A2 l2 c2],Value.float .f64 n3] k R:=
 qX { opq:=[] } [.agg (qV 0 3),.one (.var 3)] [bool b0,slice A1 l1 c1,slice A2 l2 c2,Value.float .f64 n3] [.bool,.slice,.slice,.flt .f64] ⟨⟨_,rfl⟩,qS,qS,⟨_,rfl⟩,trivial⟩ h
theorem aXe 
 (h:Cl k 230 #[slice A1 l1 c1,int .i64 (if (decide ((n2:Int)<0))=true then 0 else n2)] fun k1 r0=>∃A3 l3 c3,some (slice A3 l3 c3)=some r0∧
 Cl k1 230 #[slice A0 l0 c0,int .i64 (if (decide (((wrap .i64 (0-n2)):Int)<0))=true then 0 else (wrap .i64 (0-n2)))] fun k3 r2=>∃A4 l4 c4,some (slice A4 l4 c4)=some r2∧
 Cl k3 195 #[slice A4 l4 c4,slice A3 l3 c3] fun k5 r4=>∃A5 l5 c5,∃A6 l6 c6,some (tuple #[slice A5 l5 c5,slice A6 l6 c6])=some r4∧
 Cl k5 230 #[slice A6 l6 c6,int .i64 1] fun k7 r6=>∃A7 l7 c7,some (slice A7 l7 c7)=some r6∧
 Cl k7 191 #[slice A7 l7 c7,slice A3 l3 c3] fun k9 r8=>Gi r8 fun n8=>
 Br (decide ((n8:Int) > 0)) (Cl k9 189 #[int .u64 1] fun k11 r10=>∃A9 l9 c9,some (slice A9 l9 c9)=some r10∧
 Cl k11 190 #[slice A5 l5 c5,slice A9 l9 c9] fun k13 r12=>∃A10 l10 c10,some (slice A10 l10 c10)=some r12∧
 Rt R k13 (slice A10 l10 c10)) (Br ((n8:Int) == 0) (Cl k9 298 #[slice A5 l5 c5,int .i64 0] fun k16 r15=>∃n9,some (int .u64 n9)=some r15∧
 Br ((n9:Int) == 1) (Cl k16 189 #[int .u64 1] fun k18 r17=>∃A10 l10 c10,some (slice A10 l10 c10)=some r17∧
 Cl k18 190 #[slice A5 l5 c5,slice A10 l10 c10] fun k20 r19=>∃A11 l11 c11,some (slice A11 l11 c11)=some r19∧
 Rt R k20 (slice A11 l11 c11)) (Rt R k16 (slice A5 l5 c5))) (Rt R k9 (slice A5 l5 c5)))) :
  CallsG Tryz.prog 231 #[slice A0 l0 c0,slice A1 l1 c1,int .i64 n2] k R:=
  qY { opq:=[] } h
theorem aSp 
 (h:Cl k 104 #[slice A5 l5 c5] fun k1 r0=>∃A6 l6 c6,some (slice A6 l6 c6)=some r0∧
 Tt∧(Br (((l4:Nat):Int) == 0) (Rt R k1 (Value.float .f64 0)) (Cl k1 229 #[slice A4 l4 c4] fun k4 r3=>Gi r3 fun n7=>
 Cl k4 229 #[slice A6 l6 c6] fun k6 r5=>Gi r5 fun n8=>
 Cl k6 230 #[slice A4 l4 c4,int .i64 (if (decide (((wrap .i64 (0-(if (decide (((wrap .i64 ((wrap .i64 (n7-n8))-n0)):Int)<n1))=true then n1 else (wrap .i64 ((wrap .i64 (n7-n8))-n0))))):Int)<0))=true then 0 else (wrap .i64 (0-(if (decide (((wrap .i64 ((wrap .i64 (n7-n8))-n0)):Int)<n1))=true then n1 else (wrap .i64 ((wrap .i64 (n7-n8))-n0))))))] fun k8 r7=>∃A9 l9 c9,some (slice A9 l9 c9)=some r7∧
 Cl k8 230 #[slice A6 l6 c6,int .i64 (if (decide (((if (decide (((wrap .i64 ((wrap .i64 (n7-n8))-n0)):Int)<n1))=true then n1 else (wrap .i64 ((wrap .i64 (n7-n8))-n0))):Int)<0))=true then 0 else (if (decide (((wrap .i64 ((wrap .i64 (n7-n8))-n0)):Int)<n1))=true then n1 else (wrap .i64 ((wrap .i64 (n7-n8))-n0))))] fun k10 r9=>∃A10 l10 c10,some (slice A10 l10 c10)=some r9∧
 Cl k10 195 #[slice A9 l9 c9,slice A10 l10 c10] fun k12 r11=>∃A11 l11 c11,∃A12 l12 c12,some (tuple #[slice A11 l11 c11,slice A12 l12 c12])=some r11∧
 Cl k12 229 #[slice A11 l11 c11] fun k14 r13=>Gi r13 fun n13=>
 Br (decide ((n13:Int) > n0)) (Cl k14 231 #[slice A4 l4 c4,slice A6 l6 c6,int .i64 (wrap .i64 ((if (decide (((wrap .i64 ((wrap .i64 (n7-n8))-n0)):Int)<n1))=true then n1 else (wrap .i64 ((wrap .i64 (n7-n8))-n0)))+1))] fun k16 r15=>∃A14 l14 c14,some (slice A14 l14 c14)=some r15∧
 Cl k16 229 #[slice A14 l14 c14] fun k18 r17=>Gi r17 fun n15=>
 Br (decide (((wrap .i64 (n15+(wrap .i64 ((if (decide (((wrap .i64 ((wrap .i64 (n7-n8))-n0)):Int)<n1))=true then n1 else (wrap .i64 ((wrap .i64 (n7-n8))-n0)))+1)))):Int) > n2)) (Cl k18 233 #[int .i64 1] fun k20 r19=>∃n16:Nat,some (Value.float .f64 n16)=some r19∧
 Cl k20 232 #[agg #[bool b3,slice A4 l4 c4,slice A5 l5 c5],Value.float .f64 n16] fun k22 r21=>∃n17:Nat,some (Value.float .f64 n17)=some r21∧
 Rt R k22 (Value.float .f64 n17)) (Tt∧(Br (((l14:Nat):Int) == 0) (Rt R k18 (Value.float .f64 0)) (Ad A14∧((0:Int)≤0∧(0:Int)<(l14:Nat))∧
 ∃n16,Sy.ReadAt k18.cell? A14 (Int.toNat 0*1+0) 1 (int .u64 n16)∧
 Cl k18 234 #[Value.float .f64 (FloatKind.nearest .f64 n16),int .i64 (wrap .i64 ((if (decide (((wrap .i64 ((wrap .i64 (n7-n8))-n0)):Int)<n1))=true then n1 else (wrap .i64 ((wrap .i64 (n7-n8))-n0)))+1))] fun k26 r25=>∃n17:Nat,some (Value.float .f64 n17)=some r25∧
 Cl k26 232 #[agg #[bool b3,slice A4 l4 c4,slice A5 l5 c5],Value.float .f64 n17] fun k28 r27=>∃n18:Nat,some (Value.float .f64 n18)=some r27∧
 Rt R k28 (Value.float .f64 n18))))) (Cl k14 231 #[slice A4 l4 c4,slice A6 l6 c6,int .i64 (if (decide (((wrap .i64 ((wrap .i64 (n7-n8))-n0)):Int)<n1))=true then n1 else (wrap .i64 ((wrap .i64 (n7-n8))-n0)))] fun k31 r30=>∃A14 l14 c14,some (slice A14 l14 c14)=some r30∧
 Cl k31 229 #[slice A14 l14 c14] fun k33 r32=>Gi r32 fun n15=>
 Br (decide (((wrap .i64 (n15+(if (decide (((wrap .i64 ((wrap .i64 (n7-n8))-n0)):Int)<n1))=true then n1 else (wrap .i64 ((wrap .i64 (n7-n8))-n0))))):Int) > n2)) (Cl k33 233 #[int .i64 1] fun k35 r34=>∃n16:Nat,some (Value.float .f64 n16)=some r34∧
 Cl k35 232 #[agg #[bool b3,slice A4 l4 c4,slice A5 l5 c5],Value.float .f64 n16] fun k37 r36=>∃n17:Nat,some (Value.float .f64 n17)=some r36∧
 Rt R k37 (Value.float .f64 n17)) (Tt∧(Br (((l14:Nat):Int) == 0) (Rt R k33 (Value.float .f64 0)) (Ad A14∧((0:Int)≤0∧(0:Int)<(l14:Nat))∧
 ∃n16,Sy.ReadAt k33.cell? A14 (Int.toNat 0*1+0) 1 (int .u64 n16)∧
 Cl k33 234 #[Value.float .f64 (FloatKind.nearest .f64 n16),int .i64 (if (decide (((wrap .i64 ((wrap .i64 (n7-n8))-n0)):Int)<n1))=true then n1 else (wrap .i64 ((wrap .i64 (n7-n8))-n0)))] fun k41 r40=>∃n17:Nat,some (Value.float .f64 n17)=some r40∧
 Cl k41 232 #[agg #[bool b3,slice A4 l4 c4,slice A5 l5 c5],Value.float .f64 n17] fun k43 r42=>∃n18:Nat,some (Value.float .f64 n18)=some r42∧
 Rt R k43 (Value.float .f64 n18)))))))) :
  CallsG Tryz.prog 145 #[agg #[int .i64 n0,int .i64 n1,int .i64 n2],agg #[bool b3,slice A4 l4 c4,slice A5 l5 c5]] k R:=
  qY { opq:=[] } h
theorem aSo
 (h:Rt R k (agg #[int .i64 53,int .i64 (-1074),int .i64 1024])) :
 CallsG Tryz.prog 249 #[] k R:=
 qX { opq:=[] } [] [] [] trivial h
theorem xA
 (h:Rt R k (agg #[int .i64 24,int .i64 (-149),int .i64 128])) :
 CallsG Tryz.prog 144 #[] k R:=
 qX { opq:=[] } [] [] [] trivial h
theorem aWg 
 (h:∃I0:Nat→World→List Value→Prop,(∃m0,∀k0,Up k k0→I0 m0 k0 [Value.float .f64 4607182418800017408,int .i64 n0])∧
 ∀m0 k0 vs0,Up k k0→I0 m0 k0 vs0→∃n1:Nat,∃n2,some [Value.float .f64 n1,int .i64 n2]=some vs0∧
 Br (decide ((n2:Int)<0)) ((Sy.fltR .f64 .quo n1 4611686018427387904).isSome=true∧
 (∀k1,Up k0 k1→∃m,m<m0∧I0 m k1 [Value.float .f64 ((Sy.fltR .f64 .quo n1 4611686018427387904).getD 0),int .i64 (wrap .i64 (n2+1))])) (Rt R k0 (Value.float .f64 n1))) :
   CallsG Tryz.prog 256 #[int .i64 n0] k R:=
  qY { opq:=[],loops:=[(0,[.tmp 3 false [.flt .f64],.tmp 0 false [.int .i64]])] } h
theorem aIz 
 (h:Br (decide ((n0:Int)<0)) (∀p1 k0,Up k k0→Sy.Blk k0 p1 64 #[int .u32 1]→
 Cl k0 227 #[slice (some ⟨p1,0,none⟩) 1 1,int .i64 (wrap .i64 (0-n0))] fun k2 r1=>∃A2 l2 c2,some (slice A2 l2 c2)=some r1∧
 ∀p3 k3,Up k2 k3→Sy.Blk k3 p3 64 #[int .u32 1]→
 Cl k3 173 #[bool false,slice (some ⟨p3,0,none⟩) 1 1,slice A2 l2 c2] fun k5 r4=>Gt 3 r4 fun cs4=>
 Rt R k5 (agg cs4)) (Cl k 294 #[int .i64 n0] fun k8 r7=>Gt 3 r7 fun cs1=>
 Rt R k8 (agg cs1))) :
  CallsG Tryz.prog 253 #[int .i64 n0] k R:=
  qY { opq:=[42] } h
abbrev nrT (R:World→Value→Prop) (gE0:Int) (n100:Int) (k102:World) (gS0:Nat) (n108:Int) (n109:Int) (b120:Bool) (A121:Option Addr) (l122:Nat) (c123:Nat) (A124:Option Addr) (l125:Nat) (c126:Nat):Prop:=
 Br (decide ((gE0:Int) > n100)) (Cl k102 233 #[int .i64 1] fun k103 r104=>∃n105:Nat,some (Value.float .f64 n105)=some r104∧
 (Sy.fltR .f64 .mul gS0 n105).isSome=true∧
 (Rt R k103 (Value.float .f64 ((Sy.fltR .f64 .mul gS0 n105).getD 0)))) (Cl k102 253 #[int .i64 (if (decide (((wrap .i64 ((wrap .i64 (gE0-n108))+1)):Int)<n109))=true then n109 else (wrap .i64 ((wrap .i64 (gE0-n108))+1)))] fun k110 r111=>∃b112,∃A113 l114 c115,∃A116 l117 c118,some (agg #[bool b112,slice A113 l114 c115,slice A116 l117 c118])=some r111∧
 Cl k110 254 #[agg #[bool b120,slice A121 l122 c123,slice A124 l125 c126],agg #[bool b112,slice A113 l114 c115,slice A116 l117 c118]] fun k127 r128=>∃b129,∃A130 l131 c132,∃A133 l134 c135,∃n136,some (tuple #[agg #[bool b129,slice A130 l131 c132,slice A133 l134 c135],int .i64 n136])=some r128∧
 Cl k127 253 #[int .i64 (if (decide (((wrap .i64 ((wrap .i64 (gE0-n108))+1)):Int)<n109))=true then n109 else (wrap .i64 ((wrap .i64 (gE0-n108))+1)))] fun k138 r139=>∃b140,∃A141 l142 c143,∃A144 l145 c146,some (agg #[bool b140,slice A141 l142 c143,slice A144 l145 c146])=some r139∧
 Cl k138 91 #[agg #[bool b129,slice A130 l131 c132,slice A133 l134 c135],agg #[bool b140,slice A141 l142 c143,slice A144 l145 c146]] fun k148 r149=>∃b150,∃A151 l152 c153,∃A154 l155 c156,some (agg #[bool b150,slice A151 l152 c153,slice A154 l155 c156])=some r149∧
 Cl k148 255 #[agg #[bool b150,slice A151 l152 c153,slice A154 l155 c156]] fun k158 r159=>∃n160,∃b161,some (tuple #[int .i64 n160,bool b161])=some r159∧
 Br ((n160:Int) == 0) (Rt R k158 (Value.float .f64 0)) (∃J163:World→List Value→Prop,((decide ((0:Int)≤(wrap .u64 n108)))=true∧
 (Br ((n160:Int) == (wrap .i64 (1*2^(min (Int.toNat (wrap .u64 n108)) (IntKind.bits .i64))))) (∀k164,Up k158 k164→J163 k164 [bool (((if (decide (((wrap .i64 ((wrap .i64 (gE0-n108))+1)):Int)<n109))=true then n109 else (wrap .i64 ((wrap .i64 (gE0-n108))+1))):Int) == (wrap .i64 ((wrap .i64 (n100-n108))+1)))]) (∀k165,Up k158 k165→J163 k165 [bool false])))∧
 ∀k166 vs167,Up k158 k166→J163 k166 vs167→∃b168,some [bool b168]=some vs167∧
 Br b168 (Cl k166 233 #[int .i64 1] fun k170 r171=>∃n172:Nat,some (Value.float .f64 n172)=some r171∧
 (Sy.fltR .f64 .mul gS0 n172).isSome=true∧
 (Rt R k170 (Value.float .f64 ((Sy.fltR .f64 .mul gS0 n172).getD 0)))) (∃I174:Nat→World→List Value→Prop,(∃m175,∀k176,Up k166 k176→I174 m175 k176 [Value.float .f64 (FloatKind.nearest .f64 n160),int .i64 (if (decide (((wrap .i64 ((wrap .i64 (gE0-n108))+1)):Int)<n109))=true then n109 else (wrap .i64 ((wrap .i64 (gE0-n108))+1)))])∧
 ∀m175 k176 vs177,Up k166 k176→I174 m175 k176 vs177→∃n172:Nat,∃n178,some [Value.float .f64 n172,int .i64 n178]=some vs177∧
 Br (decide ((n178:Int) > 0)) ((Sy.fltR .f64 .mul n172 4611686018427387904).isSome=true∧
 (∀k179,Up k176 k179→∃m,m<m175∧I174 m k179 [Value.float .f64 ((Sy.fltR .f64 .mul n172 4611686018427387904).getD 0),int .i64 (wrap .i64 (n178-1))])) (Br (decide ((n178:Int)<(-1000))) ((Sy.fltR .f64 .mul gS0 n172).isSome=true∧
 ((Sy.fltR .f64 .mul ((Sy.fltR .f64 .mul gS0 n172).getD 0) 103582791429521408).isSome=true∧
 (Cl k176 256 #[int .i64 (wrap .i64 (n178+1000))] fun k181 r182=>∃n183:Nat,some (Value.float .f64 n183)=some r182∧
 (Sy.fltR .f64 .mul ((Sy.fltR .f64 .mul ((Sy.fltR .f64 .mul gS0 n172).getD 0) 103582791429521408).getD 0) n183).isSome=true∧
 (Rt R k181 (Value.float .f64 ((Sy.fltR .f64 .mul ((Sy.fltR .f64 .mul ((Sy.fltR .f64 .mul gS0 n172).getD 0) 103582791429521408).getD 0) n183).getD 0)))))) ((Sy.fltR .f64 .mul gS0 n172).isSome=true∧
 (Cl k176 256 #[int .i64 n178] fun k186 r187=>∃n183:Nat,some (Value.float .f64 n183)=some r187∧
 (Sy.fltR .f64 .mul ((Sy.fltR .f64 .mul gS0 n172).getD 0) n183).isSome=true∧
 (Rt R k186 (Value.float .f64 ((Sy.fltR .f64 .mul ((Sy.fltR .f64 .mul gS0 n172).getD 0) n183).getD 0)))))))))
theorem aQj 
 (h:Cl k 162 #[agg #[bool b0,slice A1 l1 c1,slice A2 l2 c2]] fun k1 r0=>Gb r0 fun b6=>
 Br b6 (Rt R k1 (Value.float .f64 0)) (Cl k1 175 #[agg #[bool b0,slice A1 l1 c1,slice A2 l2 c2]] fun k4 r3=>∃A7 l7 c7,some (slice A7 l7 c7)=some r3∧
 Cl k4 173 #[bool false,slice A1 l1 c1,slice A7 l7 c7] fun k6 r5=>∃b8,∃A9 l9 c9,∃A10 l10 c10,some (agg #[bool b8,slice A9 l9 c9,slice A10 l10 c10])=some r5∧
 Cl k6 252 #[slice A9 l9 c9] fun k8 r7=>Gi r7 fun n11=>
 Cl k8 252 #[slice A10 l10 c10] fun k10 r9=>Gi r9 fun n12=>
 Cl k10 253 #[int .i64 (wrap .i64 (n11-n12))] fun k12 r11=>∃b13,∃A14 l14 c14,∃A15 l15 c15,some (agg #[bool b13,slice A14 l14 c14,slice A15 l15 c15])=some r11∧
 Cl k12 93 #[agg #[bool b8,slice A9 l9 c9,slice A10 l10 c10],agg #[bool b13,slice A14 l14 c14,slice A15 l15 c15]] fun k14 r13=>Gi r13 fun n16=>
 Br (decide ((n16:Int)<0)) (Br b0 (nrT R ((wrap .i64 ((wrap .i64 (n11-n12))-1))) n5 k14 13830554455654793216 n3 n4 b8 A9 l9 c9 A10 l10 c10) (nrT R ((wrap .i64 ((wrap .i64 (n11-n12))-1))) n5 k14 4607182418800017408 n3 n4 b8 A9 l9 c9 A10 l10 c10)) (Br b0 (nrT R ((wrap .i64 (n11-n12))) n5 k14 13830554455654793216 n3 n4 b8 A9 l9 c9 A10 l10 c10) (nrT R ((wrap .i64 (n11-n12))) n5 k14 4607182418800017408 n3 n4 b8 A9 l9 c9 A10 l10 c10)))) :
  CallsG Tryz.prog 163 #[agg #[bool b0,slice A1 l1 c1,slice A2 l2 c2],int .i64 n3,int .i64 n4,int .i64 n5] k R:=
  qY { opq:=[],loops:=[(0,[.tmp 17 false [.flt .f64],.tmp 12 false [.int .i64]])],joins:=[(17,[.tmp 82 false [.bool]])] } h
end Go.Proofs.YtifcjpacobpdmaaGreat

namespace Go.Proofs.YtifcjpacobpdmaaGreat
open Num
def flr (q:Rat):Int:=q.num/(q.den:Int)
theorem aNi (n:Int) {d:Nat}(hd:0<d):flr (mkRat n d)=n/(d:Int):=by
 unfold flr;rw [Rat.num_mkRat,oh oq,Rat.den_mkRat,oh oq];have hg:0<Nat.gcd d n.natAbs:=xe _ hd;have d1:((Nat.gcd d n.natAbs:Nat):Int) ∣ n:=Int.dvd_natAbs.1 (Int.natCast_dvd_natCast.2 (wy _ _));have d2:Nat.gcd d n.natAbs ∣ d:=ka _ _;generalize Nat.gcd d n.natAbs=g at hg d1 d2;obtain⟨a,rfl⟩:=d1;obtain⟨b,rfl⟩:=d2;rw [Int.mul_ediv_cancel_left _ oq,yl _ hg,zi,Int.mul_ediv_mul_of_pos _ _ oq]
def bCl (q:Rat) (k:Nat):Rat:=mkRat (q.num*((2^k:Nat):Int) / (q.den:Int)) (2^k)
def bCj (n:Int):Nat:=(min 1000 (max 0 n)).toNat
theorem pX (z:Int) {d:Nat}(hd:0<d) (h:0≤z∨z.natAbs % d=0):sgn (decide (z<0)) (z.natAbs/d)=z/(d:Int):=by
 have hn:=qi z.natAbs d;have hr:=qf z.natAbs hd;have hm:(d:Int)*((z.natAbs/d:Nat):Int)+((z.natAbs % d:Nat):Int)=(z.natAbs:Int):=by rw [←zi,←xg,hn]
 generalize z.natAbs/d=q at hm;generalize z.natAbs % d=r at hm hr h
 by_cases hz:z<0
 ·have hr0:r=0:=oq
  subst hr0;refine Eq.symm ((Int.ediv_emod_unique (r:=0) oq).2 ⟨?_,oq,oq⟩).1;unfold sgn;rw [og (decide_eq_true hz),Int.mul_neg];omega
 ·refine Eq.symm ((Int.ediv_emod_unique (r:=(r:Int)) oq).2 ⟨?_,oq,oq⟩).1;unfold sgn;rw [oh (by simp [hz])];omega
theorem aAi (z:Int) {d:Nat}(hd:0<d) (hz:z<0) (h:z.natAbs % d≠0):sgn true (z.natAbs/d+1)=z/(d:Int):=by
 have hn:=qi z.natAbs d;have hr:=qf z.natAbs hd;have hm:(d:Int)*((z.natAbs/d:Nat):Int)+((z.natAbs % d:Nat):Int)=(z.natAbs:Int):=by rw [←zi,←xg,hn]
 generalize z.natAbs/d=q at hm;generalize z.natAbs % d=r at hm hr h;refine Eq.symm ((Int.ediv_emod_unique (r:=(d:Int)-r) oq).2 ⟨?_,oq,oq⟩).1;unfold sgn;rw [og rfl,xg,Int.mul_neg,Int.mul_add];omega
def rcmp (y:Rat):Int:=(y-(flr y:Rat)-mkRat 1 2).num.sign
def rup (y:Rat):Bool:=decide (0<rcmp y) || (decide (rcmp y=0) && decide (flr y % 2=1))
def aEx (x s:Rat):Rat:=(if rup (x/s)=true then (flr (x/s):Rat)+1 else (flr (x/s):Rat))*s
def pH (x s:Rat):Rat:=if s.num.sign≤0 then 0 else aEx x s
theorem rT {v:Rat}(h:v<0):v.num<0:=by
 refine Int.lt_of_not_ge fun h0=>?_;have:=kj.1 h0
 grind
theorem jN {v:Rat}(h:0<v):0<v.num:=by
 have h1:=kj.2 (show (0:Rat)≤v by grind);have h2:v.num≠0:=fun e=>by have:=xf.1 e;grind
 omega
theorem aCa (a:Rat):(2*a-1).num.sign=(a-mkRat 1 2).num.sign:=by
 have key:∀u v:Rat,u=2*v→u.num.sign=v.num.sign:=by
  intro u v h;rcases (show v<0∨v=0∨0<v from by grind) with hv|hv|hv
  ·have hu:u<0:=by grind
   rw [xu (rT hu),xu (rT hv)]
  ·subst hv;have hu:u=0:=by grind
   rw [hu]
  ·have hu:0<u:=by grind
   rw [vu (jN hu),vu (jN hv)]
 have e:mkRat 1 2=(1/2:Rat):=by decide +kernel
 exact key _ _ (by rw [e];grind)
theorem aBb (n:Int):((n:Rat) / 2=(flr ((n:Rat) / 2):Rat))↔n % 2=0:=by
 have e:(n:Rat) / 2=mkRat n 2:=by rw [ji];rfl
 rw [e,aNi _ oz];constructor
 ·intro h;have h2:=congrArg (fun q:Rat=>2*q) h;simp only [←e]at h2;have h3:((n:Int):Rat)=((2*(n/2):Int):Rat):=by
   rw [xm];have:(2:Rat)*((n:Rat) / 2)=n:=by grind
   rw [this]at h2;exact h2
  have:=Rat.intCast_inj.1 h3;omega
 ·intro h;have h1:n=2*(n/2):=oq
  have h3:((n:Int):Rat)=((2*(n/2):Int):Rat):=congrArg _ h1;rw [xm]at h3;rw [←e,h3];have:(((2:Int):Rat))=2:=rfl;rw [this]
  grind
def halved (x:Rat):Nat→Rat
 | 0=>x
 | j+1=>halved x j/2
open IntKind (wrap)
open Go.RowKit
open Value (agg slice int bool tuple)
open Sy (Up Sees CallsG Seg execFn_use)
set_option maxRecDepth 100000
variable {k:World}{R:World→Value→Prop}{A0 A1 A2:Option Addr}{c0 c1 c2 l0 l1 l2:Nat}{n0 n1:Int}{b0:Bool}{cs0 cs1:Array Value}
theorem aYw 
 (h:Br (decide ((n1:Int)<0)) (Rt R k (int .u64 0)) (Tt∧(Br (decide (((wrap .i64 (Int.tdiv n1 64)):Int) ≥ (l0:Nat))) (Rt R k (int .u64 0)) (Ad A0∧((0:Int)≤(wrap .i64 (Int.tdiv n1 64))∧((wrap .i64 (Int.tdiv n1 64)):Int)<(l0:Nat))∧
 ∃n2,Sy.ReadAt k.cell? A0 (Int.toNat (wrap .i64 (Int.tdiv n1 64))*1+0) 1 (int .u64 n2)∧
 (decide ((0:Int)≤(Int.tmod n1 64)))=true∧
 (Rt R k (int .u64 (wrap .u64 (BitVec.toNat (BitVec.ofInt (IntKind.bits .u64) (Int.fdiv n2 (2^(min (Int.toNat (Int.tmod n1 64)) (IntKind.bits .u64)))) &&& BitVec.ofInt (IntKind.bits .u64) 1))))))))) :
   CallsG Tryz.prog 298 #[slice A0 l0 c0,int .i64 n1] k R:=
  qY { opq:=[] } h
theorem aKx 
 (h:Cl k 175 #[agg #[bool b0,slice A1 l1 c1,slice A2 l2 c2]] fun k1 r0=>∃A3 l3 c3,some (slice A3 l3 c3)=some r0∧
 Cl k1 261 #[slice A1 l1 c1,slice A3 l3 c3] fun k3 r2=>∃A4 l4 c4,∃A5 l5 c5,some (tuple #[slice A4 l4 c4,slice A5 l5 c5])=some r2∧
 Br b0 (Tt∧(Br (decide (((l5:Nat):Int) > 0)) (∀p6 k4,Up k3 k4→Sy.Blk k4 p6 64 #[int .u32 1]→
 Cl k4 177 #[slice A4 l4 c4,slice (some ⟨p6,0,none⟩) 1 1] fun k6 r5=>∃A7 l7 c7,some (slice A7 l7 c7)=some r5∧
 ∀p8 k7,Up k6 k7→Sy.Blk k7 p8 64 #[int .u32 1]→
 Cl k7 173 #[bool b0,slice A7 l7 c7,slice (some ⟨p8,0,none⟩) 1 1] fun k9 r8=>∃b9,∃A10 l10 c10,∃A11 l11 c11,some (agg #[bool b9,slice A10 l10 c10,slice A11 l11 c11])=some r8∧
 Rt R k9 (agg #[bool b9,slice A10 l10 c10,slice A11 l11 c11])) (∀p6 k11,Up k3 k11→Sy.Blk k11 p6 64 #[int .u32 1]→
 Cl k11 173 #[bool b0,slice A4 l4 c4,slice (some ⟨p6,0,none⟩) 1 1] fun k13 r12=>∃b7,∃A8 l8 c8,∃A9 l9 c9,some (agg #[bool b7,slice A8 l8 c8,slice A9 l9 c9])=some r12∧
 Rt R k13 (agg #[bool b7,slice A8 l8 c8,slice A9 l9 c9])))) (∀p6 k15,Up k3 k15→Sy.Blk k15 p6 64 #[int .u32 1]→
 Cl k15 173 #[bool b0,slice A4 l4 c4,slice (some ⟨p6,0,none⟩) 1 1] fun k17 r16=>∃b7,∃A8 l8 c8,∃A9 l9 c9,some (agg #[bool b7,slice A8 l8 c8,slice A9 l9 c9])=some r16∧
 Rt R k17 (agg #[bool b7,slice A8 l8 c8,slice A9 l9 c9]))) :
  CallsG Tryz.prog 295 #[agg #[bool b0,slice A1 l1 c1,slice A2 l2 c2]] k R:=
  qY { opq:=[] } h
theorem aQr 
 (h:∀p1 k0,Up k k0→Sy.Blk k0 p1 64 #[int .u32 1]→
 Cl k0 227 #[slice (some ⟨p1,0,none⟩) 1 1,int .i64 n0] fun k2 r1=>∃A2 l2 c2,some (slice A2 l2 c2)=some r1∧
 ∀p3 k3,Up k2 k3→Sy.Blk k3 p3 64 #[int .u32 1]→
 Cl k3 173 #[bool false,slice A2 l2 c2,slice (some ⟨p3,0,none⟩) 1 1] fun k5 r4=>∃b4,∃A5 l5 c5,∃A6 l6 c6,some (agg #[bool b4,slice A5 l5 c5,slice A6 l6 c6])=some r4∧
 Rt R k5 (agg #[bool b4,slice A5 l5 c5,slice A6 l6 c6])) :
  CallsG Tryz.prog 294 #[int .i64 n0] k R:=
  qY { opq:=[] } h
theorem aKu (hcs0:Seg 3 cs0) (hcs1:Seg 3 cs1)
 (h:Cl k 182 #[agg cs1] fun k1 r0=>Gi r0 fun n2=>
 Br (decide ((n2:Int)≤0)) (Cl k1 89 #[int .i64 0] fun k3 r2=>Gt 3 r2 fun cs3=>
 Rt R k3 (tuple #[agg cs3,int .i64 1])) (Cl k1 91 #[agg cs0,agg cs1] fun k6 r5=>Gt 3 r5 fun cs3=>
 Cl k6 295 #[agg cs3] fun k8 r7=>Gt 3 r7 fun cs4=>
 Cl k8 89 #[int .i64 2] fun k10 r9=>Gt 3 r9 fun cs5=>
 Cl k10 92 #[agg cs3,agg cs4] fun k12 r11=>Gt 3 r11 fun cs6=>
 Cl k12 258 #[agg cs5,agg cs6] fun k14 r13=>Gt 3 r13 fun cs7=>
 Cl k14 89 #[int .i64 1] fun k16 r15=>Gt 3 r15 fun cs8=>
 Cl k16 93 #[agg cs7,agg cs8] fun k18 r17=>Gi r17 fun n9=>
 Cl k18 89 #[int .i64 2] fun k20 r19=>Gt 3 r19 fun cs10=>
 Cl k20 91 #[agg cs4,agg cs10] fun k22 r21=>Gt 3 r21 fun cs11=>
 Br (decide ((n9:Int) > 0)) (Cl k22 89 #[int .i64 1] fun k24 r23=>Gt 3 r23 fun cs12=>
 Cl k24 90 #[agg cs4,agg cs12] fun k26 r25=>Gt 3 r25 fun cs13=>
 Cl k26 258 #[agg cs13,agg cs1] fun k28 r27=>Gt 3 r27 fun cs14=>
 Rt R k28 (tuple #[agg cs14,int .i64 0])) (Br ((n9:Int) == 0) (Cl k22 295 #[agg cs11] fun k31 r30=>Gt 3 r30 fun cs12=>
 Cl k31 312 #[agg cs11,agg cs12] fun k33 r32=>Gb r32 fun b13=>
 Br (!b13) (Cl k33 89 #[int .i64 1] fun k35 r34=>Gt 3 r34 fun cs14=>
 Cl k35 90 #[agg cs4,agg cs14] fun k37 r36=>Gt 3 r36 fun cs15=>
 Cl k37 258 #[agg cs15,agg cs1] fun k39 r38=>Gt 3 r38 fun cs16=>
 Rt R k39 (tuple #[agg cs16,int .i64 0])) (Cl k33 258 #[agg cs4,agg cs1] fun k42 r41=>Gt 3 r41 fun cs14=>
 Rt R k42 (tuple #[agg cs14,int .i64 0]))) (Cl k22 258 #[agg cs4,agg cs1] fun k45 r44=>Gt 3 r44 fun cs12=>
 Rt R k45 (tuple #[agg cs12,int .i64 0]))))) :
  CallsG Tryz.prog 254 #[agg cs0,agg cs1] k R:=
  qX { opq:=[42] } [.agg [.seg 0 3],.agg [.seg 1 3]] [agg cs0,agg cs1] [.seg 3,.seg 3] ⟨⟨cs0,rfl,hcs0⟩,⟨cs1,rfl,hcs1⟩,trivial⟩ h
end Go.Proofs.YtifcjpacobpdmaaGreat

namespace Go.Proofs.YtifcjpacobpdmaaGreat
open IntKind (wrap)
open Go.RowKit Num
open Sy (Up Sees CallsG Seg)
section
variable {k k':World}{A A':Option Addr}{n n' c c' a b:Nat}{cs cs':Array Value}{bz:Bool}{R:World→Value→Prop}{x y q:Rat}{z:Int}{K L:Nat}
theorem iQ {s:Nat}(h:LimR k A n c a) (hn:n≤17179869184) (hs:s≤17179869184)
 (K:∀k' B j d,Up k k'→LimR k' B j d (a*2^s)→j≤n+s→R k' (.slice B j d)):Cl k 230 #[.slice A n c,.int .i64 (s:Int)] R:=
 after (fun _k0 u=>aDv fun _w hs'=>aZn ((h.up u).sees hs') hn hs) fun k' _v u ⟨B,j,d,e,h1,h2⟩=>e▸K k' B j d u h1 h2
theorem whole_s {neg:Bool}(h:LimR k A n c a) (hn:n≤1152921504606846976) (hK:n≤K)
 (C:∀k' ds,Up k k'→IntV k' ds (sgn neg a) K→R k' (.agg ds)):Cl k 171 #[.bool neg,.slice A n c] R:=
 after (fun _k0 u=>aDl fun _w hs=>iN neg ((h.up u).sees hs) hn) fun k' v u hv=>by
  obtain⟨ds,rfl,hd⟩:=jJ hv;exact C k' ds u (hd.mono hK)
theorem IntV.open (h:IntV k cs z K):∃b A n c,cs=#[.bool b,.slice A n c]∧IntV k #[.bool b,.slice A n c] z K:=by
 obtain⟨b,A,n,c,rfl,h⟩:=h;exact⟨b,A,n,c,rfl,b,A,n,c,rfl,h⟩
theorem aTs {m:Nat}(hm:m<18446744073709551616):wrap .u64 ((BitVec.toNat (BitVec.ofInt (IntKind.bits .u64) (Int.fdiv (m:Int) (2^(min (Int.toNat (Int.tmod 0 64)) (IntKind.bits .u64)))) &&& BitVec.ofInt (IntKind.bits .u64) 1):Nat):Int)=((m % 2:Nat):Int):=by
 have e1:(2:Int)^(min (Int.toNat (Int.tmod 0 64)) (IntKind.bits .u64))=1:=oz
 have e2:((m:Int) % ((2^IntKind.bits .u64:Nat):Int)).toNat=m:=by rw [show 2^IntKind.bits .u64=18446744073709551616 from rfl];omega
 have e3:((1:Int) % ((2^IntKind.bits .u64:Nat):Int)).toNat=1:=oz
 rw [e1,Int.fdiv_one,BitVec.toNat_and,BitVec.toNat_ofInt,BitVec.toNat_ofInt,e2,e3,Nat.and_one_is_mod,IntKind.wrap_u64];omega
theorem aWy (a:Nat):wq a 0 % 2=a % 2:=by unfold wq wd;rw [zf,xa];unfold B64;omega
theorem bBa (h:LimR k A n c a) (C:∀k',Up k k'→R k' (.int .u64 ((a % 2:Nat):Int))) :
 Cl k 298 #[.slice A n c,.int .i64 0] R:=by
 intro k0 u0;replace h:=h.up u0;replace C:=fun k' u=>C k' (u0.trans u);refine aYw ⟨fun h0=>absurd h0 oz,fun _=>⟨rfl,fun h1=>?_,fun h1=>?_⟩⟩
 ·have hn:n=0:=by
   have:=ow h1;rw [show wrap .i64 (Int.tdiv 0 64)=0 from by decide]at this;omega
  have ha:a=0:=by rw [h.zero_iff]at hn;exact hn
  subst ha;exact fun k1 u1=>C k1 u1
 ·have hn:0<n:=by
   have:=ov h1;rw [show wrap .i64 (Int.tdiv 0 64)=0 from by decide]at this;omega
  rw [show wrap .i64 (Int.tdiv 0 64)=0 from by decide];have hl:=h.len;obtain⟨b,o,rfl,hb,hw⟩:=RW.at_ h.lr (by rw [←h.len];exact hn);have h0:=hw 0 (by rw [←h.len];exact hn);refine⟨⟨b,o,rfl⟩,⟨oz,oq⟩,((wq a 0:Nat):Int),⟨rfl,fun j u hu=>?_⟩,oz,fun k2 u2=>?_⟩
  ·cases j with
   | zero=>
    have e:u=.int .u64 ((wq a 0:Nat):Int):=by
     have h1:(#[Value.int .u64 ((wq a 0:Nat):Int)]:Array Value)[0]?=some u:=hu;simpa using h1.symm
    subst e;show Sy.cellAt _ _ _=_;unfold Sy.cellAt;have e2:o+(Int.toNat 0*1+0+0)=o+0:=by simp
    simp only [e2,h0];rfl
   | succ j=>
    have h1:(#[Value.int .u64 ((wq a 0:Nat):Int)]:Array Value)[j+1]?=some u:=hu;simp at h1
  ·have:=C k2 u2;rw [aTs (show wq a 0<18446744073709551616 from qf _ oz)];rw [aWy];exact this
end
open Ieee
namespace FT
theorem eS {m k:Nat}(hm:m≠0):(m*2^k).log2=m.log2+k:=by
 have h1:2^m.log2≤m:=Nat.log2_self_le hm;have h2:m<2^(m.log2+1):=Nat.lt_log2_self;have hne:m*2^k≠0:=zm hm (by have:=ot k;omega);apply vd
 ·have:m*2^k<2^(m.log2+k+1):=by
   rw [show m.log2+k+1=(m.log2+1)+k by omega,oi];exact jx h2 (ot k)
  have:=(kf hne).2 this;omega
 ·have:2^(m.log2+k)≤m*2^k:=by
   rw [oi];exact od _ h1
  exact (Nat.le_log2 hne).2 this
def half (n G:Nat):Nat:=n/G+(decide (G<2*(n % G)) || (G == 2*(n % G) && n/G % 2 == 1)).toNat
theorem pB (neg:Bool) (n drop:Nat):Toward.even.cut neg n drop=half n (2^min drop (n.log2+2)):=by
 rw [←Nat.one_shiftLeft];rfl
theorem tA {a G:Nat}(hG:0<G):half (a*G) G=a:=by
 unfold half;rw [ye _ hG,Nat.mul_mod_left];have h0:(G == 2*0)=false:=by
  rw [beq_eq_false_iff_ne];omega
 simp [h0]
theorem tB {a G k:Nat}(hk:0<k):half (a*k) (G*k)=half a G:=by
 unfold half;rw [yk _ _ hk,uz];generalize a % G=r;generalize a/G=q;have e1:decide (G*k<2*(r*k))=decide (G<2*r):=by
  apply decide_eq_decide.2;rw [←qd];exact Nat.mul_lt_mul_right hk
 have e2:(G*k == 2*(r*k))=(G == 2*r):=by
  rw [←qd]
  by_cases c:G=2*r
  ·rw [c];simp
  ·have:G*k≠2*r*k:=fun h=>c (Nat.eq_of_mul_eq_mul_right hk h);rw [beq_eq_false_iff_ne.2 this,beq_eq_false_iff_ne.2 c]
 rw [e1,e2]
theorem nL (neg:Bool) (n:Nat):Toward.even.cut neg n 0=n:=by
 rw [pB,Nat.zero_min];have:=tA (a:=n) (G:=1) oz
 rwa [jk]at this
theorem aIm (neg:Bool) {m k drop:Nat}(hm:m≠0) (h:drop≤k):Toward.even.cut neg (m*2^k) drop=m*2^(k-drop):=by
 rw [pB,eS (k:=k) hm,Nat.min_eq_left oq];have e:m*2^k=m*2^(k-drop)*2^drop:=by
  rw [qd,←oi,show k-drop+drop=k by omega]
 rw [e];exact tA (ot drop)
theorem aIl (neg:Bool) {m k drop:Nat}(hm:m≠0):Toward.even.cut neg (m*2^k) (drop+k)=Toward.even.cut neg m drop:=by
 rw [pB,pB,eS (k:=k) hm,show min (drop+k) (m.log2+k+2)=min drop (m.log2+2)+k by omega,oi];exact tB (ot k)
variable {f:Ieee.Format}
def last (f:Ieee.Format) (m:Nat) (p:Int):Int:=max (p+m.log2-f.fractionBits) f.leastPlace
theorem gX {neg:Bool}{m:Nat}{p:Int}(hm:m≠0):f.nearest neg m p =
 f.word neg (min ((last f m p-f.leastPlace).toNat*f.binade+Toward.even.cut neg (m <<< (p-last f m p).toNat) (last f m p-p).toNat) f.infRung):=by
 unfold Format.nearest last;rw [oh hm]
theorem cN {neg:Bool}{m k:Nat}{p:Int}(hm:m≠0):f.nearest neg (m*2^k) (p-k)=f.nearest neg m p:=by
 have hne:m*2^k≠0:=zm hm (by have:=ot k;omega);have hl:last f (m*2^k) (p-k)=last f m p:=by
  unfold last;rw [eS hm]
  congr 1
  omega
 rw [gX hne,gX hm,hl];generalize last f m p=q;have e:Toward.even.cut neg ((m*2^k) <<< (p-k-q).toNat) (q-(p-k)).toNat=Toward.even.cut neg (m <<< (p-q).toNat) (q-p).toNat:=by
  rw [vk,vk]
  by_cases c:p<q
  ·rw [show (p-k-q).toNat=0 by omega,show (p-q).toNat=0 by omega,show (q-(p-k)).toNat=(q-p).toNat+k by omega,zf,jk,jk];exact aIl neg hm
  ·rw [show (q-p).toNat=0 by omega,nL]
   by_cases d:p-k<q
   ·rw [show (p-k-q).toNat=0 by omega,zf,jk,aIm neg hm oq]
    congr 2
    omega
   ·rw [show (q-(p-k)).toNat=0 by omega,nL,qd,←oi]
    congr 2
    omega
 rw [e]
structure Good (f:Ieee.Format):Prop where
 frac:1≤f.fractionBits
 exp:2≤f.exponentBits
theorem aY:Good Ieee.double:=⟨oz,oz⟩
theorem pY:Good Ieee.single:=⟨oz,oz⟩
theorem aHl:f.signWeight=2^f.exponentBits*f.binade:=by
 unfold Format.signWeight Format.binade;rw [oi]
theorem mL:0<f.binade:=ot _
theorem aNw:f.infRung<f.signWeight:=by
 rw [aHl];unfold Format.infRung;have:=ot f.exponentBits;exact jx oq mL
theorem aKv {neg:Bool}{r:Nat}(h:r<f.signWeight):f.read (f.word neg r) =
 if r<f.binade then .number neg r f.leastPlace
 else if r<f.infRung then .number neg (f.binade+r % f.binade) (f.leastPlace+(r/f.binade-1:Nat))
 else if r=f.infRung then .infinity neg
 else .nan neg (r-f.infRung):=by
 have e1:(f.word neg r/f.signWeight % 2 == 1)=neg:=by
  unfold Format.word;cases neg
  ·simp [Nat.div_eq_of_lt h]
  ·have:(f.signWeight+r) / f.signWeight=1:=by
    rw [zt,Nat.add_div_right _ oq,qr h]
   simp [this]
 have e2:f.word neg r % f.signWeight=r:=by
  unfold Format.word;cases neg
  ·simp [Nat.mod_eq_of_lt h]
  ·simp [Nat.mod_eq_of_lt h]
 unfold Format.read;simp only [e1,e2]
structure Has (f:Ieee.Format) (m:Nat) (p:Int):Prop where
 ne:m≠0
 bits:m<2^(f.fractionBits+1)
 low:f.leastPlace≤p
 top:p+m.log2-f.fractionBits-f.leastPlace+3≤2^f.exponentBits
theorem Has.last_le {m:Nat}{p:Int}(h:Has f m p):last f m p≤p:=by
 have hl:m.log2<f.fractionBits+1:=(kf h.ne).2 h.bits;have:=h.low;unfold last;omega
theorem Has.read {neg:Bool}{m:Nat}{p:Int}(g:Good f) (h:Has f m p):f.read (f.nearest neg m p)=.number neg (m*2^(p-last f m p).toNat) (last f m p):=by
 have hl:m.log2<f.fractionBits+1:=(kf h.ne).2 h.bits;have hle:=h.last_le;have hlow:f.leastPlace≤last f m p:=yc _ _;have htop:=h.top;rw [gX h.ne,show (last f m p-p).toNat=0 by omega,nL,vk];have hlog:(m*2^(p-last f m p).toNat).log2=m.log2+(p-last f m p).toNat:=eS h.ne;have hne:m*2^(p-last f m p).toNat≠0:=zm h.ne (by have:=ot (p-last f m p).toNat;omega);have hcase:(last f m p=f.leastPlace∧p+m.log2-f.fractionBits≤f.leastPlace)∨last f m p=p+m.log2-f.fractionBits:=by
  unfold last;omega
 generalize last f m p=q at *
 generalize m*2^(p-q).toNat=kept at *
 have hk2:kept<2*f.binade:=by
  have:kept<2^(f.fractionBits+1):=(kf hne).1 oq;unfold Format.binade;rw [ql]at this;omega
 have hb:=mL (f:=f);have hE:(4:Nat)≤2^f.exponentBits:=by
  have:=om (n:=2) oz g.exp;simpa using this
 have hinf:f.infRung=(2^f.exponentBits-1)*f.binade:=rfl;have hd:∃d:Nat,q-f.leastPlace=(d:Int)∧d+3≤2^f.exponentBits:=by
  refine⟨(q-f.leastPlace).toNat,oq,?_⟩;have h4:(4:Int)≤((2^f.exponentBits:Nat):Int):=by exact_mod_cast hE
  have h5:((2^f.exponentBits:Nat):Int)=(2:Int)^f.exponentBits:=by norm_cast
  rcases hcase with ⟨c,_⟩|c <;> omega
 obtain⟨d,hd,hd3⟩:=hd;have hlt:d*f.binade+kept<f.infRung:=by
  rw [hinf];have:(d+2)*f.binade≤(2^f.exponentBits-1)*f.binade:=od _ oq;have e:(d+2)*f.binade=d*f.binade+2*f.binade:=by rw [jl]
  omega
 rw [hd,qx,Nat.min_eq_left oq,aKv (xc hlt aNw)];rcases hcase with ⟨c,_⟩|c
 ·obtain rfl:d=0:=oq
  rw [vq,jj]at hlt ⊢
  by_cases a:kept<f.binade
  ·rw [og a,c]
  ·rw [oh a,og hlt,c];have e1:kept/f.binade=1:=by
    rw [Nat.div_eq_iff hb];omega
   have e2:f.binade+kept % f.binade=kept:=by
    have:=qi kept f.binade;rw [e1]at this;omega
   rw [e1,e2];simp
 ·have hk1:f.binade≤kept:=by
   have:2^f.fractionBits≤kept:=(Nat.le_log2 hne).1 oq;exact this
  have hge:f.binade≤d*f.binade+kept:=oq
  have e0:kept/f.binade=1:=by
   rw [Nat.div_eq_iff hb];omega
  have e1:(d*f.binade+kept) / f.binade=d+1:=by
   rw [zt,ol,jg _ _ hb,e0];omega
  have e2:f.binade+(d*f.binade+kept) % f.binade=kept:=by
   rw [zt (d*f.binade),ol d,zg];have:=qi kept f.binade;rw [e0]at this;omega
  rw [oh oq,og hlt,e1,e2]
  congr 1
  omega
theorem gP {s t:Bool}{m n:Nat}{p q:Int}(g:Good f) (h:Has f m p) (h':Has f n q):f.mul (f.nearest s m p) (f.nearest t n q)=some (f.nearest (s ^^ t) (m*n) (p+q)):=by
 unfold Format.mul;rw [h.read g,h'.read g];show some (f.nearest (s ^^ t) _ _)=_;have a:=h.last_le;have b:=h'.last_le;generalize last f m p=i at *
 generalize last f n q=j at *
 have e:m*2^(p-i).toNat*(n*2^(q-j).toNat)=m*n*2^((p-i).toNat+(q-j).toNat):=by
  rw [oi]
  ac_rfl
 rw [e,show i+j=(p+q)-(((p-i).toNat+(q-j).toNat:Nat):Int) by omega,cN (zm h.ne h'.ne)]
theorem aIt {s:Bool}{m:Nat}{p q:Int}(g:Good f) (h:Has f m p) (h':Has f 1 q) (hq:f.leastPlace≤q-f.fractionBits):f.div (f.nearest s m p) (f.nearest false 1 q)=some (f.nearest s m (p-q)):=by
 unfold Format.div;rw [h.read g,h'.read g];have hl:m.log2<f.fractionBits+1:=(kf h.ne).2 h.bits;have a:=h.last_le;have ej:last f 1 q=q-f.fractionBits:=by
  have:(1:Nat).log2=0:=oz
  unfold last;rw [this];omega
 have hlast:p+m.log2-f.fractionBits≤last f m p:=Int.le_max_left _ _;have hlog:(m*2^(p-last f m p).toNat).log2=m.log2+(p-last f m p).toNat:=eS h.ne;have hne:m*2^(p-last f m p).toNat≠0:=zm h.ne (by have:=ot (p-last f m p).toNat;omega);rw [ej,show (q-(q-f.fractionBits)).toNat=f.fractionBits by omega,jw];generalize hi:last f m p=i at *
 generalize hM:m*2^(p-i).toNat=M at *
 have hMl:M.log2≤f.fractionBits:=oq
 have hp2:=ot f.fractionBits;show (Datum.quotient (f.fractionBits+2) (.number s M i) (.number false (2^f.fractionBits) (q-f.fractionBits))).map f.write=_;unfold Datum.quotient;simp only [];rw [oh oq,Nat.log2_two_pow];have e1:M <<< (f.fractionBits+2+f.fractionBits-M.log2)=M*2^(f.fractionBits+2-M.log2)*2^f.fractionBits:=by
  rw [vk,qd,←oi]
  congr 2
  omega
 rw [e1,ye _ hp2,Nat.mul_mod_left];show some (f.nearest (s ^^ false) (2*(M*2^(f.fractionBits+2-M.log2))+0) _)=_;have e2:2*(M*2^(f.fractionBits+2-M.log2))+0=m*2^((p-i).toNat+(f.fractionBits+2-M.log2)+1):=by
  rw [←hM,ql,oi]
  ac_rfl
 rw [e2,Bool.xor_false,←cN (p:=p-q) (k:=(p-i).toNat+(f.fractionBits+2-M.log2)+1) h.ne]
 congr 2
 omega
theorem aRx {s:Bool}{r:Nat}(h:r<f.signWeight):f.word s r ^^^ 2^(f.exponentBits+f.fractionBits)=f.word (!s) r:=by
 have hr:r ^^^ 2^(f.exponentBits+f.fractionBits)=2^(f.exponentBits+f.fractionBits)+r:=by
  have h:r<2^(f.exponentBits+f.fractionBits):=h;generalize f.exponentBits+f.fractionBits=n at h;apply Nat.eq_of_testBit_eq;intro i;rw [Nat.testBit_xor,Nat.testBit_two_pow]
  by_cases c:n=i
  ·subst c;rw [Nat.testBit_two_pow_add_eq,wm h];simp
  ·by_cases d:i<n
   ·rw [Nat.testBit_two_pow_add_gt d];simp [c]
   ·have h1:2^n+r<2^i:=by
     have:2^(n+1)≤2^i:=om oz oq;rw [ql]at this;omega
    rw [wm h1,wm oq];simp [c]
 unfold Format.word;cases s
 ·exact hr
 ·show (f.signWeight+r) ^^^ _=r;have e:f.signWeight+r=r ^^^ 2^(f.exponentBits+f.fractionBits):=hr.symm;rw [e,Nat.xor_assoc,Nat.xor_self,Nat.xor_zero]
theorem oB (f:Ieee.Format) (neg:Bool) (m:Nat) (p:Int):∃r,r<f.signWeight∧∀s,f.nearest s m p=f.word s r:=by
 by_cases hm:m=0
 ·exact⟨0,by rw [aHl];exact jn (ot _) mL,fun s=>by unfold Format.nearest;rw [og hm]⟩
 ·refine⟨min ((last f m p-f.leastPlace).toNat*f.binade+Toward.even.cut neg (m <<< (p-last f m p).toNat) (last f m p-p).toNat) f.infRung,qe (Nat.min_le_right _ _) aNw,fun s=>?_⟩;rw [gX hm,pB,pB]
theorem aAx {s:Bool}{m:Nat}{p:Int}:f.nearest s m p ^^^ 2^(f.exponentBits+f.fractionBits)=f.nearest (!s) m p:=by
 obtain⟨r,h,e⟩:=oB f s m p;rw [e,e,aRx h]
end FT
namespace FT
theorem sL (w:Nat) (h:w<2^64):(BitVec.ofInt 64 (w:Int)).toNat=w:=by
 rw [BitVec.toNat_ofInt];have:(w:Int) % ((2^64:Nat):Int)=(w:Int):=Int.emod_eq_of_lt oq (by exact_mod_cast h);rw [this,qx]
theorem struck {w:Nat}(h:w<2^64):(BitVec.ofInt 64 (w:Int) &&& ~~~(BitVec.ofInt 64 9218868437227405312)).toNat=w/2^63*2^63+w % 2^52:=by
 have hm:∀i:Fin 64,(BitVec.ofInt 64 9218868437227405312).getLsbD i.val=(decide (52≤i.val) && decide (i.val<63)):=oz
 apply Nat.eq_of_testBit_eq;intro i;rw [←BitVec.getLsbD,BitVec.getLsbD_and,BitVec.getLsbD_not];have hw:(BitVec.ofInt 64 (w:Int)).getLsbD i=w.testBit i:=by rw [BitVec.getLsbD,sL w h]
 have hlt:w % 2^52<2^63:=ob (qf _ oz) oz;rw [hw,ol,Nat.testBit_two_pow_mul_add _ hlt,Nat.testBit_mod_two_pow,Nat.testBit_div_two_pow]
 by_cases c:i<64
 ·rw [hm ⟨i,c⟩]
  by_cases c1:i<52
  ·have c2:i<63:=oq
   have c3:¬ 52≤i:=oq
   simp [c,c1,c2,c3]
  ·by_cases c2:i<63
   ·have c3:52≤i:=oq
    simp [c,c1,c2,c3]
   ·have e:i=63:=oq
    subst e;simp
 ·have hz:w.testBit i=false:=wm (ob h (om oz oq));have c2:¬ i<63:=oq
  rw [hz,Bool.false_and,oh c2]
  first
   | (rw [show 63+(i-63)=i by omega,hz])
   | (rw [show i-63+63=i by omega,hz])
theorem put {a E c:Nat}(ha:a≤1) (hE:E<2^11) (hc:c<2^52):(BitVec.ofInt 64 ((a*2^63+c:Nat):Int) ||| BitVec.ofInt 64 ((E*2^52:Nat):Int)).toNat=a*2^63+(E*2^52+c):=by
 have h0:c<2^63:=ob hc (om oz oz);have h1:a*2^63+c<2^64:=by
  have:=Nat.add_lt_add_of_le_of_lt (od (2^63) ha) h0
  rwa [jw,show (2:Nat)^63+2^63=2^64 from rfl]at this
 have h3:E*2^52+c<2^63:=by
  have g1:E*2^52+c<(E+1)*2^52:=by
   rw [jl,jw];exact Nat.add_lt_add_left hc _
  have g2:(E+1)*2^52≤2^11*2^52:=od _ hE;rw [←oi]at g2;exact ob g1 g2
 have h2:E*2^52<2^64:=qe (Nat.le_add_right _ c) (xc h3 (zn oz oz));rw [BitVec.toNat_or,sL _ h1,sL _ h2];have e1:a*2^63+c=2^63*a ||| c:=by
  rw [ol];exact xw (ob hc oz) a
 have e2:E*2^52+c=2^52*E ||| c:=by
  rw [ol];exact xw hc E
 have e3:a*2^63+(E*2^52+c)=2^63*a ||| (E*2^52+c):=by
  rw [ol a];exact xw h3 a
 rw [e1,e3,e2,ol E,Nat.or_assoc,Nat.or_comm c]
theorem field {w:Nat}(h:w<2^64):(BitVec.ofInt 64 ((w/2^52:Nat):Int) &&& BitVec.ofInt 64 2047).toNat=w/2^52 % 2048:=by
 rw [BitVec.toNat_and,sL _ (qe (jo _ _) h),show (BitVec.ofInt 64 2047).toNat=2^11-1 from by decide,Nat.and_two_pow_sub_one_eq_mod]
theorem qE {s:Bool}{m:Nat}{p:Int}(h:Has double m p) (hn:-1022≤p+m.log2) :
 double.nearest s m p=(if s then 1 else 0)*2^63+((p+m.log2+1023).toNat*2^52+(m*2^(52-m.log2)-2^52))∧2^52≤m*2^(52-m.log2)∧m*2^(52-m.log2)<2^53:=by
 have hl:m.log2<53:=(kf h.ne).2 h.bits;have htop:p+m.log2-52+1074+3≤2048:=h.top;have hlow:(-1074:Int)≤p:=h.low;have elast:last double m p=p+m.log2-52:=by
  unfold last;show max (p+m.log2-((52:Nat):Int)) (-1074)=_;omega
 have hlog:(m*2^(52-m.log2)).log2=52:=by
  rw [eS h.ne];omega
 have hne:m*2^(52-m.log2)≠0:=zm h.ne (by have:=ot (52-m.log2);omega);have h1:2^52≤m*2^(52-m.log2):=(Nat.le_log2 hne).1 oq;have h2:m*2^(52-m.log2)<2^53:=(kf hne).1 oq;refine⟨?_,h1,h2⟩;rw [gX h.ne,elast,show (p+m.log2-52-p).toNat=0 by omega,nL,vk,show (p-(p+m.log2-52)).toNat=52-m.log2 by omega];generalize m*2^(52-m.log2)=kept at *
 have eb:double.binade=2^52:=rfl;have ei:double.infRung=2047*2^52:=rfl;have el:double.leastPlace=-1074:=rfl;have es:double.signWeight=2^63:=rfl;rw [eb,ei,el];have e:(p+m.log2-52 - -1074).toNat+1=(p+m.log2+1023).toNat:=oq
 generalize (p+m.log2-52 - -1074).toNat=d at e;rw [←e];have hd:d+1≤2046:=oq
 have hr:d*2^52+kept<2047*2^52:=oq
 rw [Nat.min_eq_left oq];unfold Format.word;rw [es];cases s
 ·show d*2^52+kept=0*2^63+((d+1)*2^52+(kept-2^52));omega
 ·show 2^63+(d*2^52+kept)=1*2^63+((d+1)*2^52+(kept-2^52));omega
end FT
namespace FT
theorem nosign {w:Nat}(h:w<2^64):(BitVec.ofInt 64 (w:Int) &&& ~~~(BitVec.ofInt 64 9223372036854775808)).toNat=w % 2^63:=by
 have hm:∀i:Fin 64,(BitVec.ofInt 64 9223372036854775808).getLsbD i.val=decide (i.val=63):=oz
 apply Nat.eq_of_testBit_eq;intro i;rw [←BitVec.getLsbD,BitVec.getLsbD_and,BitVec.getLsbD_not];have hw:(BitVec.ofInt 64 (w:Int)).getLsbD i=w.testBit i:=by rw [BitVec.getLsbD,sL w h]
 rw [hw,Nat.testBit_mod_two_pow]
 by_cases c:i<64
 ·rw [hm ⟨i,c⟩]
  by_cases c2:i<63
  ·have c3:i≠63:=oq
   simp [c,c2,c3]
  ·have e:i=63:=oq
   subst e;simp
 ·have hz:w.testBit i=false:=wm (ob h (om oz oq));rw [hz,Bool.false_and,Bool.and_false]
theorem word64 {s:Bool}{r:Nat}(h:r<2^63):double.word s r<2^64∧double.word s r % 2^63=r∧double.word s r/2^63=if s then 1 else 0:=by
 have es:double.signWeight=2^63:=rfl;have hp:(2:Nat)^63+2^63=2^64:=rfl;unfold Format.word;rw [es];cases s
 ·exact⟨ob h (om oz oz),oa h,qr h⟩
 ·refine⟨by rw [←hp];exact Nat.add_lt_add_left h _,?_,?_⟩
  ·show (2^63+r) % 2^63=r;rw [Nat.add_mod_left,oa h]
  ·show (2^63+r) / 2^63=1;rw [zt,Nat.add_div_right _ (ot 63),qr h]
theorem near64 (s:Bool) (m:Nat) (p:Int):double.nearest s m p<2^64∧double.nearest s m p % 2^63=double.nearest false m p:=by
 obtain⟨r,h,e⟩:=oB double s m p;have:=word64 (s:=s) (r:=r) h;rw [e,e];exact⟨this.1,this.2.1⟩
theorem wrap64 {n:Nat}(h:n<2^64):wrap .u64 (n:Int)=(n:Int):=by
 unfold wrap;have e:(IntKind.bits .u64)=64:=rfl;have e2:(IntKind.signed .u64)=false:=rfl;rw [e];have:(n:Int) % 18446744073709551616=(n:Int):=Int.emod_eq_of_lt oq (by have h:n<18446744073709551616:=h;omega);simp [e2,this]
theorem lP {x y:Nat}{s t:Bool}{M N:Nat}{i j:Int}(hx:double.read x=.number s M i) (hy:double.read y=.number t N j) :
 double.order x y=some (compare (signed s M (i-min i j).toNat) (signed t N (j-min i j).toNat)):=by
 unfold Format.order;rw [hx,hy];rfl
end FT
open FT
section
variable {k:World}{R:World→Value→Prop}{s:Bool}{m:Nat}{p:Int}
theorem aNf (C:∀k',Up k k'→R k' (.float .f64 (double.nearest false m p))):Cl k 215 #[.float .f64 (double.nearest s m p)] R:=by
 intro k0 u0;obtain⟨h1,h2⟩:=near64 s m p;refine aUi fun k1 u1=>?_;have:=C k1 (u0.trans u1);rw [show IntKind.bits .u64=64 from rfl,nosign h1,h2,wrap64 (near64 false m p).1,qx];exact this
theorem aNh (h:Has double m p) (C:∀k',Up k k'→R k' (.bool false)):Cl k 128 #[.float .f64 (double.nearest s m p)] R:=by
 intro k0 u0;refine aIy fun k1 u1=>?_;have:=C k1 (u0.trans u1);have hr:=h.read (neg:=s) aY;rw [show FloatKind.format .f64=double from rfl,lP hr hr];have e:∀z:Int,(some (compare z z) != some Ordering.eq)=false:=fun z=>by rw [show compare z z=Ordering.eq from by simp [compare,compareOfLessAndEq]];rfl
 rwa [e]
theorem aNg (h:Has double m p) (C:∀k',Up k k'→R k' (.bool false)):Cl k 127 #[.float .f64 (double.nearest s m p),.int .i64 0] R:=by
 intro k0 u0;refine aIx ⟨fun _=>aNf fun k1 u1=>⟨_,rfl,fun k2 u2=>?_⟩,fun f=>by cases f⟩;have:=C k2 (u0.trans (u1.trans u2));have hr:=h.read (neg:=false) aY;have hl:m.log2<53:=(kf h.ne).2 h.bits;have hle:=h.last_le;have hlog:(m*2^(p-last double m p).toNat).log2=m.log2+(p-last double m p).toNat:=eS h.ne;have hne:m*2^(p-last double m p).toNat≠0:=zm h.ne (by have:=ot (p-last double m p).toNat;omega);have h971:last double m p≤971:=by
  have htop:p+m.log2-52+1074+3≤2048:=h.top;unfold last;show max (p+m.log2-((52:Nat):Int)) (-1074)≤971;omega
 have hge:p+m.log2-52≤last double m p:=Int.le_max_left _ _;generalize last double m p=i at *
 have hM:m*2^(p-i).toNat<2^53:=(kf hne).1 oq;generalize m*2^(p-i).toNat=M at *
 have hx:double.read 9218868437227405311=.number false (2^53-1) 971:=by decide +kernel
 rw [show FloatKind.format .f64=double from rfl,lP hr hx];rw [show min i 971=i by omega,show (i-i).toNat=0 by omega];have hc:¬ ((M:Int) > (((2^53-1) <<< (971-i).toNat:Nat):Int)):=by
  rw [vk];have:=zo (2^53-1) (ot (971-i).toNat);omega
 have e:(some (compare (signed false M 0) (signed false (2^53-1) (971-i).toNat)) == some Ordering.gt)=false:=by
  unfold signed;simp only [vj,if_false,Nat.shiftLeft_zero];generalize (((2^53-1) <<< (971-i).toNat:Nat):Int)=z at hc;simp only [compare,compareOfLessAndEq]
  by_cases a:(M:Int)<z
  ·rw [og a];rfl
  ·rw [oh a,og oq];rfl
 rwa [e]
theorem aUl (h:Has double m p) (hn:-1022≤p+m.log2) (C:∀k',Up k k'→R k' (.tuple #[.float .f64 (double.nearest s m p),.int .i64 0])):Cl k 328 #[.float .f64 (double.nearest s m p)] R:=by
 intro k0 u0;refine aNj (aNf fun k1 u1=>⟨_,rfl,fun f=>?_,fun _ k3 u3=>C k3 (u0.trans (u1.trans u3))⟩);exfalso;have hr:=h.read (neg:=false) aY;have hl:m.log2<53:=(kf h.ne).2 h.bits;have hle:=h.last_le;have hlow:(-1074:Int)≤last double m p:=yc _ _;have elast:last double m p=p+m.log2-52:=by
  unfold last;show max (p+m.log2-((52:Nat):Int)) (-1074)=_;omega
 have hlog:(m*2^(p-last double m p).toNat).log2=m.log2+(p-last double m p).toNat:=eS h.ne;have hne:m*2^(p-last double m p).toNat≠0:=zm h.ne (by have:=ot (p-last double m p).toNat;omega);generalize last double m p=i at *
 have hM:2^52≤m*2^(p-i).toNat:=(Nat.le_log2 hne).1 oq;generalize m*2^(p-i).toNat=M at *
 have hx:double.read 4503599627370496=.number false (2^52) (-1074):=by decide +kernel
 rw [show FloatKind.format .f64=double from rfl,lP hr hx]at f;rw [show min i (-1074)=-1074 by omega,show ((-1074:Int) - -1074).toNat=0 by omega]at f;have hc:¬ ((M <<< (i - -1074).toNat:Nat):Int)<((2^52:Nat):Int):=by
  rw [vk];have:=zo M (ot (i - -1074).toNat);omega
 unfold signed at f;simp only [vj,if_false,Nat.shiftLeft_zero]at f;generalize ((M <<< (i - -1074).toNat:Nat):Int)=z at hc f;generalize ((2^52:Nat):Int)=y at hc f;simp only [compare,compareOfLessAndEq]at f;rw [oh hc]at f;split at f <;> cases f
end
namespace FT
theorem pow52:(2:Int)^(min (Int.toNat 52) (IntKind.bits .u64))=4503599627370496:=oz
theorem aZg {w F:Nat}{e:Int}(hw:w<2^64) (hF:w/2^52 % 2048=F) (he:-100000≤e∧e≤100000) :
 wrap .i64 ((wrap .i64 (e+0))+(wrap .i64 ((wrap .i64 (BitVec.toNat (BitVec.ofInt (IntKind.bits .i64) (wrap .i64 (Int.fdiv ((w:Nat):Int) (2^(min (Int.toNat 52) (IntKind.bits .u64))))) &&& BitVec.ofInt (IntKind.bits .i64) 2047)))-1023)))=e+F-1023:=by
 have hd:w/2^52<4096:=by
  have:w/2^52<2^12:=Nat.div_lt_of_lt_mul (by rw [←oi];exact hw);exact this
 have e1:Int.fdiv ((w:Nat):Int) 4503599627370496=((w/2^52:Nat):Int):=by
  rw [xy _ oz];rfl
 have e2:wrap .i64 ((w/2^52:Nat):Int)=((w/2^52:Nat):Int):=by
  generalize w/2^52=z at hd;rw [qk];omega
 rw [pow52,e1,e2,show IntKind.bits .i64=64 from rfl,field hw,hF];have hF2:F<2048:=by rw [←hF];exact qf _ oz
 rw [qk,qk,qk,qk];omega
theorem aUe {w a c F:Nat}(hw:w<2^64) (ha:a≤1) (hc:c<2^52) (hF:F<2^11) (h1:w/2^63=a) (h2:w % 2^52=c) :
 Int.toNat (wrap .u64 (BitVec.toNat (BitVec.ofInt (IntKind.bits .u64) (wrap .u64 (BitVec.toNat (BitVec.ofInt (IntKind.bits .u64) ((w:Nat):Int) &&& ~~~(BitVec.ofInt (IntKind.bits .u64) 9218868437227405312)))) ||| BitVec.ofInt (IntKind.bits .u64) (wrap .u64 ((F:Int)*2^(min (Int.toNat 52) (IntKind.bits .u64)))))))=a*2^63+(F*2^52+c):=by
 have h0:c<2^63:=ob hc (om oz oz);have h3:a*2^63+c<2^64:=by
  have:=Nat.add_lt_add_of_le_of_lt (od (2^63) ha) h0
  rwa [jw,show (2:Nat)^63+2^63=2^64 from rfl]at this
 have h4:F*2^52+c<2^63:=by
  have g1:F*2^52+c<(F+1)*2^52:=by
   rw [jl,jw];exact Nat.add_lt_add_left hc _
  have g2:(F+1)*2^52≤2^11*2^52:=od _ hF;rw [←oi]at g2;exact ob g1 g2
 have h5:F*2^52<2^64:=qe (Nat.le_add_right _ c) (xc h4 (zn oz oz));have h6:a*2^63+(F*2^52+c)<2^64:=by
  have:=Nat.add_lt_add_of_le_of_lt (od (2^63) ha) h4
  rwa [jw,show (2:Nat)^63+2^63=2^64 from rfl]at this
 have e1:((F:Int)*2^(min (Int.toNat 52) (IntKind.bits .u64)))=((F*2^52:Nat):Int):=by
  rw [pow52];rfl
 rw [e1,wrap64 h5,show IntKind.bits .u64=64 from rfl,struck hw,h1,h2,wrap64 h3,put ha hF hc,wrap64 h6,qx]
theorem parts {s:Bool}{m:Nat}{p:Int}(h:Has double m p) (hn:-1022≤p+m.log2):∃c,c<2^52∧(∀q,Has double m q→-1022≤q+m.log2→double.nearest s m q=(if s then 1 else 0)*2^63+((q+m.log2+1023).toNat*2^52+c))∧
 double.nearest s m p/2^63=(if s then 1 else 0)∧double.nearest s m p % 2^52=c∧double.nearest s m p/2^52 % 2048=(p+m.log2+1023).toNat∧(p+m.log2+1023).toNat<2^11:=by
 have htop:p+m.log2-52+1074+3≤2048:=h.top;obtain⟨e,h1,h2⟩:=qE (s:=s) h hn;have hc:m*2^(52-m.log2)-2^52<2^52:=by
  rw [show (2:Nat)^53=2^52+2^52 from rfl]at h2;omega
 have hF:(p+m.log2+1023).toNat<2^11:=by
  rw [show (2:Nat)^11=2048 from rfl];omega
 refine⟨_,hc,fun q hq hqn=>(qE (s:=s) hq hqn).1,?_⟩;rw [e];generalize m*2^(52-m.log2)-2^52=c at hc;generalize (p+m.log2+1023).toNat=F at hF;have h4:F*2^52+c<2^63:=by
  have g1:F*2^52+c<(F+1)*2^52:=by
   rw [jl,jw];exact Nat.add_lt_add_left hc _
  have g2:(F+1)*2^52≤2^11*2^52:=od _ hF;rw [←oi]at g2;exact ob g1 g2
 generalize ha:(if s then 1 else 0:Nat)=a;refine⟨?_,?_,?_,hF⟩
 ·rw [zt,Nat.add_mul_div_right _ _ (ot 63),qr h4,jj]
 ·rw [show (2:Nat)^63=2^11*2^52 from rfl,←qd,←wa,←jl,zt,Nat.add_mul_mod_self_right,oa hc]
 ·rw [show (2:Nat)^63=2^11*2^52 from rfl,←qd,←wa,←jl,zt,Nat.add_mul_div_right _ _ (ot 52),qr hc,jj,show (2048:Nat)=2^11 from rfl,zt,Nat.add_mul_mod_self_right,oa hF]
theorem aWn {z:Int}(h:-3000≤z∧z≤3000):wrap .i64 z=z:=by
 rw [qk];omega
theorem aHn {z:Int}(h:-1023≤z∧z≤3000):wrap .u64 (wrap .i64 (z+1023))=((z+1023).toNat:Int):=by
 have e:z+1023=((z+1023).toNat:Int):=oq
 have e1:wrap .i64 (z+1023)=z+1023:=by
  rw [qk];omega
 rw [e1,e,qx];exact wrap64 (by rw [show (2:Nat)^64=18446744073709551616 from rfl];omega)
theorem Has.one {p:Int}(h1:-1074≤p) (h2:p≤1023):Has double 1 p:=⟨oz,oz,h1,by show p+((1:Nat).log2:Nat)-52 - -1074+3≤2048;rw [show (1:Nat).log2=0 from rfl];omega⟩
end FT
open FT
section
variable {k:World}{R:World→Value→Prop}{s:Bool}{m:Nat}{p e:Int}
theorem aZi (h:Has double m p) (hn:-1022≤p+m.log2) (h':Has double m (p+e)) (he:-100000≤e∧e≤100000) (C:∀k',Up k k'→R k' (.float .f64 (double.nearest s m (p+e)))) :
 Cl k 300 #[.float .f64 (double.nearest s m p),.int .i64 e] R:=by
 intro k0 u0;have hr:=h.read (neg:=s) aY;have hne:m*2^(p-last double m p).toNat≠0:=zm h.ne (by have:=ot (p-last double m p).toNat;omega);have h0:double.read 0=.number false 0 (-1074):=by decide +kernel
 obtain⟨c,hc,hall,g1,g2,g3,g4⟩:=parts (s:=s) h hn;have hw:=(near64 s m p).1;have htop:(p+e)+m.log2-52+1074+3≤2048:=h'.top;have hlow:(-1074:Int)≤p+e:=h'.low;refine aUk ⟨fun f=>?_,fun _=>aNg h fun k2 u2=>⟨_,rfl,(fun f=>by cases f),fun _=>aNh h fun k5 u5=>⟨_,rfl,(fun f=>by cases f),fun _=>aUl h hn fun k8 u8=>⟨_,_,rfl,?_⟩⟩⟩⟩
 ·exfalso;rw [show FloatKind.format .f64=double from rfl,lP hr h0]at f;generalize m*2^(p-last double m p).toNat=M at *
  generalize last double m p=i at *
  have hz:signed s M (i-min i (-1074)).toNat≠0:=by
   unfold signed;rw [vk];have:=zm hne (show 2^(i-min i (-1074)).toNat≠0 by have:=ot (i-min i (-1074)).toNat;omega);generalize M*2^(i-min i (-1074)).toNat=z at this;cases s <;> simp <;> omega
  have hz2:signed false 0 (-1074-min i (-1074)).toNat=0:=by unfold signed;simp
  rw [hz2]at f;generalize signed s M (i-min i (-1074)).toNat=z at hz f;simp only [compare,compareOfLessAndEq]at f;rw [oh hz]at f;split at f <;> cases f
 have hput:∀q,Has double m q→-1022≤q+m.log2→Int.toNat (wrap .u64 (BitVec.toNat (BitVec.ofInt (IntKind.bits .u64) (wrap .u64 (BitVec.toNat (BitVec.ofInt (IntKind.bits .u64) ((double.nearest s m p:Nat):Int) &&& ~~~(BitVec.ofInt (IntKind.bits .u64) 9218868437227405312)))) ||| BitVec.ofInt (IntKind.bits .u64) (wrap .u64 (((q+m.log2+1023).toNat:Int)*2^(min (Int.toNat 52) (IntKind.bits .u64)))))))=double.nearest s m q:=fun q hq hqn=>by
  have hF:(q+m.log2+1023).toNat<2^11:=by
   have:q+m.log2-52+1074+3≤2048:=hq.top;rw [show (2:Nat)^11=2048 from rfl];omega
  rw [aUe hw (by cases s <;> decide) hc hF g1 g2,hall q hq hqn]
 rw [aZg hw g3 he];have v8:=u0.trans (u2.trans (u5.trans u8));refine⟨fun f=>?_,fun _=>⟨fun f=>?_,fun _=>⟨fun f=>?_,fun f=>?_⟩⟩⟩
 ·have:=ow f;omega
 ·have:=ow f;omega
 ·have f:=ow f;have hs:Has double m (p+e+53):=⟨h.ne,h.bits,by show (-1074:Int)≤_;omega,by show (p+e+53)+m.log2-52+1074+3≤2048;omega⟩;have e1:e+((p+m.log2+1023).toNat:Nat)-1023+53=(p+e+53)+m.log2:=oq
  rw [e1,aWn (z:=p+e+53+m.log2) oq,aHn (z:=p+e+53+m.log2) oq,hput _ hs oq];have hm:Sy.fltR .f64 .mul 4368491638549381120 (double.nearest s m (p+e+53))=some (double.nearest s m (p+e)):=by
   have h1:(4368491638549381120:Nat)=double.nearest false 1 (-53):=by decide +kernel
   have:=gP (s:=false) (t:=s) aY (Has.one (p:=-53) oz oz) hs;rw [jw,Bool.false_xor,show (-53+(p+e+53):Int)=p+e by omega,←h1]at this;exact this
  rw [hm];exact⟨rfl,fun k9 u9=>C k9 (v8.trans u9)⟩
 ·have f:=ov f;have e1:e+((p+m.log2+1023).toNat:Nat)-1023=(p+e)+m.log2:=oq
  rw [e1,aHn (z:=p+e+m.log2) oq,hput _ h' oq];have hm:Sy.fltR .f64 .mul 4607182418800017408 (double.nearest s m (p+e))=some (double.nearest s m (p+e)):=by
   have h1:(4607182418800017408:Nat)=double.nearest false 1 0:=by decide +kernel
   have:=gP (s:=false) (t:=s) aY (Has.one (p:=0) oz oz) h';rw [jw,Bool.false_xor,Int.zero_add,←h1]at this;exact this
  rw [hm];exact⟨rfl,fun k9 u9=>C k9 (v8.trans u9)⟩
theorem aNe (h:Has double m p) (hn:-1022≤p+m.log2) (h':Has double m (p+e)) (he:-100000≤e∧e≤100000) (C:∀k',Up k k'→R k' (.float .f64 (double.nearest s m (p+e)))) :
 Cl k 234 #[.float .f64 (double.nearest s m p),.int .i64 e] R:=fun _ u0=>
 aUh (aZi h hn h' he fun _ u1=>⟨_,rfl,fun k2 u2=>C k2 (u0.trans (u1.trans u2))⟩)
end
theorem aCx {m n:Nat}(h:Len B64 m (n+1)):bl m=64*n+bl (wq m n):=by
 have hB:∀j,B64^j=2^(64*j):=fun j=>by rw [eB,←ze]
 have ht:wq m n≠0:=h.top aE oq;have hd:m/B64^n=wq m n:=by
  unfold wq wd;refine (oa ?_).symm;rw [qh (oo aE),ol,←ql];exact h.lt
 have hp:0<B64^n:=oo aE;have e1:=qi m (B64^n);have e2:=qf m hp;rw [hd]at e1
 have hu:bl m≤64*n+bl (wq m n):=bZ.2 (by
  have h1:=dR (wq m n);rw [oi,←hB];have:B64^n*(wq m n+1)≤B64^n*2^bl (wq m n):=qy _ h1;rw [zh,jk]at this
  omega)
 have hl:64*n+bl (wq m n)-1<bl m:=by
  refine vr fun hle=>?_;have h1:=bZ.1 hle;have h2:=dN ht;have h3:bl (wq m n)≠0:=fun e=>by have h3:=dR (wq m n);rw [e]at h3;simp at h3;omega
  have e3:64*n+bl (wq m n)-1=64*n+(bl (wq m n)-1):=oq
  rw [e3,oi,←hB]at h1;have:B64^n*2^(bl (wq m n)-1)≤B64^n*wq m n:=qy _ h2;exact absurd h1 (Nat.not_lt.2 (qg this (by generalize B64^n*wq m n=y at e1;generalize m % B64^n=z at e1;omega)))
 omega
section
variable {k:World}{A A':Option Addr}{n n' c c' a b:Nat}{R:World→Value→Prop}
theorem aXn (h:LimR k A n c a) (h':LimR k A' n' c' b) (hn:n≤17179869184) (hn':n'≤17179869184) (C:∀k',Up k k'→R k' (.int .i64 (dF a b))) :
 Cl k 191 #[.slice A n c,.slice A' n' c'] R:=
 after (fun k0 u=>aLw fun w hs=>(aXm ((h.up u).sees hs) ((h'.up u).sees hs) hn hn').mono fun e w' ⟨h1,m,h2⟩=>⟨h1,by rw [h2];exact bY (Below.refl _ _) m⟩) fun k' v u e=>e▸C k' u
theorem aUs {y:Nat}(hy:y<18446744073709551616) (C:∀k',Up k k'→R k' (.int .i64 (bl y))) :
 Cl k 297 #[.int .u64 y] R:=
 after (fun k0 u=>aLw fun w hs=>(aJi y w hy).mono fun e w' ⟨h1,h2⟩=>⟨h1,by rw [←h2];exact Below.refl _ _⟩) fun k' v u e=>e▸C k' u
theorem uD (h:LimR k A n c a) (hn:n≤100000000) (C:∀k',Up k k'→R k' (.int .i64 (bl a))) :
 Cl k 229 #[.slice A n c] R:=by
 intro k0 u0;replace h:=h.up u0;replace C:=fun k' u=>C k' (u0.trans u);refine aSr ⟨rfl,fun f=>?_,fun f=>⟨rfl,rfl,?_⟩⟩
 ·have f:n=0:=by simpa using f
  have ha:a=0:=by rw [h.zero_iff]at f;exact f
  subst ha;exact C
 have f:n≠0:=by simpa using f
 have hl:=h.len;obtain⟨g,o,rfl,hb,hw⟩:=RW.at_ h.lr (by rw [←h.len];omega);have h0:=hw (n-1) (by rw [←h.len];omega);have e1:wrap .i64 (((n:Nat):Int)-1)=((n-1:Nat):Int):=by rw [qk];omega
 rw [e1];refine⟨⟨g,o,rfl⟩,⟨oq,oq⟩,((wq a (n-1):Nat):Int),⟨rfl,fun j u hu=>?_⟩,aUs (aZ _ _) fun k2 u2=>⟨_,rfl,fun k3 u3=>?_⟩⟩
 ·cases j with
  | zero=>
   have e:u=.int .u64 ((wq a (n-1):Nat):Int):=by
    have h1:(#[Value.int .u64 ((wq a (n-1):Nat):Int)]:Array Value)[0]?=some u:=hu;simpa using h1.symm
   subst e;show Sy.cellAt _ _ _=_;unfold Sy.cellAt;have e2:o+(Int.toNat ((n-1:Nat):Int)*1+0+0)=o+(n-1):=by simp
   simp only [e2,h0];rfl
  | succ j=>
   have h1:(#[Value.int .u64 ((wq a (n-1):Nat):Int)]:Array Value)[j+1]?=some u:=hu;simp at h1
 ·have:=C k3 (u2.trans u3);have hw64:bl (wq a (n-1))≤64:=aYx (aZ _ _);have hlen:Len B64 a (n-1+1):=by
   rw [show n-1+1=n by omega,h.len];exact bE a
  have e3:wrap .i64 (wrap .i64 (64*((n-1:Nat):Int))+((bl (wq a (n-1)):Nat):Int))=((bl a:Nat):Int):=by
   rw [aCx hlen,qk,qk];omega
  rwa [e3]
def rI (a b:Nat) (e:Int):Nat:=FT.half (a*2^(-e).toNat) (b*2^e.toNat)
theorem aKz {e:Int}(h:LimR k A n c a) (h':LimR k A' n' c' b) (hb0:0<b) (hn:n≤1000000) (hn':n'≤1000000) (he:-1000000≤e∧e≤1000000)
 (C:∀k' B j d,Up k k'→LimR k' B j d (rI a b e)→j≤2000002→R k' (.slice B j d)):Cl k 231 #[.slice A n c,.slice A' n' c',.int .i64 e] R:=by
 intro k0 u0;replace h:=h.up u0;replace h':=h'.up u0;replace C:=fun k' B j d u=>C k' B j d (u0.trans u);have e1:(if decide (e<0)=true then 0 else e)=((e.toNat:Nat):Int):=by
  by_cases g:e<0
  ·rw [og (decide_eq_true g)];omega
  ·rw [oh (by simp [g])];omega
 have e2:(if decide (wrap .i64 (0-e)<0)=true then 0 else wrap .i64 (0-e))=(((-e).toNat:Nat):Int):=by
  have ew:wrap .i64 (0-e)=-e:=by rw [qk];omega
  rw [ew]
  by_cases g:-e<0
  ·rw [og (decide_eq_true g)];omega
  ·rw [oh (by simp only [decide_eq_true_eq];exact g)];omega
 unfold rI FT.half at C;refine aXe ?_;rw [e1,e2];refine iQ h' oq oq fun k1 B1 j1 d1 u1 w1 l1=>⟨_,_,_,rfl,?_⟩;refine iQ (h.up u1) oq oq fun k3 B3 j3 d3 u3 w3 l3=>⟨_,_,_,rfl,?_⟩;have hpos:0<b*2^e.toNat:=jn hb0 (ot _);generalize a*2^(-e).toNat=x at *
 generalize b*2^e.toNat=y at *
 refine cW w3 (w1.up u3) hpos oq oq fun k5 B5 j5 d5 B6 j6 d6 u5 w5 w6 l5 l6=>⟨_,_,_,_,_,_,rfl,?_⟩;refine iQ (s:=1) w6 oq oq fun k7 B7 j7 d7 u7 w7 l7=>⟨_,_,_,rfl,?_⟩;refine aXn w7 ((w1.up u3).up (u5.trans u7)) oq oq fun k9 u9=>⟨_,rfl,?_⟩;rw [wv,ol (x % y) 2]at *
 have v9:=u1.trans (u3.trans (u5.trans (u7.trans u9)));have w5':=w5.up (u7.trans u9);refine⟨fun f=>?_,fun f=>⟨fun f2=>?_,fun f2=>?_⟩⟩
 ·have f:=ow f;have hlt:y<2*(x % y):=by
   unfold dF at f;split at f
   ·omega
   ·split at f <;> omega
  refine iT oz fun k11 B11 j11 d11 u11 w11 l11=>⟨_,_,_,rfl,?_⟩;refine yC (L:=2000001) (w5'.up u11) w11 oq oq oz fun k13 B13 j13 d13 u13 w13 l13=>⟨_,_,_,rfl,fun k14 u14=>C k14 _ _ _ (v9.trans (u11.trans (u13.trans u14))) ?_ oq⟩;have:=w13.up u14
  rwa [show x/y+1=x/y+(decide (y<2*(x % y)) || (y == 2*(x % y) && x/y % 2 == 1)).toNat by rw [decide_eq_true hlt];rfl]at this
 ·have f:=ov f;have f2:dF (2*(x % y)) y=0:=by simpa using f2
  have heq:y=2*(x % y):=by
   unfold dF at f2;split at f2
   ·omega
   ·split at f2
    ·omega
    ·omega
  refine bBa w5' fun k16 u16=>⟨_,rfl,fun f3=>?_,fun f3 k22 u22=>C k22 _ _ _ (v9.trans (u16.trans u22)) ?_ oq⟩
  ·have f3:x/y % 2=1:=by
    have:=eq_of_beq f3;omega
   refine iT oz fun k18 B18 j18 d18 u18 w18 l18=>⟨_,_,_,rfl,?_⟩;refine yC (L:=2000001) (w5'.up (u16.trans u18)) w18 oq oq oz fun k20 B20 j20 d20 u20 w20 l20=>⟨_,_,_,rfl,fun k21 u21=>C k21 _ _ _ (v9.trans (u16.trans (u18.trans (u20.trans u21)))) ?_ oq⟩;have:=w20.up u21
   rwa [show x/y+1=x/y+(decide (y<2*(x % y)) || (y == 2*(x % y) && x/y % 2 == 1)).toNat by rw [decide_eq_false oq,beq_iff_eq.2 heq,beq_iff_eq.2 f3];rfl]at this
  ·have f3:¬ x/y % 2=1:=fun e=>by rw [e]at f3;cases f3
   have:=w5'.up (u16.trans u22)
   rwa [show x/y=x/y+(decide (y<2*(x % y)) || (y == 2*(x % y) && x/y % 2 == 1)).toNat by rw [decide_eq_false oq,beq_eq_false_iff_ne.2 f3];simp]at this
 ·intro u23;have f:=ov f;have f2:dF (2*(x % y)) y≠0:=by simpa using f2
  have hlt:2*(x % y)<y:=by
   unfold dF at f f2;split at f
   ·assumption
   ·rename_i g1;rw [oh g1]at f2;split at f
    ·rename_i g2;rw [og g2]at f2;exact absurd rfl f2
    ·omega
  intro v23;refine C u23 _ _ _ (v9.trans v23) ?_ oq;have:=w5'.up v23
  rwa [show x/y=x/y+(decide (y<2*(x % y)) || (y == 2*(x % y) && x/y % 2 == 1)).toNat by rw [decide_eq_false oq,beq_eq_false_iff_ne.2 oq];simp]at this
theorem aCb {s:Bool}{m:Nat}{p:Int}{D D':Option Addr}{l l' d d':Nat}(C:∀k',Up k k'→R k' (.float .f64 (double.nearest s m p))) :
 Cl k 232 #[.agg #[.bool s,.slice D l d,.slice D' l' d'],.float .f64 (double.nearest false m p)] R:=by
 intro k0 u0;refine aXg ⟨fun f k1 u1=>?_,fun f k1 u1=>?_⟩
 ·have:=C k1 (u0.trans u1);subst f;have e:Op.negFloat .f64 (double.nearest false m p)=double.nearest true m p:=FT.aAx
  rwa [e]
 ·have:=C k1 (u0.trans u1);subst f;exact this
end
def iD (a d bits:Nat) (least:Int):Int:=max ((bl a:Int)-bl d-bits) least
def kW (a d:Nat) (e:Int):Nat:=(a*2^(-e).toNat) / (d*2^e.toNat)
def fX (a d bits:Nat) (least:Int):Int:=if bits<bl (kW a d (iD a d bits least)) then iD a d bits least+1 else iD a d bits least
def kD (a d bits:Nat) (least:Int):Nat:=rI a d (fX a d bits least)
def fF (s:Bool) (a d bits:Nat) (least beyond:Int):Nat:=
 if a=0 then 0 else if beyond<bl (kD a d bits least)+fX a d bits least then double.nearest s 1 5000
 else if kD a d bits least=0 then 0 else double.nearest s (kD a d bits least) (fX a d bits least)
theorem wO {a d bits:Nat}{e:Int}(hd:d≠0) (h:(bl a:Int)-bl d-bits≤e):kW a d e<2^(bits+1):=by
 unfold kW;refine Nat.div_lt_of_lt_mul ?_;have h1:=dR a;have h2:=dN hd;have hb:1≤bl d:=by
  rcases jd (bl d) with g|g
  ·have:=dR d;rw [g]at this;omega
  ·exact g
 have g1:a*2^(-e).toNat<2^(bl a+(-e).toNat):=by
  rw [oi];exact jx h1 (ot _)
 have g2:2^(bl d-1+e.toNat+(bits+1))≤d*2^e.toNat*2^(bits+1):=by
  rw [oi,oi];exact od _ (od _ h2)
 exact ob g1 (qg (om oz oq) g2)
theorem aQc {a d:Nat}{e:Int}:kW a d (e+1)=kW a d e/2:=by
 unfold kW
 by_cases c:0≤e
 ·rw [show (-(e+1)).toNat=0 by omega,show (-e).toNat=0 by omega,show (e+1).toNat=e.toNat+1 by omega,jq,ql,qd]
 ·rw [show (e+1).toNat=0 by omega,show e.toNat=0 by omega,show (-e).toNat=(-(e+1)).toNat+1 by omega,jq,ql,zf,jk,←qd,yk _ _ oz]
theorem nT (x y:Nat):FT.half x y≤x/y+1:=by
 unfold FT.half;have:∀b:Bool,b.toNat≤1:=fun b=>by cases b <;> decide
 exact Nat.add_le_add_left (this _) _
theorem aDp {a d bits:Nat}{least:Int}(hd:d≠0):kD a d bits least≤2^bits:=by
 have hf:(bl a:Int)-bl d-bits≤iD a d bits least:=Int.le_max_left _ _;have hq:=wO hd hf;have key:kW a d (fX a d bits least)<2^bits:=by
  unfold fX;split
  ·rw [aQc];rw [ql]at hq;omega
  ·rename_i g;exact bZ.1 oq
 have:=nT (a*2^(-(fX a d bits least)).toNat) (d*2^(fX a d bits least).toNat);unfold kD rI;unfold kW at key;omega
theorem two53 {s:Bool}{e:Int}:double.nearest s (2^53) e=double.nearest s 1 (53+e):=by
 have:=FT.cN (f:=double) (neg:=s) (m:=1) (k:=53) (p:=53+e) oz;rw [jw,show (53+e-((53:Nat):Int))=e by omega]at this;exact this
section
variable {k:World}{A D:Option Addr}{n c d e:Nat}{R:World→Value→Prop}{cs:Array Value}{q:Rat}{K:Nat}
theorem aNz {m:Nat}{e:Int}(h0:m≠0) (hm:m≤2^53) (h1:-1074≤e) (h2:(bl m:Int)+e≤1024) (C:∀k',Up k k'→R k' (.float .f64 (double.nearest false m e))) :
 Cl k 234 #[.float .f64 (FloatKind.nearest .f64 (m:Int)),.int .i64 e] R:=by
 have e0:FloatKind.nearest .f64 (m:Int)=double.nearest false m 0:=by
  unfold FloatKind.nearest FloatKind.encode Format.write;simp only [];rw [show decide ((m:Int)<0)=false from decide_eq_false oq,zk];rfl
 have eb:bl m=m.log2+1:=by unfold bl;rw [oh h0]
 rw [e0];rcases zy m (2^53) with g|g
 ·have hl:m.log2<53:=(kf h0).2 g;have a1:FT.Has double m 0:=⟨h0,g,oz,by show (0:Int)+m.log2-52+1074+3≤2048;omega⟩;have a2:FT.Has double m (0+e):=⟨h0,g,by show (-1074:Int)≤_;omega,by show (0+e:Int)+m.log2-52+1074+3≤2048;omega⟩;have:=aNe (k:=k) (R:=R) (s:=false) (e:=e) a1 oq a2 oq;rw [Int.zero_add]at this;exact this C
 ·obtain rfl:m=2^53:=vd hm g;have el:(2^53:Nat).log2=53:=Nat.log2_two_pow;have a1:FT.Has double 1 53:=FT.Has.one oz oz;have a2:FT.Has double 1 (53+e):=FT.Has.one oq (by rw [eb,el]at h2;omega);have h3:(1:Nat).log2=0:=rfl;have:=aNe (k:=k) (R:=R) (s:=false) (e:=e) a1 (by rw [h3];decide) a2 (by rw [eb,el]at h2;omega);rw [two53]at C ⊢;exact this C
theorem wF {s:Bool}{a b bits:Nat}{least beyond:Int}{A4 A5 A6:Option Addr}{l4 l5 l6 c4 c5 c6:Nat}(h:LimR k A4 l4 c4 a) (h':LimR k A6 l6 c6 b) (ha:a≠0) (hb0:0<b) (hn:l4≤100000) (hn':l6≤100000)
 (hbits:bits≤53) (hleast:-1074≤least) (hbey:beyond≤1024) {e:Int}(he:e=fX a b bits least) (he2:e≤10000000)
 (he3:-1000000≤e∧e≤1000000)
 (C:∀k',Up k k'→R k' (.float .f64 (fF s a b bits least beyond))) :
 (Cl k 231 #[Value.slice A4 l4 c4,Value.slice A6 l6 c6,Value.int .i64 e] fun k31 r30=>∃A14 l14 c14,some (Value.slice A14 l14 c14)=some r30∧
 Cl k31 229 #[Value.slice A14 l14 c14] fun k33 r32=>∃n15,some (Value.int .i64 n15)=some r32∧
 ((decide (((wrap .i64 (n15+e)):Int) > beyond))=true→
 (Cl k33 233 #[Value.int .i64 1] fun k35 r34=>∃n16:Nat,some (Value.float .f64 n16)=some r34∧
 Cl k35 232 #[Value.agg #[Value.bool s,Value.slice A4 l4 c4,Value.slice A5 l5 c5],Value.float .f64 n16] fun k37 r36=>∃n17:Nat,some (Value.float .f64 n17)=some r36∧
 ∀k38,Up k37 k38→R k38 (Value.float .f64 n17)))∧
 ((decide (((wrap .i64 (n15+e)):Int) > beyond))=false→
 (true=true∧(((((l14:Nat):Int) == 0)=true→
 (∀k39,Up k33 k39→R k39 (Value.float .f64 0)))∧
 ((((l14:Nat):Int) == 0)=false→
 ((∃b o,A14=some ⟨b,o,none⟩)∧((0:Int)≤0∧(0:Int)<(l14:Nat))∧
 ∃n16,Sy.ReadAt k33.cell? A14 (Int.toNat 0*1+0) 1 (Value.int .u64 n16)∧
 Cl k33 234 #[Value.float .f64 (FloatKind.nearest .f64 n16),Value.int .i64 e] fun k41 r40=>∃n17:Nat,some (Value.float .f64 n17)=some r40∧
 Cl k41 232 #[Value.agg #[Value.bool s,Value.slice A4 l4 c4,Value.slice A5 l5 c5],Value.float .f64 n17] fun k43 r42=>∃n18:Nat,some (Value.float .f64 n18)=some r42∧
 ∀k44,Up k43 k44→R k44 (Value.float .f64 n18))))))):=by
  intro k30 u30;have hlow:-1074≤e:=by
   have h1:least≤iD a b bits least:=yc _ _;rw [he];unfold fX;split <;> omega
  have hm:=aDp (a:=a) (bits:=bits) (least:=least) (show b≠0 by omega);have hm53:kD a b bits least≤2^53:=qg hm (om oz hbits);unfold fF at C;rw [oh ha,←he]at C;have em:rI a b e=kD a b bits least:=by rw [he];rfl
  refine aKz (h.up u30) (h'.up u30) hb0 oq oq he3 (fun k31 B j d u31 w31 l31=>⟨_,_,_,rfl,?_⟩) k30 (Up.refl _);rw [em]at w31;generalize kD a b bits least=m at *
  have hbl:bl m≤54:=bZ.2 (qe hm53 (zn oz oz));refine uD w31 oq fun k33 u33=>⟨_,rfl,fun f=>?_,fun f=>⟨rfl,fun f2 k39 u39=>?_,fun f2=>?_⟩⟩
  all_goals have ew:wrap .i64 ((bl m:Nat)+e)=(bl m:Nat)+e:=by rw [qk];omega
  all_goals rw [ew]at f
  ·have f:=ow f;rw [og oq]at C;refine fun k34 u34=>xL ⟨fun _ k35 u35=>⟨_,rfl,?_⟩,fun g=>absurd g oz⟩;have e1:(9218868437227405312:Nat)=double.nearest false 1 5000:=by decide +kernel
   rw [e1];exact aCb fun k37 u37=>⟨_,rfl,fun k38 u38=>C k38 (u30.trans (u31.trans (u33.trans (u34.trans (u35.trans (u37.trans u38))))))⟩
  ·have f:=ov f;have f2:j=0:=by simpa using f2
   have hm0:m=0:=by rw [w31.zero_iff]at f2;exact f2
   rw [oh oq,og hm0]at C;exact C k39 (u30.trans (u31.trans (u33.trans u39)))
  ·have f:=ov f;have f2:j≠0:=by simpa using f2
   have hm0:m≠0:=fun e=>f2 (by rw [w31.zero_iff];exact e);rw [oh oq,oh hm0]at C;have w33:=w31.up u33;obtain⟨g,o,rfl,hb,hw⟩:=RW.at_ w33.lr (by rw [←w33.len];omega);have h0:=hw 0 (by rw [←w33.len];omega);have hwq:wq m 0=m:=by
    unfold wq wd;rw [zf,xa];exact oa (qe hm53 oz)
   rw [hwq]at h0;refine⟨⟨g,o,rfl⟩,⟨oz,oq⟩,(m:Int),⟨rfl,fun i u hu=>?_⟩,?_⟩
   ·cases i with
    | zero=>
     have e:u=.int .u64 (m:Int):=by
      have h1:(#[Value.int .u64 (m:Int)]:Array Value)[0]?=some u:=hu;simpa using h1.symm
     subst e;show Sy.cellAt _ _ _=_;unfold Sy.cellAt;have e2:o+(Int.toNat 0*1+0+0)=o+0:=by simp
     simp only [e2,h0];rfl
    | succ i=>
     have h1:(#[Value.int .u64 (m:Int)]:Array Value)[i+1]?=some u:=hu;simp at h1
   ·refine aNz hm0 hm53 hlow oq fun k41 u41=>⟨_,rfl,?_⟩;exact aCb fun k43 u43=>⟨_,rfl,fun k44 u44=>C k44 (u30.trans (u31.trans (u33.trans (u41.trans (u43.trans u44)))))⟩
theorem zF {bits:Nat}{least beyond:Int}(h:RatV k cs q K) (hK:K≤10000) (hbits:bits≤53) (hleast:-1074≤least) (hl0:least≤1000) (hbey:beyond≤1024)
 (C:∀k',Up k k'→R k' (.float .f64 (fF (decide (q.num<0)) q.num.natAbs q.den bits least beyond))) :
 Cl k 145 #[.agg #[.int .i64 bits,.int .i64 least,.int .i64 beyond],.agg cs] R:=by
 intro k0 u0;replace h:=h.up u0;replace C:=fun k' u=>C k' (u0.trans u);obtain⟨g,A,n,c,D,d,e,rfl,hr,hn,hd⟩:=h;have hnum:=hr.num.lim;have hneg:=hr.num.neg;rw [←hneg]at C;refine aSp (aV (L:=10000) hr.den q.den_pos oq oz oz fun k1 B j d1 u1 w1 l1=>⟨_,_,_,rfl,rfl,fun f k2 u2=>?_,fun f=>?_⟩)
 ·have f:n=0:=by simpa using f
  have ha:q.num.natAbs=0:=by rw [hnum.zero_iff]at f;exact f
  have:=C k2 (u1.trans u2);unfold fF at this
  rwa [og ha]at this
 have f:n≠0:=by simpa using f
 have ha:q.num.natAbs≠0:=fun e=>f (by rw [hnum.zero_iff];exact e);have hd0:q.den≠0:=q.den_nz;generalize q.num.natAbs=a at *
 generalize q.den=b at *
 have ba:∀Z,n≤Z→bl a≤64*Z:=fun Z hz=>bZ.2 (by
  have:=(bE a).lt;rw [eB,←ze]at this;refine ob this (om oz (qy _ ?_));rw [←hnum.len]
  exact hz)
 replace ba:=ba 10000 oq
 have bb:∀Z,j≤Z→bl b≤64*Z:=fun Z hz=>bZ.2 (by
  have:=(bE b).lt;rw [eB,←ze]at this;refine ob this (om oz (qy _ ?_));rw [←w1.len]
  exact hz)
 replace bb:=bb 10000 oq;refine uD (hnum.up u1) oq fun k4 u4=>⟨_,rfl,?_⟩;refine uD (w1.up u4) oq fun k6 u6=>⟨_,rfl,?_⟩;have eE:(if (decide (((wrap .i64 ((wrap .i64 (((bl a:Nat):Int)-((bl b:Nat):Int)))-(bits:Int))):Int)<least))=true then least else (wrap .i64 ((wrap .i64 (((bl a:Nat):Int)-((bl b:Nat):Int)))-(bits:Int))))=iD a b bits least:=by
  have e1:wrap .i64 ((wrap .i64 (((bl a:Nat):Int)-((bl b:Nat):Int)))-(bits:Int))=(bl a:Int)-bl b-bits:=by
   rw [qk,qk];omega
  rw [e1];unfold iD;split
  ·rename_i g;have:=ow g;omega
  ·rename_i g;have:¬ ((bl a:Int)-bl b-bits<least):=fun h=>g (decide_eq_true h);omega
 try dsimp only
 rw [eE];have hE:-1074≤iD a b bits least∧iD a b bits least≤640000:=by
  unfold iD;omega
 have hlst:fX a b bits least=if bits<bl (kW a b (iD a b bits least)) then iD a b bits least+1 else iD a b bits least:=rfl;have hquo:kW a b (iD a b bits least)=(a*2^(-iD a b bits least).toNat) / (b*2^(iD a b bits least).toNat):=rfl;generalize iD a b bits least=E at *
 have e1:(if decide (E<0)=true then 0 else E)=((E.toNat:Nat):Int):=by
  by_cases g:E<0
  ·rw [og (decide_eq_true g)];omega
  ·rw [oh (by simp [g])];omega
 have e2:(if decide (wrap .i64 (0-E)<0)=true then 0 else wrap .i64 (0-E))=(((-E).toNat:Nat):Int):=by
  have ew:wrap .i64 (0-E)=-E:=by rw [qk];omega
  rw [ew]
  by_cases g:-E<0
  ·rw [og (decide_eq_true g)];omega
  ·rw [oh (by simp only [decide_eq_true_eq];exact g)];omega
 have e3:wrap .i64 (E+1)=E+1:=by rw [qk];omega
 rw [e1,e2,e3];have v6:=u1.trans (u4.trans u6);refine iQ (hnum.up v6) oq oq fun k8 B8 j8 d8 u8 w8 l8=>⟨_,_,_,rfl,?_⟩;refine iQ ((w1.up (u4.trans u6)).up u8) oq oq fun k10 B10 j10 d10 u10 w10 l10=>⟨_,_,_,rfl,?_⟩;refine cW (w8.up u10) w10 (jn oq (ot _)) oq oq fun k12 B12 j12 d12 B13 j13 d13 u12 w12 w13 l12 l13=>⟨_,_,_,_,_,_,rfl,?_⟩;rw [←hquo]at w12;have v12:=v6.trans (u8.trans (u10.trans u12));refine uD w12 oq fun k14 u14=>⟨_,rfl,fun f=>?_,fun f=>?_⟩
 ·have f:=ow f;rw [og oq]at hlst;exact wF ((hnum.up v12).up u14) (w1.up (u4.trans (u6.trans (u8.trans (u10.trans (u12.trans u14)))))) ha oq oq oq hbits hleast hbey hlst.symm oq oq fun k' u=>C k' (v12.trans (u14.trans u))
 ·have f:=ov f;rw [oh oq]at hlst;exact wF ((hnum.up v12).up u14) (w1.up (u4.trans (u6.trans (u8.trans (u10.trans (u12.trans u14)))))) ha oq oq oq hbits hleast hbey hlst.symm oq oq fun k' u=>C k' (v12.trans (u14.trans u))
end
def below2 (a d:Nat) (e:Int):Prop:=a*2^(-e).toNat<d*2^e.toNat
instance (a d:Nat) (e:Int):Decidable (below2 a d e):=by unfold below2;exact inferInstance
theorem aCw {a d:Nat}{e:Int}(h:below2 a d e) (_hd:d≠0):below2 a d (e+1):=by
 unfold below2 at *
 by_cases c:0≤e
 ·rw [show (-(e+1)).toNat=0 by omega,show (e+1).toNat=e.toNat+1 by omega,ql,←qd];rw [show (-e).toNat=0 by omega]at h;omega
 ·rw [show (e+1).toNat=0 by omega];rw [show e.toNat=0 by omega,show (-e).toNat=(-(e+1)).toNat+1 by omega,ql,←qd]at h;omega
theorem vC {a d:Nat}{e:Int}(hd:d≠0) (h:below2 a d e):∀n:Nat,below2 a d (e+n)
 | 0=>by simpa using h
 | n+1=>by
  have:=aCw (vC hd h n) hd
  rwa [show e+(n:Int)+1=e+((n+1:Nat):Int) by omega]at this
theorem kH {a d:Nat}{e f:Int}(hd:d≠0) (h:below2 a d e) (hf:e≤f):below2 a d f:=by
 have:=vC hd h (f-e).toNat
 rwa [show e+((f-e).toNat:Int)=f by omega]at this
theorem jC {a d bits:Nat}{f:Int}(hd:d≠0):bl (kW a d f)≤bits↔below2 a d (f+bits):=by
 rw [bZ];unfold kW below2;rw [qh (jn oq (ot _))]
 by_cases c:0≤f
 ·rw [show (-f).toNat=0 by omega,show (-(f+bits)).toNat=0 by omega,show (f+bits).toNat=f.toNat+bits by omega,oi];rw [show 2^bits*(d*2^f.toNat)=d*(2^f.toNat*2^bits) by ac_rfl]
 ·rw [show f.toNat=0 by omega,zf,jk]
  by_cases g:0≤f+bits
  ·rw [show (-(f+bits)).toNat=0 by omega,zf,jk];have e:2^bits*d=d*2^(f+bits).toNat*2^(-f).toNat:=by
    rw [qd,←oi,show (f+bits).toNat+(-f).toNat=bits by omega,ol]
   rw [e];exact Nat.mul_lt_mul_right (ot _)
  ·rw [show (f+bits).toNat=0 by omega,zf,jk];have e:a*2^(-f).toNat=a*2^(-(f+bits)).toNat*2^bits:=by
    rw [qd,←oi,show (-(f+bits)).toNat+bits=(-f).toNat by omega]
   rw [e,ol (2^bits) d];exact Nat.mul_lt_mul_right (ot _)
theorem sJ {a d:Nat}(hd:d≠0):below2 a d ((bl a:Int)-bl d+1):=by
 have:=(jC (a:=a) (bits:=1) (f:=(bl a:Int)-bl d) hd).1 (bZ.2 (wO (bits:=0) hd oq));exact this
theorem aDo {a d bits:Nat}{least:Int}(hd:d≠0):fX a d bits least=max ((if below2 a d ((bl a:Int)-bl d) then (bl a:Int)-bl d-1 else (bl a:Int)-bl d)-bits+1) least:=by
 have hn:=sJ (a:=a) hd;unfold fX;have hq:=jC (a:=a) (bits:=bits) (f:=iD a d bits least) hd;have hf:iD a d bits least=max ((bl a:Int)-bl d-bits) least:=rfl;generalize iD a d bits least=f at *
 generalize (bl a:Int)-bl d=e0 at *
 by_cases c:below2 a d e0
 ·rw [og c];have:below2 a d (f+bits):=kH hd c oq;have:=hq.2 this;rw [oh oq];omega
 ·rw [oh c]
  by_cases g:least≤e0-bits
  ·have hfe:f=e0-bits:=oq
   have:¬ below2 a d (f+bits):=by rw [hfe,show e0-(bits:Int)+bits=e0 by omega];exact c
   have:¬ bl (kW a d f)≤bits:=fun h=>this (hq.1 h);rw [og oq];omega
  ·have:below2 a d (f+bits):=kH hd hn oq;have:=hq.2 this;rw [oh oq];omega
def gI (a d:Nat):Int:=if below2 a d ((bl a:Int)-bl d) then (bl a:Int)-bl d-1 else (bl a:Int)-bl d
theorem wG {a d:Nat}(ha:a≠0) (_hd:d≠0):¬ below2 a d (gI a d):=by
 unfold gI;split
 ·have hba:1≤bl a:=by unfold bl;rw [oh ha];omega
  have h1:=dN ha;have h2:=dR d;unfold below2;generalize he:(bl a:Int)-bl d-1=e;have g1:2^(bl a-1+(-e).toNat)≤a*2^(-e).toNat:=by
   rw [oi];exact od _ h1
  have g2:d*2^e.toNat<2^(bl d+e.toNat):=by
   rw [oi];exact jx h2 (ot _)
  have g3:bl d+e.toNat=bl a-1+(-e).toNat:=oq
  rw [g3]at g2;omega
 ·assumption
theorem rP (x y:Nat):x/y≤FT.half x y:=by unfold FT.half;exact Nat.le_add_right _ _
theorem aUw {a d bits:Nat}{low:Int}(ha:a≠0) (hd:d≠0) (hb:1≤bits) (hl:low≤gI a d-bits+1):fX a d bits low=gI a d-bits+1∧bits≤bl (kD a d bits low):=by
 have h0:=wG ha hd;have hl1:fX a d bits low=max (gI a d-bits+1) low:=aDo hd;have hl2:fX a d bits low=gI a d-bits+1:=oq
 refine⟨hl2,?_⟩;have hq:=jC (a:=a) (d:=d) (bits:=bits-1) (f:=gI a d-bits+1) hd;rw [show gI a d-(bits:Int)+1+((bits-1:Nat):Int)=gI a d by omega]at hq;have h1:¬ bl (kW a d (gI a d-bits+1))≤bits-1:=fun h=>h0 (hq.1 h);unfold kD rI;rw [hl2];have h2:=rP (a*2^(-(gI a d-bits+1)).toNat) (d*2^(gI a d-bits+1).toNat);have h3:=aTt h2;unfold kW at h1;omega
theorem aPg {a d bits:Nat}{low top:Int}(ha:a≠0) (hd:d≠0) (hb:1≤bits) (hl:low≤top-bits+1) (h:top<gI a d):top+1<bl (kD a d bits low)+fX a d bits low:=by
 obtain⟨h1,h2⟩:=aUw ha hd hb (low:=low) oq;omega
namespace FT
theorem bCk (k:FloatKind) (x:Nat):FloatKind.decode k x=k.format.read x:=rfl
theorem zY {k k':FloatKind}{s:Bool}{m:Nat}{p:Int}(hk:k≠k') (g:Good k.format) (g':Good k'.format) (h:Has k.format m p) (h':Has k'.format m p) :
 Sy.f2f k k' (k.format.nearest s m p)=k'.format.nearest s m p∧Sy.f2fOk k k' (k.format.nearest s m p)=true:=by
 have e:FloatKind.decode k (k.format.nearest s m p)=.number s (m*2^(p-last k.format m p).toNat) (last k.format m p):=h.read g;have e2:FloatKind.encode k' (.number s (m*2^(p-last k.format m p).toNat) (last k.format m p))=k'.format.nearest s m p:=by
  show k'.format.nearest s _ _=_;have:=h.last_le;generalize last k.format m p=i at *
  rw [show i=p-((p-i).toNat:Nat) by omega];rw [show (p-(p-(((p-i).toNat:Nat):Int))).toNat=(p-i).toNat by omega];exact cN h.ne
 unfold Sy.f2f Sy.f2fOk;rw [e,oh hk,e2];refine⟨rfl,?_⟩;simp only [];rw [e2,bCk,h'.read g'];simp [Datum.isInfinity]
end FT
open FT
theorem nU {m:Nat}{e:Int}(h0:m≠0) (hm:m<2^53) (h1:-1074≤e) (h2:(bl m:Int)+e≤1024):Has double m e:=by
 have eb:bl m=m.log2+1:=by unfold bl;rw [oh h0]
 exact⟨h0,hm,h1,by show e+m.log2-52+1074+3≤2048;omega⟩
theorem vS {m:Nat}{e:Int}(h0:m≠0) (hm:m<2^24) (h1:-149≤e) (h2:(bl m:Int)+e≤128):Has single m e:=by
 have eb:bl m=m.log2+1:=by unfold bl;rw [oh h0]
 exact⟨h0,hm,h1,by show e+m.log2-23+149+3≤256;omega⟩
theorem bCt {f:Ieee.Format}{s:Bool}{e:Int}(k:Nat):f.nearest s (2^k) e=f.nearest s 1 (k+e):=by
 have:=FT.cN (f:=f) (neg:=s) (m:=1) (k:=k) (p:=k+e) oz;rw [jw,show ((k:Int)+e-(k:Nat))=e by omega]at this;exact this
theorem aRb {s:Bool}{m:Nat}{e:Int}(h0:m≠0) (hm:m≤2^24) (h1:-149≤e) (h2:(bl m:Int)+e≤128) :
 Sy.f2fOk .f64 .f32 (double.nearest s m e)=true∧Sy.f2fOk .f32 .f64 (Sy.f2f .f64 .f32 (double.nearest s m e))=true:=by
 have key:∀m e,Has double m e→Has single m e→Sy.f2fOk .f64 .f32 (double.nearest s m e)=true∧Sy.f2fOk .f32 .f64 (Sy.f2f .f64 .f32 (double.nearest s m e))=true:=fun m e a b=>by
  obtain⟨c1,c2⟩:=zY (k:=.f64) (k':=.f32) (s:=s) oz aY pY a b;obtain⟨c3,c4⟩:=zY (k:=.f32) (k':=.f64) (s:=s) oz pY aY b a
  exact⟨c2,by
   have:Sy.f2f .f64 .f32 (double.nearest s m e)=single.nearest s m e:=c1;rw [this]
   exact c4⟩
 rcases zy m (2^24) with g|g
 ·exact key m e (nU h0 (xc g (zn oz oz)) oq oq) (vS h0 g h1 h2)
 ·obtain rfl:m=2^24:=vd hm g;have el:bl (2^24)=25:=by decide +kernel
  rw [bCt];rw [el]at h2;have b1:bl 1=1:=by decide +kernel
  exact key 1 _ (nU oz oz oq (by rw [b1];omega)) (vS oz oz oq (by rw [b1];omega))
theorem wC {s:Bool}{a d:Nat}(hd:d≠0):Sy.f2fOk .f64 .f32 (fF s a d 24 (-149) 128)=true∧Sy.f2fOk .f32 .f64 (Sy.f2f .f64 .f32 (fF s a d 24 (-149) 128))=true:=by
 have z:Sy.f2fOk .f64 .f32 0=true∧Sy.f2fOk .f32 .f64 (Sy.f2f .f64 .f32 0)=true:=by decide +kernel
 have i:∀s,Sy.f2fOk .f64 .f32 (double.nearest s 1 5000)=true∧Sy.f2fOk .f32 .f64 (Sy.f2f .f64 .f32 (double.nearest s 1 5000))=true:=by decide +kernel
 unfold fF;split
 ·exact z
 ·split
  ·exact i s
  ·split
   ·exact z
   ·rename_i h1 h2 h3;have hlow:-149≤fX a d 24 (-149):=by
     have h1:-149≤iD a d 24 (-149):=yc _ _;unfold fX;split <;> omega
    exact aRb h3 (aDp hd) hlow oq
section
variable {k:World}{R:World→Value→Prop}{cs:Array Value}{q:Rat}{K:Nat}
end
end Go.Proofs.YtifcjpacobpdmaaGreat

namespace Go.Proofs.YtifcjpacobpdmaaGreat.W32
open Go.RowKit Num
open Sy (Up Sees CallsG Seg)
section
variable {k k':World}{cs cs':Array Value}{R:World→Value→Prop}{x y q q':Rat}{K L:Nat}{b:Bool}{A A':Option Addr}{l c l' c':Nat}
theorem QV.mk1 (h:QN k b A l c A' l' c' q) (h1:l≤K) (h2:l'≤K):QV k #[.bool b,.slice A l c,.slice A' l' c'] q K:=⟨b,A,l,c,A',l',c',rfl,h,h1,h2⟩
theorem aYz (hx:QV k cs x K) (hy:QV k cs' y L) (hK1:1≤K) (hL1:1≤L) (hK:K+L≤10000000000) (C:∀k' ds,Up k k'→QV k' ds (x/y) (K+L)→R k' (.agg ds)) :
 Cl k 91 #[.agg cs,.agg cs'] R:=
 fun _ u0=>aZx hx.seg hy.seg (bBh (hx.up u0) (hy.up u0) hK1 hL1 hK fun _k1 ds u1 hD=>⟨ds,hD.seg,_,rfl,fun k2 u2=>C k2 ds ((u0.trans u1).trans u2) (hD.up u2)⟩)
theorem aGj (hx:QV k cs x K) (hK1:1≤K) (hK:K≤1000000) (C:∀k' ds,Up k k'→QV k' ds ((flr x:Int):Rat) (K+1)→R k' (.agg ds)) :
 Cl k 295 #[.agg cs] R:=by
 intro k0 u0;obtain⟨b0,A1,l1,c1,A2,l2,c2,rfl,hx,e1,e2⟩:=hx.up u0;replace C:=fun k' ds u=>C k' ds (u0.trans u);have hd:=x.den_pos;have hs:=hx.s;have dl:=hx.d.2;refine aKx (aV hx fun k1 A3 c3 u1 hD=>⟨A3,_,c3,rfl,?_⟩);refine gZ (hx.n.up u1) hD oq oq hd fun k3 A4 c4 A5 c5 u3 hq hr=>⟨A4,_,c4,A5,_,c5,rfl,fun hneg=>⟨rfl,fun hrem=>?_,fun hrem=>?_⟩,fun hneg=>?_⟩
 ·have hz:x.num<0:=ow (hs.symm.trans hneg);have hr0:x.num.natAbs % x.den≠0:=fun e=>by
   have:=ow hrem;rw [e,nw_zero]at this;omega
  have hq1:=aJ (jo x.num.natAbs x.den);have hn:=hx.n.2;intro p k4 u4 hp k5 u5;refine aRh (k:=k5) (K:=K) (hq.1.up (u4.trans u5)) ((eG hp).1.up u5) oq oq oq (fun k6 A7 c7 u6 hS hSl=>⟨A7,_,c7,rfl,?_⟩) k5 (Up.refl k5);intro p8 k7 u7 hp8 k8 u8;refine eR (k:=k8) (K:=K+1) ((hS.up u7).up u8) ((eG hp8).up u8) oz oq oq oq (q:=((flr x:Int):Rat)) ?_ (fun k9 b A l c A' l' c' u9 hQ f1 f2=>⟨_,_,_,_,_,_,_,rfl,fun k10 u10=>C k10 _ (((((((u1.trans u3).trans u4).trans u5).trans u6).trans u7).trans (u8.trans u9)).trans u10) (QV.mk1 (hQ.up u10) f1 f2)⟩) k8 (Up.refl k8);rw [hneg,aAi x.num hd hz hr0,Rat.mkRat_one];rfl
 ·have hr0:x.num.natAbs % x.den=0:=by
   have:=ov hrem;exact bB.1 oq
  have hq1:=aJ (jo x.num.natAbs x.den);have hn:=hx.n.2;intro p k4 u4 hp k5 u5;refine eR (k:=k5) (K:=K+1) ((hq.up u4).up u5) ((eG hp).up u5) oz oq oq oq (q:=((flr x:Int):Rat)) ?_ (fun k9 b A l c A' l' c' u9 hQ f1 f2=>⟨_,_,_,_,_,_,_,rfl,fun k10 u10=>C k10 _ ((((u1.trans u3).trans u4).trans (u5.trans u9)).trans u10) (QV.mk1 (hQ.up u10) f1 f2)⟩) k5 (Up.refl k5);rw [hs,pX x.num hd (.inr hr0),Rat.mkRat_one];rfl
 ·have hz:¬ x.num<0:=ov (hs.symm.trans hneg);have hq1:=aJ (jo x.num.natAbs x.den);have hn:=hx.n.2;intro p k4 u4 hp k5 u5;refine eR (k:=k5) (K:=K+1) ((hq.up u4).up u5) ((eG hp).up u5) oz oq oq oq (q:=((flr x:Int):Rat)) ?_ (fun k9 b A l c A' l' c' u9 hQ f1 f2=>⟨_,_,_,_,_,_,_,rfl,fun k10 u10=>C k10 _ ((((u1.trans u3).trans u4).trans (u5.trans u9)).trans u10) (QV.mk1 (hQ.up u10) f1 f2)⟩) k5 (Up.refl k5);rw [hs,pX x.num hd (.inl oq),Rat.mkRat_one];rfl
theorem aOv (s:Nat):nw (1*2^s)≤s+1:=by
 refine aF ?_;rw [jw,kF,←ze];exact zn oz oq
theorem aZt {n:Int}(h:(!decide ((n:Rat) / ((2:Int):Rat)=((flr ((n:Rat) / ((2:Int):Rat)):Int):Rat)))=true):n % 2=1:=by
 have h1:¬ ((n:Rat) / 2=(flr ((n:Rat) / 2):Rat)):=fun e=>by
  have e2:(n:Rat) / ((2:Int):Rat)=((flr ((n:Rat) / ((2:Int):Rat)):Int):Rat):=e;rw [decide_eq_true e2]at h;cases h
 rw [aBb]at h1;omega
theorem aUd {n:Int}(h:(!decide ((n:Rat) / ((2:Int):Rat)=((flr ((n:Rat) / ((2:Int):Rat)):Int):Rat)))=false):¬ n % 2=1:=by
 have h1:(n:Rat) / 2=(flr ((n:Rat) / 2):Rat):=jp fun e=>by
  have e2:¬ (n:Rat) / ((2:Int):Rat)=((flr ((n:Rat) / ((2:Int):Rat)):Int):Rat):=e;rw [decide_eq_false e2]at h;cases h
 rw [aBb]at h1;omega
set_option maxHeartbeats 1000000 in
theorem aQd (hx:QV k cs x K) (hy:QV k cs' y K) (hK1:1≤K) (hK:K≤100000) (C:∀k' ds,Up k k'→QV k' ds (pH x y) (8*K+8007)→R k' (.tuple #[.agg ds,.int .i64 (if y.num.sign≤0 then 1 else 0)])) :
 Cl k 254 #[.agg cs,.agg cs'] R:=by
 intro k0 u0;replace C:=fun k' ds u=>C k' ds (u0.trans u);replace hx:=hx.up u0;replace hy:=hy.up u0;clear u0;refine aKu hx.seg hy.seg (aRd hy fun k1 u1=>⟨_,rfl,fun hs=>?_,fun hs=>?_⟩)
 ·have hs:=ow hs;unfold pH at C;rw [og hs,og hs]at C;exact lZ (z:=0) oz oz fun k3 d3 u3 h3=>⟨d3,h3.seg,rfl,fun k4 u4=>C k4 _ ((u1.trans u3).trans u4) ((h3.up u4).mono oq)⟩
 ·have hs:=ov hs;unfold pH at C;rw [oh hs,oh hs]at C;clear hs;replace hx:=hx.up u1;replace hy:=hy.up u1;replace C:=fun k' ds u=>C k' ds (u1.trans u);clear u1;refine aYz hx hy hK1 hK1 oq fun k2 d2 u2 hq=>⟨d2,hq.seg,rfl,?_⟩;clear hx;replace hy:=hy.up u2;replace C:=fun k' ds u=>C k' ds (u2.trans u);clear u2;refine aGj hq oq oq fun k3 d3 u3 hn=>⟨d3,hn.seg,rfl,?_⟩;replace hy:=hy.up u3;replace hq:=hq.up u3;replace C:=fun k' ds u=>C k' ds (u3.trans u);clear u3;unfold aEx at C;generalize x/y=v at hq hn C;refine lZ (z:=2) oz oz fun k4 d4 u4 h2=>⟨d4,h2.seg,rfl,?_⟩;replace hy:=hy.up u4;replace hq:=hq.up u4;replace hn:=hn.up u4;replace C:=fun k' ds u=>C k' ds (u4.trans u);clear u4;refine bCb hq hn oq fun k5 d5 u5 hd=>⟨d5,hd.seg,rfl,?_⟩;clear hq;replace hy:=hy.up u5;replace hn:=hn.up u5;replace h2:=h2.up u5;replace C:=fun k' ds u=>C k' ds (u5.trans u);clear u5;refine tG h2 hd oq fun k6 d6 u6 ht=>⟨d6,ht.seg,rfl,?_⟩;clear h2 hd;replace hy:=hy.up u6;replace hn:=hn.up u6;replace C:=fun k' ds u=>C k' ds (u6.trans u);clear u6;refine lZ (z:=1) oz oz fun k7 d7 u7 h1=>⟨d7,h1.seg,rfl,?_⟩;replace hy:=hy.up u7;replace hn:=hn.up u7;replace ht:=ht.up u7;replace C:=fun k' ds u=>C k' ds (u7.trans u);clear u7;refine aXo ht h1 oq fun k8 u8=>⟨_,rfl,?_⟩;have ec:(((2:Int):Rat)*(v-((flr v:Int):Rat))-((1:Int):Rat)).num.sign=rcmp v:=aCa _;rw [ec];clear ht h1;clear ec;replace hy:=hy.up u8;replace hn:=hn.up u8;replace C:=fun k' ds u=>C k' ds (u8.trans u);clear u8;refine lZ (z:=2) oz oz fun k9 d9 u9 h2=>⟨d9,h2.seg,rfl,?_⟩;replace hy:=hy.up u9;replace hn:=hn.up u9;replace C:=fun k' ds u=>C k' ds (u9.trans u);clear u9;refine aYz hn h2 oq oz oq fun k10 d10 u10 hh=>⟨d10,hh.seg,rfl,fun hc=>?_,fun hc=>?_⟩
  ·replace hy:=hy.up u10;replace hn:=hn.up u10;replace C:=fun k' ds u=>C k' ds (u10.trans u);clear u10;rw [og (show rup v=true from by unfold rup;rw [hc];rfl)]at C;refine lZ (z:=1) oz oz fun k11 d11 u11 h1=>⟨d11,h1.seg,rfl,?_⟩;replace hy:=hy.up u11;replace hn:=hn.up u11;replace C:=fun k' ds u=>C k' ds (u11.trans u);clear u11;refine sF hn h1 oq fun k12 d12 u12 h3=>⟨d12,h3.seg,rfl,?_⟩;clear hn h1;replace hy:=hy.up u12;replace C:=fun k' ds u=>C k' ds (u12.trans u);clear u12;exact tG h3 hy oq fun k13 d13 u13 h4=>⟨d13,h4.seg,rfl,fun k' u=>C k' _ (u13.trans u) ((h4.up u).mono oq)⟩
  ·refine⟨fun hc2=>?_,fun hc2=>?_⟩
   ·replace hy:=hy.up u10;replace hn:=hn.up u10;replace C:=fun k' ds u=>C k' ds (u10.trans u);clear u10;refine aGj hh oq oq fun k11 d11 u11 hf=>⟨d11,hf.seg,rfl,?_⟩;replace hy:=hy.up u11;replace hn:=hn.up u11;replace hh:=hh.up u11;replace C:=fun k' ds u=>C k' ds (u11.trans u);clear u11;refine bAe hh hf oq fun k12 u12=>⟨_,rfl,fun hb=>?_,fun hb=>?_⟩
    ·replace hy:=hy.up u12;replace hn:=hn.up u12;replace C:=fun k' ds u=>C k' ds (u12.trans u);clear u12;rw [og (show rup v=true from by unfold rup;rw [decide_eq_true (eq_of_beq hc2),decide_eq_true (aZt hb)];simp)]at C;refine lZ (z:=1) oz oz fun k13 d13 u13 h1=>⟨d13,h1.seg,rfl,?_⟩;replace hy:=hy.up u13;replace hn:=hn.up u13;replace C:=fun k' ds u=>C k' ds (u13.trans u);clear u13;refine sF hn h1 oq fun k14 d14 u14 h3=>⟨d14,h3.seg,rfl,?_⟩;clear hn h1;replace hy:=hy.up u14;replace C:=fun k' ds u=>C k' ds (u14.trans u);clear u14;exact tG h3 hy oq fun k15 d15 u15 h4=>⟨d15,h4.seg,rfl,fun k' u=>C k' _ (u15.trans u) ((h4.up u).mono oq)⟩
    ·replace hy:=hy.up u12;replace hn:=hn.up u12;replace C:=fun k' ds u=>C k' ds (u12.trans u);clear u12;rw [oh (show ¬ rup v=true from by unfold rup;rw [hc,decide_eq_false (aUd hb)];simp)]at C;exact tG hn hy oq fun k13 d13 u13 h4=>⟨d13,h4.seg,rfl,fun k' u=>C k' _ (u13.trans u) ((h4.up u).mono oq)⟩
   ·replace hy:=hy.up u10;replace hn:=hn.up u10;replace C:=fun k' ds u=>C k' ds (u10.trans u);clear u10;rw [oh (show ¬ rup v=true from by unfold rup;rw [hc,decide_eq_false (show ¬ rcmp v=0 from fun h=>by rw [h]at hc2;exact absurd hc2 oz)];simp)]at C;exact tG hn hy oq fun k11 d11 u11 h4=>⟨d11,h4.seg,rfl,fun k' u=>C k' _ (u11.trans u) ((h4.up u).mono oq)⟩
end
end Go.Proofs.YtifcjpacobpdmaaGreat.W32

namespace Go.Proofs.YtifcjpacobpdmaaGreat
open Num
theorem aNp {x G:Nat}(hG:0<G):((FT.half x G:Nat):Int)=if rup (mkRat x G)=true then flr (mkRat x G)+1 else flr (mkRat x G):=by
 have ef:flr (mkRat (x:Int) G)=((x/G:Nat):Int):=by rw [aNi _ hG];rfl
 have hx:=qi x G;have ez:mkRat (x:Int) G-((flr (mkRat (x:Int) G):Int):Rat)-mkRat 1 2=mkRat (2*((x % G:Nat):Int)-G) (2*G):=by
  rw [ef];have hc:(x:Rat)=(G:Rat)*((x/G:Nat):Rat)+((x % G:Nat):Rat):=by
   rw [←je,←Rat.natCast_add,hx]
  generalize x/G=t at hc;generalize x % G=r at hc;have hG0:(G:Rat)≠0:=fun e=>by
   have:(G:Rat)=((0:Nat):Rat):=e;have:=Rat.natCast_inj.1 this;omega
  rw [ji,ji,ji];have e1:(((x:Int)):Rat)=(x:Rat):=rfl;have e2:(((t:Int)):Rat)=(t:Rat):=rfl;have e3:(((2*(r:Int)-(G:Int):Int)):Rat)=2*(r:Rat)-(G:Rat):=by
   rw [Rat.intCast_sub,xm];rfl
  have e4:(((2*G:Nat)):Rat)=2*(G:Rat):=by rw [je];rfl
  rw [e1,e2,e3,e4,hc];have e5:((1:Int):Rat)=1:=rfl;have e6:((2:Nat):Rat)=2:=rfl;rw [e5,e6];clear hc e1 e2 e3 e4 hx ef
  grind
 have hM:0<2*G:=oq
 have hneg:=lK (2*((x % G:Nat):Int)-G) hM;have hzero:=kO (x:=2*((x % G:Nat):Int)-G) hM;have hr:rup (mkRat (x:Int) G)=(decide (G<2*(x % G)) || (G == 2*(x % G) && x/G % 2 == 1)):=by
  unfold rup rcmp;rw [ez,ef];generalize x % G=r at *
  generalize x/G=t at *
  have hn:=decide_eq_decide.1 hneg;have hz:(mkRat (2*(r:Int)-G) (2*G)).num=0↔2*(r:Int)-G=0:=by rw [xf];exact hzero
  generalize (mkRat (2*(r:Int)-G) (2*G)).num=z at hn hz;have a1:decide (0<z.sign)=decide (G<2*r):=by
   apply decide_eq_decide.2;rw [Int.sign_pos_iff];omega
  have a2:decide (z.sign=0)=(G == 2*r):=by
   rw [vv,decide_eq_true_iff,beq_iff_eq,Int.sign_eq_zero_iff_zero];omega
  have a3:decide ((t:Int) % 2=1)=(t % 2 == 1):=by
   rw [vv,decide_eq_true_iff,beq_iff_eq];omega
  rw [a1,a2,a3]
 unfold FT.half;rw [hr,ef];generalize (decide (G<2*(x % G)) || (G == 2*(x % G) && x/G % 2 == 1))=b;cases b
 ·rfl
 ·rfl
end Go.Proofs.YtifcjpacobpdmaaGreat

namespace Go.Proofs.YtifcjpacobpdmaaGreat.W32
open IntKind (wrap)
open Go.RowKit Num
open Sy (Up Sees CallsG Seg)
def p2 (e:Int):Rat:=if e<0 then 1/((2^(-e).toNat:Nat):Rat) else (((2^e.toNat:Nat):Int):Rat)
section
variable {k:World}{R:World→Value→Prop}{K:Nat}
theorem bAk {s:Nat}(hs:s≤1000000) (hK:s+1≤K) (hK2:K≤1000000000) (C:∀k' ds,Up k k'→QV k' ds (((2^s:Nat):Int):Rat) K→R k' (.agg ds)) :
 Cl k 294 #[.int .i64 (s:Int)] R:=by
 intro k0 u0;have hp2:=aOv s;refine aQr ?_;intro p1 k1 u1 hp k2 u2;refine fU (k:=k2) (s:=s) ((eG hp).up u2) oz oq (fun k3 A2 c2 u3 h3=>⟨A2,_,c2,rfl,?_⟩) k2 (Up.refl k2);intro p3 k4 u4 hp3 k5 u5;refine eR (k:=k5) (K:=K) ((h3.up u4).up u5) ((eG hp3).up u5) oz oq oq oq (q:=(((2^s:Nat):Int):Rat)) ?_ (fun k9 b A l c A' l' c' u9 hQ f1 f2=>⟨_,_,_,_,_,_,_,rfl,fun k10 u10=>C k10 _ (((((u0.trans u1).trans u2).trans (u3.trans u4)).trans (u5.trans u9)).trans u10) (QV.mk1 (hQ.up u10) f1 f2)⟩) k5 (Up.refl k5);rw [Rat.mkRat_one,jw];rfl
theorem aDh {e:Int}(he:-1000000≤e∧e≤1000000) (hK:(e.natAbs:Int)+2≤K) (hK2:K≤1000000000) (C:∀k' ds,Up k k'→QV k' ds (p2 e) K→R k' (.agg ds)) :
 Cl k 253 #[.int .i64 e] R:=by
 intro k0 u0;refine aIz ⟨fun h=>?_,fun h=>?_⟩
 ·have h:=ow h;have w1:wrap .i64 (0-e)=(((-e).toNat:Nat):Int):=by rw [qk];omega
  have ep:p2 e=1/((2^(-e).toNat:Nat):Rat):=og h;rw [ep]at C;have hkk:(-e).toNat+2≤K:=oq
  have hkm:(-e).toNat≤1000000:=oq
  generalize (-e).toNat=kk at w1 C hkk hkm;intro p k1 u1 hp;rw [w1];refine fU (k:=k1) (s:=kk) (eG hp) oz oq fun k2 A2 c2 u2 h2=>⟨A2,_,c2,rfl,?_⟩;intro p3 k3 u3 hp3;have hnp:=aOv kk;refine eR (k:=k3) (K:=K) (eG hp3) (h2.up u3) (by rw [jw];exact oo oz) oq oq oq (q:=1/((2^kk:Nat):Rat)) ?_ fun k10 b A l c A' l' c' u10 hQ f1 f2=>⟨_,(QV.mk1 hQ f1 f2).seg,rfl,fun k11 u11=>C k11 _ (((((u0.trans u1).trans u2).trans u3).trans u10).trans u11) (QV.mk1 (hQ.up u11) f1 f2)⟩;rw [jw,ji];rfl
 ·have h:=ov h;have ep:p2 e=(((2^e.toNat:Nat):Int):Rat):=oh h;rw [ep]at C;have es:e=((e.toNat:Nat):Int):=oq
  have hs:e.toNat+1≤K:=oq
  have hs2:e.toNat≤1000000:=oq
  generalize e.toNat=s at es C hs hs2;subst es;exact bAk hs2 hs hK2 fun k1 ds u1 hd=>⟨_,hd.seg,rfl,fun k2 u2=>C k2 _ (u0.trans (u1.trans u2)) (hd.up u2)⟩
end
end Go.Proofs.YtifcjpacobpdmaaGreat.W32

namespace Go.Proofs.YtifcjpacobpdmaaGreat
open Num W32
theorem aPi (e:Int):0<p2 e:=by
 unfold p2;split
 ·have:(0:Rat)<((2^(-e).toNat:Nat):Rat):=zu.2 (ot _);rw [ky,Rat.one_mul];exact Rat.inv_pos.2 this
 ·exact zu.2 (ot e.toNat)
theorem aMz {a d:Nat}{e:Int}(hd:d≠0):mkRat (a:Int) d/p2 e=mkRat ((a*2^(-e).toNat:Nat):Int) (d*2^e.toNat):=by
 have hd0:(d:Rat)≠0:=fun h=>hd (Rat.natCast_inj.1 (show (d:Rat)=((0:Nat):Rat) from h));rw [ji,ji];have e1:((a:Int):Rat)=(a:Rat):=rfl;have e2:(((a*2^(-e).toNat:Nat):Int):Rat)=(a:Rat)*((2^(-e).toNat:Nat):Rat):=by rw [←je];rfl
 have e3:((d*2^e.toNat:Nat):Rat)=(d:Rat)*((2^e.toNat:Nat):Rat):=by rw [je]
 rw [e1,e2,e3];unfold p2;split
 ·have hP:(((2^(-e).toNat:Nat):Rat))≠0:=fun h=>by
   have:=zu.2 (ot (-e).toNat);rw [h]at this;exact absurd this oz
  rw [show e.toNat=0 by omega];generalize ((2^(-e).toNat:Nat):Rat)=P at *
  have e4:(((2^0:Nat):Rat))=1:=rfl;rw [e4];clear e1 e2 e3 e4
  grind
 ·have hP:(((2^e.toNat:Nat):Rat))≠0:=fun h=>by
   have:=zu.2 (ot e.toNat);rw [h]at this;exact absurd this oz
  rw [show (-e).toNat=0 by omega];have e5:((((2^e.toNat:Nat):Int)):Rat)=((2^e.toNat:Nat):Rat):=rfl;rw [e5];generalize ((2^e.toNat:Nat):Rat)=P at *
  have e4:(((2^0:Nat):Rat))=1:=rfl;rw [e4];clear e1 e2 e3 e4 e5
  grind
theorem aQk {a d:Nat}{e:Int}(hd:d≠0):pH (mkRat (a:Int) d) (p2 e) / p2 e=((rI a d e:Nat):Rat):=by
 have hp:=aPi e;have hs:¬ (p2 e).num.sign≤0:=by
  have:=jN hp;rw [vu this];decide
 have hne:p2 e≠0:=fun h=>by rw [h]at hp;exact absurd hp oz
 unfold pH aEx;rw [oh hs,Rat.mul_div_cancel hne,aMz hd];have hG:0<d*2^e.toNat:=jn oq (ot _);have hh:=aNp (x:=a*2^(-e).toNat) hG;unfold rI;have e1:((FT.half (a*2^(-e).toNat) (d*2^e.toNat):Nat):Rat)=(((FT.half (a*2^(-e).toNat) (d*2^e.toNat):Nat):Int):Rat):=rfl;rw [e1,hh];split
 ·rw [vw];rfl
 ·rfl
end Go.Proofs.YtifcjpacobpdmaaGreat

namespace Go.Proofs.YtifcjpacobpdmaaGreat.W32
open IntKind (wrap)
open Go.RowKit Num Ieee FT
open Sy (Up Sees CallsG Seg)
section
variable {k:World}{R:World→Value→Prop}{K:Nat}
theorem aCh:(4611686018427387904:Nat)=double.nearest false 1 1:=by decide +kernel
theorem kT:(4607182418800017408:Nat)=double.nearest false 1 0:=by decide +kernel
theorem aJe {i:Nat}(h:i≤1000):Sy.fltR .f64 .quo (double.nearest false 1 (-(i:Int))) (double.nearest false 1 1)=some (double.nearest false 1 (-((i+1:Nat):Int))):=by
 have hd:=aIt (s:=false) aY (Has.one (p:=-(i:Int)) oq oq) (Has.one (p:=1) oz oz) oz;rw [show (-((i+1:Nat):Int))=-(i:Int)-1 by omega];exact hd
theorem aDk {i:Nat}(h:i≤1000):Sy.fltR .f64 .quo (double.nearest false 1 (-(i:Int))) 4611686018427387904=some (double.nearest false 1 (-((i+1:Nat):Int))):=by
 have:=aJe h
 rwa [←aCh]at this
theorem aRf {e:Int}:([Value.float .f64 4607182418800017408,Value.int .i64 e]:List Value)=[.float .f64 (double.nearest false 1 (-((0:Nat):Int))),.int .i64 (e+((0:Nat):Int))]:=by
 rw [show (-((0:Nat):Int))=0 from rfl,←kT,show e+((0:Nat):Int)=e by omega]
theorem aQo {e:Int}(he:-1000≤e∧e≤0) (C:∀k',Up k k'→R k' (.float .f64 (double.nearest false 1 e))) :
 Cl k 256 #[.int .i64 e] R:=by
 intro k0 u0;refine aWg ⟨fun m k vs=>∃i:Nat,(i:Int)+m=-e∧vs=[.float .f64 (double.nearest false 1 (-(i:Int))),.int .i64 (e+i)],⟨(-e).toNat,fun k1 u1=>⟨0,oq,?_⟩⟩,?_⟩
 ·exact aRf
 rintro m k1 _ u1 ⟨i,hi,rfl⟩;refine⟨_,_,rfl,fun f=>?_,fun f k3 u3=>?_⟩
 ·have f:=ow f;have hf:=aDk (i:=i) oq;rw [hf,xt,xx];refine⟨rfl,fun k2 u2=>⟨m-1,oq,i+1,oq,?_⟩⟩;have ew:wrap .i64 (e+(i:Int)+1)=e+((i+1:Nat):Int):=by rw [qk];omega
  rw [ew]
 ·have f:=ov f;have:=C k3 (u0.trans (u1.trans u3))
  rwa [show e=-(i:Int) by omega]at this
end
section
variable {k:World}{R:World→Value→Prop}{s:Bool}{m:Nat}{p e:Int}
theorem Has.between {i:Int}(h:Has double m p) (hi:0≤i) (ht:p+i+m.log2+1025≤2048):Has double m (p+i):=
 ⟨h.ne,h.bits,by have:(-1074:Int)≤p:=h.low;show (-1074:Int)≤_;omega,by show p+i+m.log2-52+1074+3≤2048;omega⟩
theorem aDr:(103582791429521408:Nat)=double.nearest false 1 (-1000):=by decide +kernel
theorem aVf (h:Has double m p):Sy.fltR .f64 .mul (double.nearest false m p) 4611686018427387904=some (double.nearest false m (p+1)):=by
 have:=gP (s:=false) (t:=false) aY h (Has.one (p:=1) oz oz);rw [jk,←aCh]at this;exact this
theorem aAu (h:Has double m p):Sy.fltR .f64 .mul (double.nearest s 1 0) (double.nearest false m p)=some (double.nearest s m p):=by
 have:=gP (s:=s) (t:=false) aY (Has.one (p:=0) oz oz) h;rw [jw,Int.zero_add,Bool.xor_false]at this;exact this
theorem aJs (h:Has double m p):Sy.fltR .f64 .mul (double.nearest s m p) 103582791429521408=some (double.nearest s m (p-1000)):=by
 have:=gP (s:=s) (t:=false) aY h (Has.one (p:=-1000) oz oz);rw [jk,Bool.xor_false,←aDr]at this;exact this
theorem aGt {q:Int}(h:Has double m p) (h1:-1074≤q) (h2:q≤1023):Sy.fltR .f64 .mul (double.nearest s m p) (double.nearest false 1 q)=some (double.nearest s m (p+q)):=by
 have:=gP (s:=s) (t:=false) aY h (Has.one (p:=q) h1 h2);rw [jk,Bool.xor_false]at this;exact this
theorem aHf {z:Int}{sw:Nat}(hz:FloatKind.nearest .f64 z=double.nearest false m p) (hsw:sw=double.nearest s 1 0) (h:Has double m p) (hp:0≤p) (he:-1074≤e∧e≤1023) (ht:p+e+m.log2+1025≤2048)
 (C:∀k',Up k k'→R k' (.float .f64 (double.nearest s m (p+e)))) :
 (∃I35:Nat→World→List Value→Prop,(∃m35,∀k35,Up k k35→I35 m35 k35 [Value.float .f64 (FloatKind.nearest .f64 z),Value.int .i64 e])∧
 ∀m35 k35 vs35,Up k k35→I35 m35 k35 vs35→∃n33:Nat,∃n34,some [Value.float .f64 n33,Value.int .i64 n34]=some vs35∧
 ((decide ((n34:Int) > 0))=true→
 ((Sy.fltR .f64 .mul n33 4611686018427387904).isSome=true∧
 (∀k36,Up k35 k36→∃m,m<m35∧I35 m k36 [Value.float .f64 ((Sy.fltR .f64 .mul n33 4611686018427387904).getD 0),Value.int .i64 (wrap .i64 (n34-1))])))∧
 ((decide ((n34:Int) > 0))=false→
 (((decide ((n34:Int)<(-1000)))=true→
 ((Sy.fltR .f64 .mul sw n33).isSome=true∧
 ((Sy.fltR .f64 .mul ((Sy.fltR .f64 .mul sw n33).getD 0) 103582791429521408).isSome=true∧
 (Cl k35 256 #[Value.int .i64 (wrap .i64 (n34+1000))] fun k38 r37=>∃n35:Nat,some (Value.float .f64 n35)=some r37∧
 (Sy.fltR .f64 .mul ((Sy.fltR .f64 .mul ((Sy.fltR .f64 .mul sw n33).getD 0) 103582791429521408).getD 0) n35).isSome=true∧
 (∀k39,Up k38 k39→R k39 (Value.float .f64 ((Sy.fltR .f64 .mul ((Sy.fltR .f64 .mul ((Sy.fltR .f64 .mul sw n33).getD 0) 103582791429521408).getD 0) n35).getD 0)))))))∧
 ((decide ((n34:Int)<(-1000)))=false→
 ((Sy.fltR .f64 .mul sw n33).isSome=true∧
 (Cl k35 256 #[Value.int .i64 n34] fun k41 r40=>∃n35:Nat,some (Value.float .f64 n35)=some r40∧
 (Sy.fltR .f64 .mul ((Sy.fltR .f64 .mul sw n33).getD 0) n35).isSome=true∧
 (∀k42,Up k41 k42→R k42 (Value.float .f64 ((Sy.fltR .f64 .mul ((Sy.fltR .f64 .mul sw n33).getD 0) n35).getD 0))))))))):=by
  subst hsw;have htop:p+m.log2-52+1074+3≤2048:=h.top;refine⟨fun j k vs=>∃i:Nat,i+j=e.toNat∧vs=[.float .f64 (double.nearest false m (p+i)),.int .i64 (e-i)],⟨e.toNat,fun k1 u1=>⟨0,oq,?_⟩⟩,?_⟩
  ·rw [hz,show p+((0:Nat):Int)=p by omega,show e-((0:Nat):Int)=e by omega]
  rintro j k35 _ u35 ⟨i,hi,rfl⟩;refine⟨_,_,rfl,fun f=>?_,fun f=>⟨fun f2=>?_,fun f2=>?_⟩⟩
  ·have f:=ow f;have hh:Has double m (p+i):=Has.between h oq oq;rw [aVf hh,xt,xx];refine⟨rfl,fun k36 u36=>⟨j-1,oq,i+1,oq,?_⟩⟩;have ew:wrap .i64 (e-(i:Int)-1)=e-((i+1:Nat):Int):=by rw [qk];omega
   rw [ew,show p+(i:Int)+1=p+((i+1:Nat):Int) by omega]
  ·have f:=ov f;have f2:=ow f2;obtain rfl:i=0:=oq
   rw [show p+((0:Nat):Int)=p by omega,show e-((0:Nat):Int)=e by omega,aAu h,xt,xx,aJs h,xt,xx];have ew:wrap .i64 (e+1000)=e+1000:=by rw [qk];omega
   rw [ew];have hm:Has double m (p-1000):=⟨h.ne,h.bits,by show (-1074:Int)≤_;omega,by have:p+m.log2-52+1074+3≤2048:=h.top;show p-1000+m.log2-52+1074+3≤2048;omega⟩;refine⟨rfl,rfl,aQo oq fun k38 u38=>⟨_,rfl,?_⟩⟩;rw [aGt hm oq oq,xt,xx];refine⟨rfl,fun k39 u39=>?_⟩;have:=C k39 (u35.trans (u38.trans u39))
   rwa [show p-1000+(e+1000)=p+e by omega]
  ·have f:=ov f;have f2:=ov f2;have hh:Has double m (p+i):=Has.between h oq oq;rw [aAu hh,xt,xx];refine⟨rfl,aQo oq fun k41 u41=>⟨_,rfl,?_⟩⟩;rw [aGt hh oq oq,xt,xx];refine⟨rfl,fun k42 u42=>?_⟩;have:=C k42 (u35.trans (u41.trans u42))
   rwa [show p+(i:Int)+(e-i)=p+e by omega]
end
open Sy (Up Sees CallsG cellAt ReadAt ReadIn RowAt RowC sizeOk)
section
variable {k k':World}{A A':Option Addr}{n c m n' c' m' a b l l':Nat}{R:World→Value→Prop}{x q:Rat}{g:Bool}
theorem uT (a:Nat):a % B^1+wq a 1*4294967296=a % B^(1+1):=by
 rw [cX (b:=B) a 1]
 congr 1
 rw [wv,ol];rfl
theorem aPc (a:Nat):wrap .u64 (BitVec.toNat (BitVec.ofInt (IntKind.bits .u64) ((a % B^0:Nat):Int) ||| BitVec.ofInt (IntKind.bits .u64) (wrap .u64 ((wrap .u64 ((wq a 0:Nat):Int))*2^(min (Int.toNat (wrap .u64 (wrap .i64 (32*((0:Nat):Int))))) (IntKind.bits .u64))))))=((a % B^(0+1):Nat):Int):=by
 have hx:=aZ a 0;have es:wrap .u64 (wrap .i64 (32*((0:Nat):Int)))=0:=by rw [w64 oq oq,wu64 oq oq];rfl
 have e2:(2:Int)^(min (Int.toNat 0) (IntKind.bits .u64))=1:=oz
 have e0:a % B^0=0*4294967296:=by rw [zf,ww]
 rw [es,e2,Int.mul_one,u64n (x:=wq a 0) oq,u64n (x:=wq a 0) oq,e0,or32 oz hx,u64n oq];unfold wq wd;rw [zf,xa,vq,jj,jj,wv]
theorem aKb (a:Nat):wrap .u64 (BitVec.toNat (BitVec.ofInt (IntKind.bits .u64) ((a % B^1:Nat):Int) ||| BitVec.ofInt (IntKind.bits .u64) (wrap .u64 ((wrap .u64 ((wq a 1:Nat):Int))*2^(min (Int.toNat (wrap .u64 (wrap .i64 (32*((1:Nat):Int))))) (IntKind.bits .u64))))))=((a % B^(1+1):Nat):Int):=by
 have hx:=aZ a 1;have hy:a % B^1<4294967296:=by rw [wv];exact qf _ aU
 have es:wrap .u64 (wrap .i64 (32*((1:Nat):Int)))=32:=by rw [w64 oq oq,wu64 oq oq];rfl
 rw [es,u64n (x:=wq a 1) oq,shl32 hx,or32' hx hy,u64n oq,uT]
theorem aUp (h:QN k g A l c A' l' c' q) (hl:l≤34359738368) (hl':l'≤34359738368) (C:∀k',Up k k'→R k' (uM q)) :
 Cl k 255 #[.agg #[.bool g,.slice A l c,.slice A' l' c']] R:=by
 intro k0 u0;replace h:=h.up u0;replace C:=fun k' u=>C k' (u0.trans u);have hs:=h.s;have hd:=h.d.2;refine aKq (aV h fun k1 A3 c3 u1 hD=>⟨_,_,_,rfl,fun p k2 u2 hblk=>?_⟩);refine jP (hD.up u2) (eG hblk) oq oz fun k4 u4=>⟨_,rfl,fun h1=>?_,fun h1=>?_⟩
 ·intro k5 u5;have h1:=aGz h1;have:=C k5 (((u1.trans u2).trans u4).trans u5);rw [lY oq]at this;exact this
 ·have h1:=aBd h1;have hden:q.den=1:=by have:=q.den_pos;omega
  have u14:=(u1.trans u2).trans u4;refine iO (h.n.up u14) oq fun k7 u7=>⟨_,rfl,fun hb=>?_,fun hb=>?_⟩
  ·intro k8 u8;have hb:64<bl q.num.natAbs:=by have:=ow hb;omega
   have hbig:¬ q.num.natAbs<2^64:=fun h=>by have:=bZ.2 h;omega
   have:=C k8 ((u14.trans u7).trans u8);rw [lY oq]at this;exact this
  ·have hb:bl q.num.natAbs≤64:=by have:=ov hb;omega
   have ha:q.num.natAbs<2^64:=bZ.1 hb;have hl2:l≤2:=by rw [h.n.2];exact aF (by unfold B;omega)
   have hlt:=h.n.1.lt;have hN:=h.n.up (u14.trans u7);replace C:=fun k' u=>C k' ((u14.trans u7).trans u);clear h hD hblk;refine⟨fun j k vs=>∃i:Nat,vs=[.int .u64 ((q.num.natAbs % B^i:Nat):Int),.int .i64 ((i:Nat):Int)]∧i≤l∧j=l-i,⟨l,fun k9 u9=>⟨0,by rw [zf,ww];rfl,jm _,rfl⟩⟩,?_⟩;rintro j k9 vs u9 ⟨i,rfl,hi,rfl⟩;refine⟨_,_,rfl,rfl,fun hil=>?_,fun hil=>?_⟩
   ·have hil:i<l:=by have:=ow hil;omega
    have hsh:(decide ((0:Int)≤(wrap .u64 (wrap .i64 (32*((i:Nat):Int))))))=true:=by
     rw [w64 oq oq,wu64 oq oq];exact decide_eq_true oq
    refine⟨hN.1.addr hil,⟨oq,oq⟩,_,(hN.1.up u9).read (p:=i) hil (by rw [qx];omega),hsh,fun k10 u10=>⟨l-(i+1),oq,i+1,?_,oq,rfl⟩⟩;have ei:wrap .i64 (((i:Nat):Int)+1)=((i+1:Nat):Int):=by rw [w64 oq oq];omega
    rw [ei];have hi2:i=0∨i=1:=oq
    rcases hi2 with rfl|rfl
    ·rw [aPc]
    ·rw [aKb]
   ·have hil:i=l:=by have:=ov hil;omega
    subst hil;rw [oa hlt];replace C:=fun k' u=>C k' (u9.trans u);refine⟨fun hg=>⟨fun h1=>?_,fun h1=>⟨fun h2=>?_,fun h2=>?_⟩⟩,fun hg=>⟨fun h2=>?_,fun h2=>?_⟩⟩
    ·intro k11 u11;rw [hg]at hs;have hs:=ow hs.symm;have h1:=ow h1;have:=C k11 u11;rw [nC hden oq oq]at this;have e:wrap .i64 (wrap .u64 (0-((q.num.natAbs:Nat):Int)))=q.num:=by
      rw [IntKind.wrap_u64,qk];omega
     rw [e];exact this
    ·intro k11 u11;rw [hg]at hs;have hs:=ow hs.symm;have h1:=ov h1;have:=C k11 u11;rw [lY oq]at this;exact this
    ·have h1:=ov h1;have h2:=ov h2;omega
    ·intro k11 u11;rw [hg]at hs;have hs:=ov hs.symm;have h2:=ow h2;have:=C k11 u11;rw [lY oq]at this;exact this
    ·intro k11 u11;rw [hg]at hs;have hs:=ov hs.symm;have h2:=ov h2;have:=C k11 u11;rw [nC hden oq oq]at this;have e:wrap .i64 ((q.num.natAbs:Nat):Int)=q.num:=by
      rw [qk];omega
     rw [e];exact this
end
section
variable {k:World}{R:World→Value→Prop}{s:Bool}{e:Int}{K:Nat}
theorem aLx (m:Nat) (h:m≤2^53):uM ((m:Nat):Rat)=.tuple #[.int .i64 (m:Int),.bool true]:=by
 have e1:(((m:Nat):Rat)).num=(m:Int):=Rat.num_natCast m;have h2:m≤9007199254740992:=h;have:=nC (x:=((m:Nat):Rat)) (Rat.den_natCast m) (by rw [e1];omega) (by rw [e1];omega)
 rwa [e1]at this
theorem yJ {a d bits:Nat}{low top:Int}{b8:Bool}{A9 A10:Option Addr}{l9 c9 l10 c10 sw:Nat}(hx:QV k #[.bool b8,.slice A9 l9 c9,.slice A10 l10 c10] (mkRat (a:Int) d) K) (hK1:4000≤K) (hK:K≤30000)
 (ha:a≠0) (hd:d≠0) (hb1:1≤bits) (hbits:bits≤53) (hlow:-1074≤low) (hlow2:low≤0) (htop:top≤1023) (he:e=fX a d bits low) (he2:e≤top-bits+1) (htop0:0≤top-bits+1) (hsw:sw=double.nearest s 1 0)
 (C:∀k',Up k k'→R k' (.float .f64 (fF s a d bits low (top+1)))) :
 (Cl k 253 #[Value.int .i64 e] fun k19 r18=>∃b17,∃A18 l18 c18,∃A19 l19 c19,some (Value.agg #[Value.bool b17,Value.slice A18 l18 c18,Value.slice A19 l19 c19])=some r18∧
 Cl k19 254 #[Value.agg #[Value.bool b8,Value.slice A9 l9 c9,Value.slice A10 l10 c10],Value.agg #[Value.bool b17,Value.slice A18 l18 c18,Value.slice A19 l19 c19]] fun k21 r20=>∃b20,∃A21 l21 c21,∃A22 l22 c22,∃n23,some (Value.tuple #[Value.agg #[Value.bool b20,Value.slice A21 l21 c21,Value.slice A22 l22 c22],Value.int .i64 n23])=some r20∧
 Cl k21 253 #[Value.int .i64 e] fun k23 r22=>∃b24,∃A25 l25 c25,∃A26 l26 c26,some (Value.agg #[Value.bool b24,Value.slice A25 l25 c25,Value.slice A26 l26 c26])=some r22∧
 Cl k23 91 #[Value.agg #[Value.bool b20,Value.slice A21 l21 c21,Value.slice A22 l22 c22],Value.agg #[Value.bool b24,Value.slice A25 l25 c25,Value.slice A26 l26 c26]] fun k25 r24=>∃b27,∃A28 l28 c28,∃A29 l29 c29,some (Value.agg #[Value.bool b27,Value.slice A28 l28 c28,Value.slice A29 l29 c29])=some r24∧
 Cl k25 255 #[Value.agg #[Value.bool b27,Value.slice A28 l28 c28,Value.slice A29 l29 c29]] fun k27 r26=>∃n30,∃b31,some (Value.tuple #[Value.int .i64 n30,Value.bool b31])=some r26∧
 (((n30:Int) == 0)=true→
 (∀k28,Up k27 k28→R k28 (Value.float .f64 0)))∧
 (((n30:Int) == 0)=false→
 (∃J29:World→List Value→Prop,((decide ((0:Int)≤(wrap .u64 (bits:Int))))=true∧
 ((((n30:Int) == (wrap .i64 (1*2^(min (Int.toNat (wrap .u64 (bits:Int))) (IntKind.bits .i64)))))=true→
 (∀k29,Up k27 k29→J29 k29 [Value.bool ((e:Int) == (wrap .i64 ((wrap .i64 (top-(bits:Int)))+1)))]))∧
 (((n30:Int) == (wrap .i64 (1*2^(min (Int.toNat (wrap .u64 (bits:Int))) (IntKind.bits .i64)))))=false→
 (∀k30,Up k27 k30→J29 k30 [Value.bool false]))))∧
 ∀k31 vs31,Up k27 k31→J29 k31 vs31→∃b32,some [Value.bool b32]=some vs31∧
 (b32=true→
 (Cl k31 233 #[Value.int .i64 1] fun k33 r32=>∃n33:Nat,some (Value.float .f64 n33)=some r32∧
 (Sy.fltR .f64 .mul sw n33).isSome=true∧
 (∀k34,Up k33 k34→R k34 (Value.float .f64 ((Sy.fltR .f64 .mul sw n33).getD 0)))))∧
 (b32=false→
 (∃I35:Nat→World→List Value→Prop,(∃m35,∀k35,Up k31 k35→I35 m35 k35 [Value.float .f64 (FloatKind.nearest .f64 n30),Value.int .i64 e])∧
 ∀m35 k35 vs35,Up k31 k35→I35 m35 k35 vs35→∃n33:Nat,∃n34,some [Value.float .f64 n33,Value.int .i64 n34]=some vs35∧
 ((decide ((n34:Int) > 0))=true→
 ((Sy.fltR .f64 .mul n33 4611686018427387904).isSome=true∧
 (∀k36,Up k35 k36→∃m,m<m35∧I35 m k36 [Value.float .f64 ((Sy.fltR .f64 .mul n33 4611686018427387904).getD 0),Value.int .i64 (wrap .i64 (n34-1))])))∧
 ((decide ((n34:Int) > 0))=false→
 (((decide ((n34:Int)<(-1000)))=true→
 ((Sy.fltR .f64 .mul sw n33).isSome=true∧
 ((Sy.fltR .f64 .mul ((Sy.fltR .f64 .mul sw n33).getD 0) 103582791429521408).isSome=true∧
 (Cl k35 256 #[Value.int .i64 (wrap .i64 (n34+1000))] fun k38 r37=>∃n35:Nat,some (Value.float .f64 n35)=some r37∧
 (Sy.fltR .f64 .mul ((Sy.fltR .f64 .mul ((Sy.fltR .f64 .mul sw n33).getD 0) 103582791429521408).getD 0) n35).isSome=true∧
 (∀k39,Up k38 k39→R k39 (Value.float .f64 ((Sy.fltR .f64 .mul ((Sy.fltR .f64 .mul ((Sy.fltR .f64 .mul sw n33).getD 0) 103582791429521408).getD 0) n35).getD 0)))))))∧
 ((decide ((n34:Int)<(-1000)))=false→
 ((Sy.fltR .f64 .mul sw n33).isSome=true∧
 (Cl k35 256 #[Value.int .i64 n34] fun k41 r40=>∃n35:Nat,some (Value.float .f64 n35)=some r40∧
 (Sy.fltR .f64 .mul ((Sy.fltR .f64 .mul sw n33).getD 0) n35).isSome=true∧
 (∀k42,Up k41 k42→R k42 (Value.float .f64 ((Sy.fltR .f64 .mul ((Sy.fltR .f64 .mul sw n33).getD 0) n35).getD 0))))))))))))):=by
  intro k18 u18;have hl:-1074≤e:=by
   have h1:low≤iD a d bits low:=yc _ _;rw [he];unfold fX;split <;> omega
  have hm:=aDp (a:=a) (bits:=bits) (least:=low) hd;have hm53:kD a d bits low≤2^53:=qg hm (om oz hbits);unfold fF at C;rw [oh ha,←he]at C;have em:rI a d e=kD a d bits low:=by rw [he];rfl
  have hw:uM (pH (mkRat (a:Int) d) (p2 e) / p2 e)=.tuple #[.int .i64 ((kD a d bits low:Nat):Int),.bool true]:=by
   rw [aQk hd,em];exact aLx _ hm53
  generalize kD a d bits low=m at *
  have hbl:bl m≤bits+1:=bZ.2 (by rw [ql];have:=ot bits;omega);refine aDh (e:=e) (K:=K) oq oq oq (fun k1 ds u1 hp=>?_) k18 (Up.refl _);have hp':=hp;obtain⟨_,_,_,_,_,_,_,rfl,_⟩:=hp';refine⟨_,_,_,_,_,_,_,rfl,?_⟩;refine aQd (hx.up (u18.trans u1)) hp oq oq fun k2 ds u2 hr=>?_;have hr':=hr;obtain⟨_,_,_,_,_,_,_,rfl,_⟩:=hr';refine⟨_,_,_,_,_,_,_,_,rfl,?_⟩;refine aDh (e:=e) (K:=K) oq oq oq fun k3 ds u3 hp3=>?_;have hp':=hp3;obtain⟨_,_,_,_,_,_,_,rfl,_⟩:=hp';refine⟨_,_,_,_,_,_,_,rfl,?_⟩;refine aYz (hr.up u3) hp3 oq oq oq fun k4 ds u4 hq=>?_;obtain⟨_,_,_,_,_,_,_,rfl,hQ,q1,q2⟩:=hq;refine⟨_,_,_,_,_,_,_,rfl,aUp hQ oq oq fun k5 u5=>?_⟩;rw [hw];have v5:=u18.trans (u1.trans (u2.trans (u3.trans (u4.trans u5))));refine⟨_,_,rfl,fun f k6 u6=>?_,fun f=>?_⟩
  ·have f:m=0:=by have:=eq_of_beq f;omega
   have h0:bl m=0:=by rw [f];rfl
   rw [oh oq,og f]at C;exact C k6 (v5.trans u6)
  have f:m≠0:=fun h=>by rw [h]at f;cases f
  have ewb:wrap .u64 (bits:Int)=bits:=wrap64 (by have:(2:Nat)^64=18446744073709551616:=rfl;omega);have hb63:(2:Nat)^bits≤2^53:=om oz hbits;have e2b:wrap .i64 (1*2^(min (Int.toNat (bits:Int)) (IntKind.bits .i64)))=((2^bits:Nat):Int):=by
   rw [qx,show IntKind.bits .i64=64 from rfl,Nat.min_eq_left oq,Int.one_mul];have e3:((2:Int)^bits)=((2^bits:Nat):Int):=by norm_cast
   rw [e3];have:(2:Nat)^53=9007199254740992:=rfl;rw [this]at hb63;generalize (2:Nat)^bits=z at hb63;rw [qk];omega
  have etb:wrap .i64 (wrap .i64 (top-bits)+1)=top-bits+1:=by rw [qk,qk];omega
  rw [ewb,e2b,etb];refine⟨fun _ vs=>vs=[.bool (decide (m=2^bits∧e=top-bits+1))],⟨decide_eq_true oq,fun g k7 u7=>?_,fun g k7 u7=>?_⟩,?_⟩
  ·have g:m=2^bits:=by have:=eq_of_beq g;exact_mod_cast this
   show [Value.bool _]=[Value.bool _]
   congr 2
   rw [vv,beq_iff_eq,decide_eq_true_iff];exact⟨fun h=>⟨g,h⟩,fun h=>h.2⟩
  ·have g:m≠2^bits:=fun h=>by rw [h]at g;simp at g
   show [Value.bool _]=[Value.bool _];rw [decide_eq_false (fun h=>g h.1)]
  rintro k8 _ u8 rfl;refine⟨_,rfl,fun g=>?_,fun g=>?_⟩
  ·obtain⟨g1,g2⟩:=ow g;have hb2:bl m=bits+1:=by rw [g1];unfold bl;rw [oh (by have:=ot bits;omega),Nat.log2_two_pow]
   rw [og oq]at C;refine fun k9 u9=>xL ⟨fun _ k10 u10=>⟨_,rfl,?_⟩,fun g=>absurd g oz⟩;have hi:∀s,Sy.fltR .f64 .mul (double.nearest s 1 0) 9218868437227405312=some (double.nearest s 1 5000):=by decide +kernel
   rw [hsw,hi s,xt,xx];exact⟨rfl,fun k11 u11=>C k11 (v5.trans (u8.trans (u9.trans (u10.trans u11))))⟩
  ·have g:=ov g;have eb:bl m=m.log2+1:=by unfold bl;rw [oh f]
   have hov:(bl m:Int)+e≤top+1:=by
    by_cases c:bl m≤bits
    ·omega
    ·have:¬ m<2^bits:=fun h=>c (bZ.2 h);have hme:m=2^bits:=oq
     have:e≠top-bits+1:=fun h=>g ⟨hme,h⟩;omega
   rw [oh oq,oh f]at C;have v8:=v5.trans u8;have e0:FloatKind.nearest .f64 (m:Int)=double.nearest false m 0:=by
    unfold FloatKind.nearest FloatKind.encode Format.write;simp only [];rw [show decide ((m:Int)<0)=false from decide_eq_false oq,zk];rfl
   rcases zy m (2^53) with c|c
   ·have hl53:m.log2<53:=(kf f).2 c;have a1:Has double m 0:=⟨f,c,oz,by show (0:Int)+m.log2-52+1074+3≤2048;omega⟩;exact aHf e0 hsw a1 oz oq oq fun k' u=>by rw [Int.zero_add];exact C k' (v8.trans u)
   ·have hme:m=2^53:=vd hm53 c;have el:(2^53:Nat).log2=53:=Nat.log2_two_pow;rw [hme,el]at eb;rw [hme]at C hov e0 ⊢;rw [eb]at hov;rw [two53]at e0;have a1:Has double 1 53:=Has.one oz oz;have h3:(1:Nat).log2=0:=rfl;exact aHf (p:=53) e0 hsw a1 oz oq (by rw [h3];omega) fun k' u=>by
     have:=C k' (v8.trans u)
     rwa [two53]at this
end
end Go.Proofs.YtifcjpacobpdmaaGreat.W32

namespace Go.Proofs.YtifcjpacobpdmaaGreat
open Num W32
theorem aIb {a d:Nat}{e:Int}(hd:d≠0):mkRat (a:Int) d<p2 e↔below2 a d e:=by
 have hp:=aPi e;have hG:0<d*2^e.toNat:=jn oq (ot _);have hne:p2 e≠0:=fun h=>by rw [h]at hp;exact absurd hp oz
 have hn:=lK (((a*2^(-e).toNat:Nat):Int)-((d*2^e.toNat:Nat):Int)) hG;have e1:mkRat (((a*2^(-e).toNat:Nat):Int)-((d*2^e.toNat:Nat):Int)) (d*2^e.toNat)=mkRat (a:Int) d/p2 e-1:=by
  rw [aMz hd];generalize d*2^e.toNat=G at *
  generalize a*2^(-e).toNat=X at *
  have hG0:(G:Rat)≠0:=fun e=>by
   have:(G:Rat)=((0:Nat):Rat):=e;have:=Rat.natCast_inj.1 this;omega
  rw [ji,ji,Rat.intCast_sub];have g1:((X:Int):Rat)=(X:Rat):=rfl;have g2:((G:Int):Rat)=(G:Rat):=rfl;rw [g1,g2];clear g1 g2 hn
  grind
 rw [e1]at hn;have h1:(mkRat (a:Int) d/p2 e-1).num<0↔mkRat (a:Int) d/p2 e-1<0:=by
  constructor
  ·intro h;refine Rat.not_le.1 fun c=>?_;have:=kj.2 c;omega
  ·exact rT
 have h2:mkRat (a:Int) d/p2 e-1<0↔mkRat (a:Int) d<p2 e:=by
  generalize mkRat (a:Int) d=x at *
  generalize p2 e=P at *
  have e3:x/P*P=x:=vf hne;constructor
  ·intro h;have h':x/P<1:=by grind
   have:=(wk hp).2 h'
   rwa [e3,Rat.one_mul]at this
  ·intro h;have:x/P*P<1*P:=by rw [e3,Rat.one_mul];exact h
   have:=(wk hp).1 this
   grind
 rw [←h2,←h1,decide_eq_decide.1 hn];unfold below2;omega
end Go.Proofs.YtifcjpacobpdmaaGreat

namespace Go.Proofs.YtifcjpacobpdmaaGreat.W32
open IntKind (wrap)
open Go.RowKit Num Ieee FT
open Sy (Up Sees CallsG Seg)
section
variable {k:World}{R:World→Value→Prop}{cs:Array Value}{q:Rat}{K:Nat}{s:Bool}{sw:Nat}
theorem aGm (hsw:sw=double.nearest s 1 0) (C:∀k',Up k k'→R k' (.float .f64 (double.nearest s 1 5000))) :
 Cl k 233 #[.int .i64 1] fun k16 r15=>∃n17:Nat,some (Value.float .f64 n17)=some r15∧(Sy.fltR .f64 .mul sw n17).isSome=true∧(∀k17,Up k16 k17→R k17 (.float .f64 ((Sy.fltR .f64 .mul sw n17).getD 0))):=by
 refine fun k9 u9=>xL ⟨fun _ k10 u10=>⟨_,rfl,?_⟩,fun g=>absurd g oz⟩;have hi:∀s,Sy.fltR .f64 .mul (double.nearest s 1 0) 9218868437227405312=some (double.nearest s 1 5000):=by decide +kernel
 rw [hsw,hi s,xt,xx];exact⟨rfl,fun k11 u11=>C k11 (u9.trans (u10.trans u11))⟩
theorem neg_iff {x y:Rat}:(x-y).num.sign<0↔x<y:=by
 have h1:(x-y).num<0↔x<y:=by
  constructor
  ·intro h;refine Rat.not_le.1 fun c=>?_;have:0≤x-y:=by grind
   have:=kj.2 this;omega
  ·intro h;exact rT (by grind)
 exact Int.sign_neg_iff.trans h1
theorem jK:(13830554455654793216:Nat)=double.nearest true 1 0:=by decide +kernel
theorem aXk {k:World}{A:Option Addr}{n c a:Nat}(h:NatN k A n c a):bl a≤32*n:=by
 have:=h.len.lt;rw [kF,←ze]at this;exact bZ.2 this
theorem yK {bits:Nat}{low top:Int}(hx:QV k cs q K) (hK1:4000≤K) (hK:K≤30000)
 (hb1:1≤bits) (hbits:bits≤53) (hlow:-1074≤low) (hlow2:low≤0) (htop:top≤1023) (hlt:low≤top-bits+1) (htop0:0≤top-bits+1)
 (C:∀k',Up k k'→R k' (.float .f64 (fF (decide (q.num<0)) q.num.natAbs q.den bits low (top+1)))) :
 Cl k 163 #[.agg cs,.int .i64 bits,.int .i64 low,.int .i64 top] R:=by
 intro k0 u0;replace C:=fun k' u=>C k' (u0.trans u);obtain⟨b0,A1,l1,c1,A2,l2,c2,rfl,hQ,e1,e2⟩:=hx.up u0;refine aQj (zero_s hQ fun k1 u1=>⟨_,rfl,fun f k2 u2=>?_,fun f=>?_⟩)
 ·have f:=ow f;have:=C k2 (u1.trans u2);unfold fF at this
  rwa [og (by rw [f];rfl)]at this
 have f:=ov f;have ha:q.num.natAbs≠0:=fun e=>f (by rw [Int.natAbs_eq_zero]at e;exact xf.1 e);have hd:q.den≠0:=q.den_nz;have hs:=hQ.s;have hn:=hQ.n;have hdl:=hQ.d.2;have hcop:Nat.gcd q.num.natAbs q.den=1:=q.reduced;refine aV (hQ.up u1) fun k4 A7 c7 u4 h7=>⟨_,_,_,rfl,?_⟩;rw [←hs]at C;generalize q.num.natAbs=a at *
 generalize q.den=d at *
 clear hQ hx;have v4:=u1.trans u4;refine eR (K:=K) (q:=mkRat (a:Int) d) (hn.up v4) h7 oq e1 oq oq rfl fun k6 b8 A9 l9 c9 A10 l10 c10 u6 hF f1 f2=>⟨_,_,_,_,_,_,_,rfl,?_⟩;have en:(mkRat (a:Int) d).num.natAbs=a:=by rw [fJ _ oq,zk,hcop,xa]
 have ed:(mkRat (a:Int) d).den=d:=by rw [gW _ oq,zk,hcop,xa]
 have hN:=hF.n;have hD:=hF.d;rw [en]at hN;rw [ed]at hD;have bn:=aXk hN;have bd:=aXk hD;refine iO hN oq fun k8 u8=>⟨_,rfl,?_⟩;refine iO (hD.up u8) oq fun k10 u10=>⟨_,rfl,?_⟩;have wE:wrap .i64 (((bl a:Nat):Int)-((bl d:Nat):Int))=(bl a:Int)-bl d:=by rw [qk];omega
 try dsimp only
 rw [wE];have ht:gI a d=if below2 a d ((bl a:Int)-bl d) then (bl a:Int)-bl d-1 else (bl a:Int)-bl d:=rfl;have hl:fX a d bits low=max (gI a d-bits+1) low:=aDo hd;have hov:top<gI a d→top+1<bl (kD a d bits low)+fX a d bits low:=aPg ha hd hb1 hlt;refine aDh (e:=(bl a:Int)-bl d) (K:=1000002) oq oq oq fun k12 ds u12 hP=>?_;have hP':=hP;obtain⟨_,_,_,_,_,_,_,rfl,_⟩:=hP';refine⟨_,_,_,_,_,_,_,rfl,?_⟩;have v12:=u8.trans (u10.trans u12);have hX:QV k12 #[.bool b8,.slice A9 l9 c9,.slice A10 l10 c10] (mkRat (a:Int) d) K:=QV.mk1 (hF.up v12) f1 f2;refine aXo (hX) hP oq fun k14 u14=>⟨_,rfl,?_⟩;have hX':=hX.up u14;have w14:=v4.trans (u6.trans (v12.trans u14));have hb:(decide ((mkRat (a:Int) d-p2 ((bl a:Int)-bl d)).num.sign<0))=decide (below2 a d ((bl a:Int)-bl d)):=decide_eq_decide.2 (neg_iff.trans (aIb hd))
 try dsimp only
 rw [hb];have hlb:low≤fX a d bits low:=oq
 have big:∀E,E=gI a d→top<E→double.nearest b0 1 5000=fF b0 a d bits low (top+1):=fun E hE h=>by
  unfold fF;rw [oh ha,og (hov oq)]
 have eL:∀E,E=gI a d→-1000001≤E→E≤1000001→(if (decide (((wrap .i64 ((wrap .i64 (E-(bits:Int)))+1)):Int)<low))=true then low else (wrap .i64 ((wrap .i64 (E-(bits:Int)))+1)))=fX a d bits low:=fun E hE h1 h2=>by
  have e1:wrap .i64 ((wrap .i64 (E-(bits:Int)))+1)=E-bits+1:=by rw [qk,qk];omega
  rw [e1,hl,←hE];split
  ·rename_i g;have:=ow g;omega
  ·rename_i g;have:¬ (E-(bits:Int)+1<low):=fun h=>g (decide_eq_true h);omega
 have wE1:wrap .i64 ((bl a:Int)-bl d-1)=(bl a:Int)-bl d-1:=by rw [qk];omega
 rw [wE1];refine⟨fun g=>?_,fun g=>?_⟩
 ·have g:=ow g;rw [og g]at ht;unfold nrT;rw [eL _ ht.symm oq oq];refine⟨fun h=>?_,fun h=>?_⟩
  ·rw [h]at C big;refine⟨fun o=>aGm jK fun k' u=>?_,fun o=>?_⟩
   ·rw [big _ ht.symm (ow o)];exact C k' (w14.trans u)
   ·have o:=ov o;exact yJ hX' hK1 hK ha hd hb1 hbits hlow hlow2 htop rfl oq htop0 jK fun k' u=>C k' (w14.trans u)
  ·rw [h]at C big;refine⟨fun o=>aGm kT fun k' u=>?_,fun o=>?_⟩
   ·rw [big _ ht.symm (ow o)];exact C k' (w14.trans u)
   ·have o:=ov o;exact yJ hX' hK1 hK ha hd hb1 hbits hlow hlow2 htop rfl oq htop0 kT fun k' u=>C k' (w14.trans u)
 ·have g:=ov g;rw [oh g]at ht;unfold nrT;rw [eL _ ht.symm oq oq];refine⟨fun h=>?_,fun h=>?_⟩
  ·rw [h]at C big;refine⟨fun o=>aGm jK fun k' u=>?_,fun o=>?_⟩
   ·rw [big _ ht.symm (ow o)];exact C k' (w14.trans u)
   ·have o:=ov o;exact yJ hX' hK1 hK ha hd hb1 hbits hlow hlow2 htop rfl oq htop0 jK fun k' u=>C k' (w14.trans u)
  ·rw [h]at C big;refine⟨fun o=>aGm kT fun k' u=>?_,fun o=>?_⟩
   ·rw [big _ ht.symm (ow o)];exact C k' (w14.trans u)
   ·have o:=ov o;exact yJ hX' hK1 hK ha hd hb1 hbits hlow hlow2 htop rfl oq htop0 kT fun k' u=>C k' (w14.trans u)
end
end Go.Proofs.YtifcjpacobpdmaaGreat.W32

namespace Go.Proofs.YtifcjpacobpdmaaGreat
open Go.RowKit Num W32
open Sy (Up Sees CallsG Seg)
section
variable {k k':World}{cs cs':Array Value}{R:World→Value→Prop}{x y q:Rat}{K L:Nat}
def Pw (q:Rat) (j:Nat):Prop:=q.num.natAbs≤2^j∧q.den≤2^j
end
