/- Several texts in one. (Printed by prep.py.) -/
import Derived.Test.YtifcjpacobpdmaaGreatReQ5
import Ieee.Arith
import Derived.Test.YtifcjpacobpdmaaGreatReRat5
namespace Go.Proofs.YtifcjpacobpdmaaGreat
open Go.RowKit
open Value (agg slice int bool tuple)
open Sy (Up Sees CallsG Seg execFn_use)
set_option maxRecDepth 100000
variable {k:World}{R:World→Value→Prop}{cs0:Array Value}
theorem aQv (hcs0:Seg 3 cs0)
 (h:Cl k 89 #[int .i64 0] fun k1 r0=>Gt 3 r0 fun cs1=>
 Cl k1 89 #[int .i64 0] fun k3 r2=>Gt 3 r2 fun cs2=>
 Cl k3 89 #[int .i64 0] fun k5 r4=>Gt 3 r4 fun cs3=>
 Rt R k5 (Rg cs0 cs1 cs2 cs3)) :
  CallsG Tryz.prog 82 #[agg cs0] k R:=
  qX { opq:=[42] } [.agg [.seg 0 3]] [agg cs0] [.seg 3] ⟨⟨cs0,rfl,hcs0⟩,trivial⟩ h
theorem aMa (hcs0:Seg 3 cs0)
 (h:Cl k 82 #[agg cs0] fun k1 r0=>Gt 12 r0 fun cs1=>
 Cl k1 89 #[int .i64 0] fun k3 r2=>Gt 3 r2 fun cs2=>
 Cl k3 82 #[agg cs2] fun k5 r4=>Gt 12 r4 fun cs3=>
 Rt R k5 (agg (cs1.toList++(cs3.toList++([]))).toArray)) :
  CallsG Tryz.prog 259 #[agg cs0] k R:=
  qX { opq:=[42,44] } [.agg [.seg 0 3]] [agg cs0] [.seg 3] ⟨⟨cs0,rfl,hcs0⟩,trivial⟩ h
end Go.Proofs.YtifcjpacobpdmaaGreat

namespace Go.Proofs.YtifcjpacobpdmaaGreat
open Go.RowKit
open Value (agg slice int bool tuple)
open Sy (Up Sees CallsG Seg execFn_use)
set_option maxRecDepth 100000
variable {k:World}{R:World→Value→Prop}
end Go.Proofs.YtifcjpacobpdmaaGreat

namespace Go.Proofs.YtifcjpacobpdmaaGreat
open Go.RowKit Num W32
open Sy (Up Sees CallsG)
section
variable {k k':World}{R:World→Value→Prop}{x y q:Rat}{K L:Nat}{cs cs':Array Value}{g:Bool}{A A':Option Addr}{l c l' c':Nat}
end
open IntKind (wrap)
open Value (agg slice int bool tuple)
open Sy (Up Sees CallsG Seg execFn_use)
set_option maxRecDepth 100000
variable {k:World}{R:World→Value→Prop}{A0 A1 A2 A4 A5:Option Addr}{c0 c1 c2 c4 c5 l0 l1 l2 l4 l5:Nat}{n0 n1 n2:Int}{b0 b3:Bool}
theorem aSx 
 (h:Tt∧(Br (((l0:Nat):Int) == 0) (Rt R k (int .i64 0)) (Tt∧(Tt∧(Ad A0∧((0:Int)≤(wrap .i64 ((l0:Nat)-1))∧((wrap .i64 ((l0:Nat)-1)):Int)<(l0:Nat))∧
 ∃n1,Sy.ReadAt k.cell? A0 (Int.toNat (wrap .i64 ((l0:Nat)-1))*1+0) 1 (int .u64 n1)∧
 Cl k 297 #[int .u64 n1] fun k2 r1=>Gi r1 fun n2=>
 Rt R k2 (int .i64 (wrap .i64 ((wrap .i64 (64*(wrap .i64 ((l0:Nat)-1))))+n2)))))))) :
  CallsG Tryz.prog 229 #[slice A0 l0 c0] k R:=
  qY { opq:=[] } h
theorem aUg {n0:Nat}
 (h:Rt R k (Value.float .f64 (Int.toNat (wrap .u64 (BitVec.toNat (BitVec.ofInt (IntKind.bits .u64) ((n0:Nat):Int) &&& ~~~(BitVec.ofInt (IntKind.bits .u64) 9223372036854775808))))))) :
 CallsG Tryz.prog 215 #[Value.float .f64 n0] k R:=
 qX { opq:=[] } [.one (.var 0)] [Value.float .f64 n0] [.flt .f64] ⟨⟨_,rfl⟩,trivial⟩ h
theorem pR {n0:Nat} 
 (h:Br ((n1:Int) == 0) (Cl k 215 #[Value.float .f64 n0] fun k1 r0=>∃n2:Nat,some (Value.float .f64 n2)=some r0∧
 Rt R k1 (bool (Ieee.Format.order (FloatKind.format .f64) n2 9218868437227405311 == some Ordering.gt))) (Br (decide ((n1:Int)<0)) (Rt R k (bool (Ieee.Format.order (FloatKind.format .f64) (Op.negFloat .f64 n0) 9218868437227405311 == some Ordering.gt))) (Rt R k (bool (Ieee.Format.order (FloatKind.format .f64) n0 9218868437227405311 == some Ordering.gt))))) :
  CallsG Tryz.prog 127 #[Value.float .f64 n0,int .i64 n1] k R:=
  qX { opq:=[] } [.one (.var 0),.one (.var 1)] [Value.float .f64 n0,int .i64 n1] [.flt .f64,.int .i64] ⟨⟨_,rfl⟩,⟨_,rfl⟩,trivial⟩ h
theorem lR {n0:Nat}
 (h:Rt R k (bool (Ieee.Format.order (FloatKind.format .f64) n0 n0 != some Ordering.eq))) :
 CallsG Tryz.prog 128 #[Value.float .f64 n0] k R:=
 qX { opq:=[] } [.one (.var 0)] [Value.float .f64 n0] [.flt .f64] ⟨⟨_,rfl⟩,trivial⟩ h
theorem aUh 
 (h:Br (decide ((n0:Int) ≥ 0)) (Rt R k (Value.float .f64 9218868437227405312)) (Rt R k (Value.float .f64 18442240474082181120))) :
 CallsG Tryz.prog 233 #[int .i64 n0] k R:=
 qY { opq:=[] } h
theorem aNt {n0:Nat}
 (h:Rt R k (bool (decide (((wrap .i64 ((n0:Nat):Int)):Int)<0)))) :
 CallsG Tryz.prog 21 #[Value.float .f64 n0] k R:=
 qX { opq:=[] } [.one (.var 0)] [Value.float .f64 n0] [.flt .f64] ⟨⟨_,rfl⟩,trivial⟩ h
theorem aAv {n0:Nat}
 (h:Cl k 215 #[Value.float .f64 n0] fun k1 r0=>∃n1:Nat,some (Value.float .f64 n1)=some r0∧
 Br (Ieee.Format.order (FloatKind.format .f64) n1 4503599627370496 == some Ordering.lt) ((Sy.fltR .f64 .mul n0 4841369599423283200).isSome=true∧
 (Rt R k1 (tuple #[Value.float .f64 ((Sy.fltR .f64 .mul n0 4841369599423283200).getD 0),int .i64 (-52)]))) (Rt R k1 (tuple #[Value.float .f64 n0,int .i64 0]))) :
   CallsG Tryz.prog 328 #[Value.float .f64 n0] k R:=
  qX { opq:=[] } [.one (.var 0)] [Value.float .f64 n0] [.flt .f64] ⟨⟨_,rfl⟩,trivial⟩ h
theorem aHf {n0:Nat} 
 (h:Br (Ieee.Format.order (FloatKind.format .f64) n0 0 == some Ordering.eq) (Rt R k (Value.float .f64 n0)) (Cl k 127 #[Value.float .f64 n0,int .i64 0] fun k2 r1=>Gb r1 fun b2=>
 Br b2 (Rt R k2 (Value.float .f64 n0)) (Cl k2 128 #[Value.float .f64 n0] fun k5 r4=>Gb r4 fun b3=>
 Br b3 (Rt R k5 (Value.float .f64 n0)) (Cl k5 328 #[Value.float .f64 n0] fun k8 r7=>∃n4:Nat,∃n5,some (tuple #[Value.float .f64 n4,int .i64 n5])=some r7∧
 Br (decide (((wrap .i64 ((wrap .i64 (n1+n5))+(wrap .i64 ((wrap .i64 (BitVec.toNat (BitVec.ofInt (IntKind.bits .i64) (wrap .i64 (Int.fdiv ((n4:Nat):Int) (2^(min (Int.toNat 52) (IntKind.bits .u64))))) &&& BitVec.ofInt (IntKind.bits .i64) 2047)))-1023)))):Int)<(-1075))) (Cl k8 329 #[Value.float .f64 0,Value.float .f64 n4] fun k10 r9=>∃n6:Nat,some (Value.float .f64 n6)=some r9∧
 Rt R k10 (Value.float .f64 n6)) (Br (decide (((wrap .i64 ((wrap .i64 (n1+n5))+(wrap .i64 ((wrap .i64 (BitVec.toNat (BitVec.ofInt (IntKind.bits .i64) (wrap .i64 (Int.fdiv ((n4:Nat):Int) (2^(min (Int.toNat 52) (IntKind.bits .u64))))) &&& BitVec.ofInt (IntKind.bits .i64) 2047)))-1023)))):Int) > 1023)) (Br (Ieee.Format.order (FloatKind.format .f64) n4 0 == some Ordering.lt) (Cl k8 233 #[int .i64 (-1)] fun k13 r12=>∃n6:Nat,some (Value.float .f64 n6)=some r12∧
 Rt R k13 (Value.float .f64 n6)) (Cl k8 233 #[int .i64 1] fun k16 r15=>∃n6:Nat,some (Value.float .f64 n6)=some r15∧
 Rt R k16 (Value.float .f64 n6))) (Br (decide (((wrap .i64 ((wrap .i64 (n1+n5))+(wrap .i64 ((wrap .i64 (BitVec.toNat (BitVec.ofInt (IntKind.bits .i64) (wrap .i64 (Int.fdiv ((n4:Nat):Int) (2^(min (Int.toNat 52) (IntKind.bits .u64))))) &&& BitVec.ofInt (IntKind.bits .i64) 2047)))-1023)))):Int)<(-1022))) ((Sy.fltR .f64 .mul 4368491638549381120 (Int.toNat (wrap .u64 (BitVec.toNat (BitVec.ofInt (IntKind.bits .u64) (wrap .u64 (BitVec.toNat (BitVec.ofInt (IntKind.bits .u64) ((n4:Nat):Int) &&& ~~~(BitVec.ofInt (IntKind.bits .u64) 9218868437227405312)))) ||| BitVec.ofInt (IntKind.bits .u64) (wrap .u64 ((wrap .u64 (wrap .i64 ((wrap .i64 ((wrap .i64 ((wrap .i64 (n1+n5))+(wrap .i64 ((wrap .i64 (BitVec.toNat (BitVec.ofInt (IntKind.bits .i64) (wrap .i64 (Int.fdiv ((n4:Nat):Int) (2^(min (Int.toNat 52) (IntKind.bits .u64))))) &&& BitVec.ofInt (IntKind.bits .i64) 2047)))-1023))))+53))+1023)))*2^(min (Int.toNat 52) (IntKind.bits .u64))))))))).isSome=true∧
 (Rt R k8 (Value.float .f64 ((Sy.fltR .f64 .mul 4368491638549381120 (Int.toNat (wrap .u64 (BitVec.toNat (BitVec.ofInt (IntKind.bits .u64) (wrap .u64 (BitVec.toNat (BitVec.ofInt (IntKind.bits .u64) ((n4:Nat):Int) &&& ~~~(BitVec.ofInt (IntKind.bits .u64) 9218868437227405312)))) ||| BitVec.ofInt (IntKind.bits .u64) (wrap .u64 ((wrap .u64 (wrap .i64 ((wrap .i64 ((wrap .i64 ((wrap .i64 (n1+n5))+(wrap .i64 ((wrap .i64 (BitVec.toNat (BitVec.ofInt (IntKind.bits .i64) (wrap .i64 (Int.fdiv ((n4:Nat):Int) (2^(min (Int.toNat 52) (IntKind.bits .u64))))) &&& BitVec.ofInt (IntKind.bits .i64) 2047)))-1023))))+53))+1023)))*2^(min (Int.toNat 52) (IntKind.bits .u64))))))))).getD 0)))) ((Sy.fltR .f64 .mul 4607182418800017408 (Int.toNat (wrap .u64 (BitVec.toNat (BitVec.ofInt (IntKind.bits .u64) (wrap .u64 (BitVec.toNat (BitVec.ofInt (IntKind.bits .u64) ((n4:Nat):Int) &&& ~~~(BitVec.ofInt (IntKind.bits .u64) 9218868437227405312)))) ||| BitVec.ofInt (IntKind.bits .u64) (wrap .u64 ((wrap .u64 (wrap .i64 ((wrap .i64 ((wrap .i64 (n1+n5))+(wrap .i64 ((wrap .i64 (BitVec.toNat (BitVec.ofInt (IntKind.bits .i64) (wrap .i64 (Int.fdiv ((n4:Nat):Int) (2^(min (Int.toNat 52) (IntKind.bits .u64))))) &&& BitVec.ofInt (IntKind.bits .i64) 2047)))-1023))))+1023)))*2^(min (Int.toNat 52) (IntKind.bits .u64))))))))).isSome=true∧
 (Rt R k8 (Value.float .f64 ((Sy.fltR .f64 .mul 4607182418800017408 (Int.toNat (wrap .u64 (BitVec.toNat (BitVec.ofInt (IntKind.bits .u64) (wrap .u64 (BitVec.toNat (BitVec.ofInt (IntKind.bits .u64) ((n4:Nat):Int) &&& ~~~(BitVec.ofInt (IntKind.bits .u64) 9218868437227405312)))) ||| BitVec.ofInt (IntKind.bits .u64) (wrap .u64 ((wrap .u64 (wrap .i64 ((wrap .i64 ((wrap .i64 (n1+n5))+(wrap .i64 ((wrap .i64 (BitVec.toNat (BitVec.ofInt (IntKind.bits .i64) (wrap .i64 (Int.fdiv ((n4:Nat):Int) (2^(min (Int.toNat 52) (IntKind.bits .u64))))) &&& BitVec.ofInt (IntKind.bits .i64) 2047)))-1023))))+1023)))*2^(min (Int.toNat 52) (IntKind.bits .u64))))))))).getD 0)))))))))) :
   CallsG Tryz.prog 300 #[Value.float .f64 n0,int .i64 n1] k R:=
  qX { opq:=[] } [.one (.var 0),.one (.var 1)] [Value.float .f64 n0,int .i64 n1] [.flt .f64,.int .i64] ⟨⟨_,rfl⟩,⟨_,rfl⟩,trivial⟩ h
theorem aHb {n0:Nat} 
 (h:Cl k 300 #[Value.float .f64 n0,int .i64 n1] fun k1 r0=>∃n2:Nat,some (Value.float .f64 n2)=some r0∧
 Rt R k1 (Value.float .f64 n2)) :
  CallsG Tryz.prog 234 #[Value.float .f64 n0,int .i64 n1] k R:=
  qX { opq:=[] } [.one (.var 0),.one (.var 1)] [Value.float .f64 n0,int .i64 n1] [.flt .f64,.int .i64] ⟨⟨_,rfl⟩,⟨_,rfl⟩,trivial⟩ h
theorem aHc {n0:Nat}
 (h:Br (Ieee.Format.order (FloatKind.format .f64) n0 0 == some Ordering.eq) (Rt R k (tuple #[Value.float .f64 n0,int .i64 0])) (Cl k 127 #[Value.float .f64 n0,int .i64 0] fun k2 r1=>Gb r1 fun b1=>
 Br b1 (Rt R k2 (tuple #[Value.float .f64 n0,int .i64 0])) (Cl k2 128 #[Value.float .f64 n0] fun k5 r4=>Gb r4 fun b2=>
 Br b2 (Rt R k5 (tuple #[Value.float .f64 n0,int .i64 0])) (Cl k5 328 #[Value.float .f64 n0] fun k8 r7=>∃n3:Nat,∃n4,some (tuple #[Value.float .f64 n3,int .i64 n4])=some r7∧
 Rt R k8 (tuple #[Value.float .f64 (Int.toNat (wrap .u64 (BitVec.toNat (BitVec.ofInt (IntKind.bits .u64) (wrap .u64 (BitVec.toNat (BitVec.ofInt (IntKind.bits .u64) ((n3:Nat):Int) &&& ~~~(BitVec.ofInt (IntKind.bits .u64) 9218868437227405312)))) ||| BitVec.ofInt (IntKind.bits .u64) 4602678819172646912)))),int .i64 (wrap .i64 (n4+(wrap .i64 ((wrap .i64 ((wrap .i64 (wrap .u64 (BitVec.toNat (BitVec.ofInt (IntKind.bits .u64) (Int.fdiv ((n3:Nat):Int) (2^(min (Int.toNat 52) (IntKind.bits .u64)))) &&& BitVec.ofInt (IntKind.bits .u64) 2047))))-1023))+1))))]))))) :
  CallsG Tryz.prog 302 #[Value.float .f64 n0] k R:=
  qX { opq:=[] } [.one (.var 0)] [Value.float .f64 n0] [.flt .f64] ⟨⟨_,rfl⟩,trivial⟩ h
theorem aHa {n0:Nat}
 (h:Cl k 302 #[Value.float .f64 n0] fun k1 r0=>∃n1:Nat,∃n2,some (tuple #[Value.float .f64 n1,int .i64 n2])=some r0∧
 Rt R k1 (tuple #[Value.float .f64 n1,int .i64 n2])) :
  CallsG Tryz.prog 235 #[Value.float .f64 n0] k R:=
  qX { opq:=[] } [.one (.var 0)] [Value.float .f64 n0] [.flt .f64] ⟨⟨_,rfl⟩,trivial⟩ h
theorem aWw {n3:Nat}
 (h:Br b0 (Rt R k (Value.float .f64 (Op.negFloat .f64 n3))) (Rt R k (Value.float .f64 n3))) :
 CallsG Tryz.prog 232 #[agg #[bool b0,slice A1 l1 c1,slice A2 l2 c2],Value.float .f64 n3] k R:=
 qX { opq:=[] } [.agg (qV 0 3),.one (.var 3)] [bool b0,slice A1 l1 c1,slice A2 l2 c2,Value.float .f64 n3] [.bool,.slice,.slice,.flt .f64] ⟨⟨_,rfl⟩,qS,qS,⟨_,rfl⟩,trivial⟩ h
theorem aWu 
 (h:Cl k 230 #[slice A1 l1 c1,int .i64 (if (decide ((n2:Int)<0))=true then 0 else n2)] fun k1 r0=>∃A3 l3 c3,some (slice A3 l3 c3)=some r0∧
 Cl k1 230 #[slice A0 l0 c0,int .i64 (if (decide (((wrap .i64 (0-n2)):Int)<0))=true then 0 else (wrap .i64 (0-n2)))] fun k3 r2=>∃A4 l4 c4,some (slice A4 l4 c4)=some r2∧
 Cl k3 195 #[slice A4 l4 c4,slice A3 l3 c3] fun k5 r4=>∃A5 l5 c5,∃A6 l6 c6,some (tuple #[slice A5 l5 c5,slice A6 l6 c6])=some r4∧
 Cl k5 230 #[slice A6 l6 c6,int .i64 1] fun k7 r6=>∃A7 l7 c7,some (slice A7 l7 c7)=some r6∧
 Cl k7 191 #[slice A7 l7 c7,slice A3 l3 c3] fun k9 r8=>Gi r8 fun n8=>
 Br (decide ((n8:Int) > 0)) (Cl k9 189 #[int .u64 1] fun k11 r10=>∃A9 l9 c9,some (slice A9 l9 c9)=some r10∧
 Cl k11 190 #[slice A5 l5 c5,slice A9 l9 c9] fun k13 r12=>∃A10 l10 c10,some (slice A10 l10 c10)=some r12∧
 Rt R k13 (slice A10 l10 c10)) (Br ((n8:Int) == 0) (Cl k9 298 #[slice A5 l5 c5,int .i64 0] fun k16 r15=>∃n9,some (int .u64 n9)=some r15∧
 Br ((n9:Int) == 1) (Cl k16 189 #[int .u64 1] fun k18 r17=>∃A10 l10 c10,some (slice A10 l10 c10)=some r17∧
 Cl k18 190 #[slice A5 l5 c5,slice A10 l10 c10] fun k20 r19=>∃A11 l11 c11,some (slice A11 l11 c11)=some r19∧
 Rt R k20 (slice A11 l11 c11)) (Rt R k16 (slice A5 l5 c5))) (Rt R k9 (slice A5 l5 c5)))) :
  CallsG Tryz.prog 231 #[slice A0 l0 c0,slice A1 l1 c1,int .i64 n2] k R:=
  qY { opq:=[] } h
theorem aSv 
 (h:Cl k 104 #[slice A5 l5 c5] fun k1 r0=>∃A6 l6 c6,some (slice A6 l6 c6)=some r0∧
 Tt∧(Br (((l4:Nat):Int) == 0) (Rt R k1 (Value.float .f64 0)) (Cl k1 229 #[slice A4 l4 c4] fun k4 r3=>Gi r3 fun n7=>
 Cl k4 229 #[slice A6 l6 c6] fun k6 r5=>Gi r5 fun n8=>
 Cl k6 230 #[slice A4 l4 c4,int .i64 (if (decide (((wrap .i64 (0-(if (decide (((wrap .i64 ((wrap .i64 (n7-n8))-n0)):Int)<n1))=true then n1 else (wrap .i64 ((wrap .i64 (n7-n8))-n0))))):Int)<0))=true then 0 else (wrap .i64 (0-(if (decide (((wrap .i64 ((wrap .i64 (n7-n8))-n0)):Int)<n1))=true then n1 else (wrap .i64 ((wrap .i64 (n7-n8))-n0))))))] fun k8 r7=>∃A9 l9 c9,some (slice A9 l9 c9)=some r7∧
 Cl k8 230 #[slice A6 l6 c6,int .i64 (if (decide (((if (decide (((wrap .i64 ((wrap .i64 (n7-n8))-n0)):Int)<n1))=true then n1 else (wrap .i64 ((wrap .i64 (n7-n8))-n0))):Int)<0))=true then 0 else (if (decide (((wrap .i64 ((wrap .i64 (n7-n8))-n0)):Int)<n1))=true then n1 else (wrap .i64 ((wrap .i64 (n7-n8))-n0))))] fun k10 r9=>∃A10 l10 c10,some (slice A10 l10 c10)=some r9∧
 Cl k10 195 #[slice A9 l9 c9,slice A10 l10 c10] fun k12 r11=>∃A11 l11 c11,∃A12 l12 c12,some (tuple #[slice A11 l11 c11,slice A12 l12 c12])=some r11∧
 Cl k12 229 #[slice A11 l11 c11] fun k14 r13=>Gi r13 fun n13=>
 Br (decide ((n13:Int) > n0)) (Cl k14 231 #[slice A4 l4 c4,slice A6 l6 c6,int .i64 (wrap .i64 ((if (decide (((wrap .i64 ((wrap .i64 (n7-n8))-n0)):Int)<n1))=true then n1 else (wrap .i64 ((wrap .i64 (n7-n8))-n0)))+1))] fun k16 r15=>∃A14 l14 c14,some (slice A14 l14 c14)=some r15∧
 Cl k16 229 #[slice A14 l14 c14] fun k18 r17=>Gi r17 fun n15=>
 Br (decide (((wrap .i64 (n15+(wrap .i64 ((if (decide (((wrap .i64 ((wrap .i64 (n7-n8))-n0)):Int)<n1))=true then n1 else (wrap .i64 ((wrap .i64 (n7-n8))-n0)))+1)))):Int) > n2)) (Cl k18 233 #[int .i64 1] fun k20 r19=>∃n16:Nat,some (Value.float .f64 n16)=some r19∧
 Cl k20 232 #[agg #[bool b3,slice A4 l4 c4,slice A5 l5 c5],Value.float .f64 n16] fun k22 r21=>∃n17:Nat,some (Value.float .f64 n17)=some r21∧
 Rt R k22 (Value.float .f64 n17)) (Tt∧(Br (((l14:Nat):Int) == 0) (Rt R k18 (Value.float .f64 0)) (Ad A14∧((0:Int)≤0∧(0:Int)<(l14:Nat))∧
 ∃n16,Sy.ReadAt k18.cell? A14 (Int.toNat 0*1+0) 1 (int .u64 n16)∧
 Cl k18 234 #[Value.float .f64 (FloatKind.nearest .f64 n16),int .i64 (wrap .i64 ((if (decide (((wrap .i64 ((wrap .i64 (n7-n8))-n0)):Int)<n1))=true then n1 else (wrap .i64 ((wrap .i64 (n7-n8))-n0)))+1))] fun k26 r25=>∃n17:Nat,some (Value.float .f64 n17)=some r25∧
 Cl k26 232 #[agg #[bool b3,slice A4 l4 c4,slice A5 l5 c5],Value.float .f64 n17] fun k28 r27=>∃n18:Nat,some (Value.float .f64 n18)=some r27∧
 Rt R k28 (Value.float .f64 n18))))) (Cl k14 231 #[slice A4 l4 c4,slice A6 l6 c6,int .i64 (if (decide (((wrap .i64 ((wrap .i64 (n7-n8))-n0)):Int)<n1))=true then n1 else (wrap .i64 ((wrap .i64 (n7-n8))-n0)))] fun k31 r30=>∃A14 l14 c14,some (slice A14 l14 c14)=some r30∧
 Cl k31 229 #[slice A14 l14 c14] fun k33 r32=>Gi r32 fun n15=>
 Br (decide (((wrap .i64 (n15+(if (decide (((wrap .i64 ((wrap .i64 (n7-n8))-n0)):Int)<n1))=true then n1 else (wrap .i64 ((wrap .i64 (n7-n8))-n0))))):Int) > n2)) (Cl k33 233 #[int .i64 1] fun k35 r34=>∃n16:Nat,some (Value.float .f64 n16)=some r34∧
 Cl k35 232 #[agg #[bool b3,slice A4 l4 c4,slice A5 l5 c5],Value.float .f64 n16] fun k37 r36=>∃n17:Nat,some (Value.float .f64 n17)=some r36∧
 Rt R k37 (Value.float .f64 n17)) (Tt∧(Br (((l14:Nat):Int) == 0) (Rt R k33 (Value.float .f64 0)) (Ad A14∧((0:Int)≤0∧(0:Int)<(l14:Nat))∧
 ∃n16,Sy.ReadAt k33.cell? A14 (Int.toNat 0*1+0) 1 (int .u64 n16)∧
 Cl k33 234 #[Value.float .f64 (FloatKind.nearest .f64 n16),int .i64 (if (decide (((wrap .i64 ((wrap .i64 (n7-n8))-n0)):Int)<n1))=true then n1 else (wrap .i64 ((wrap .i64 (n7-n8))-n0)))] fun k41 r40=>∃n17:Nat,some (Value.float .f64 n17)=some r40∧
 Cl k41 232 #[agg #[bool b3,slice A4 l4 c4,slice A5 l5 c5],Value.float .f64 n17] fun k43 r42=>∃n18:Nat,some (Value.float .f64 n18)=some r42∧
 Rt R k43 (Value.float .f64 n18)))))))) :
  CallsG Tryz.prog 145 #[agg #[int .i64 n0,int .i64 n1,int .i64 n2],agg #[bool b3,slice A4 l4 c4,slice A5 l5 c5]] k R:=
  qY { opq:=[] } h
theorem xL
 (h:Rt R k (agg #[int .i64 24,int .i64 (-149),int .i64 128])) :
 CallsG Tryz.prog 144 #[] k R:=
 qX { opq:=[] } [] [] [] trivial h
theorem mI {n0:Nat}
 (h:Cl k 128 #[Value.float .f64 n0] fun k1 r0=>Gb r0 fun b1=>
 Br b1 (Rt R k1 (tuple #[agg #[bool false,slice none 0 0,slice none 0 0],int .i64 1])) (Cl k1 127 #[Value.float .f64 n0,int .i64 0] fun k4 r3=>Gb r3 fun b2=>
 Br b2 (Rt R k4 (tuple #[agg #[bool false,slice none 0 0,slice none 0 0],int .i64 1])) (Cl k4 235 #[Value.float .f64 n0] fun k7 r6=>∃n3:Nat,∃n4,some (tuple #[Value.float .f64 n3,int .i64 n4])=some r6∧
 Cl k7 234 #[Value.float .f64 n3,int .i64 53] fun k9 r8=>∃n5:Nat,some (Value.float .f64 n5)=some r8∧
 (Sy.f2iOk .f64 .i64 n5)=true∧
 (Cl k9 148 #[int .i64 (Sy.f2i .f64 n5)] fun k11 r10=>∃b6,∃A7 l7 c7,some (agg #[bool b6,slice A7 l7 c7])=some r10∧
 Br (decide (((wrap .i64 (n4-53)):Int) ≥ 0)) (Cl k11 230 #[slice A7 l7 c7,int .i64 (wrap .i64 (n4-53))] fun k13 r12=>∃A8 l8 c8,some (slice A8 l8 c8)=some r12∧
 Cl k13 171 #[bool b6,slice A8 l8 c8] fun k15 r14=>∃b9,∃A10 l10 c10,some (agg #[bool b9,slice A10 l10 c10])=some r14∧
 Rt R k15 (tuple #[agg #[bool b9,slice A10 l10 c10,slice none 0 0],int .i64 0])) (Cl k11 189 #[int .u64 1] fun k18 r17=>∃A8 l8 c8,some (slice A8 l8 c8)=some r17∧
 Cl k18 230 #[slice A8 l8 c8,int .i64 (wrap .i64 (0-(wrap .i64 (n4-53))))] fun k20 r19=>∃A9 l9 c9,some (slice A9 l9 c9)=some r19∧
 Cl k20 146 #[agg #[bool b6,slice A7 l7 c7],slice A9 l9 c9] fun k22 r21=>∃b10,∃A11 l11 c11,∃A12 l12 c12,some (agg #[bool b10,slice A11 l11 c11,slice A12 l12 c12])=some r21∧
 Rt R k22 (tuple #[agg #[bool b10,slice A11 l11 c11,slice A12 l12 c12],int .i64 0])))))) :
  CallsG Tryz.prog 149 #[Value.float .f64 n0] k R:=
  qX { opq:=[] } [.one (.var 0)] [Value.float .f64 n0] [.flt .f64] ⟨⟨_,rfl⟩,trivial⟩ h
abbrev nrT (R:World→Value→Prop) (gE0:Int) (n100:Int) (k102:World) (gS0:Nat) (n108:Int) (n109:Int) (b120:Bool) (A121:Option Addr) (l122:Nat) (c123:Nat) (A124:Option Addr) (l125:Nat) (c126:Nat):Prop:=
 Br (decide ((gE0:Int) > n100)) (Cl k102 233 #[int .i64 1] fun k103 r104=>∃n105:Nat,some (Value.float .f64 n105)=some r104∧
 (Sy.fltR .f64 .mul gS0 n105).isSome=true∧
 (Rt R k103 (Value.float .f64 ((Sy.fltR .f64 .mul gS0 n105).getD 0)))) (Cl k102 253 #[int .i64 (if (decide (((wrap .i64 ((wrap .i64 (gE0-n108))+1)):Int)<n109))=true then n109 else (wrap .i64 ((wrap .i64 (gE0-n108))+1)))] fun k110 r111=>∃b112,∃A113 l114 c115,∃A116 l117 c118,some (agg #[bool b112,slice A113 l114 c115,slice A116 l117 c118])=some r111∧
 Cl k110 254 #[agg #[bool b120,slice A121 l122 c123,slice A124 l125 c126],agg #[bool b112,slice A113 l114 c115,slice A116 l117 c118]] fun k127 r128=>∃b129,∃A130 l131 c132,∃A133 l134 c135,∃n136,some (tuple #[agg #[bool b129,slice A130 l131 c132,slice A133 l134 c135],int .i64 n136])=some r128∧
 Cl k127 253 #[int .i64 (if (decide (((wrap .i64 ((wrap .i64 (gE0-n108))+1)):Int)<n109))=true then n109 else (wrap .i64 ((wrap .i64 (gE0-n108))+1)))] fun k138 r139=>∃b140,∃A141 l142 c143,∃A144 l145 c146,some (agg #[bool b140,slice A141 l142 c143,slice A144 l145 c146])=some r139∧
 Cl k138 91 #[agg #[bool b129,slice A130 l131 c132,slice A133 l134 c135],agg #[bool b140,slice A141 l142 c143,slice A144 l145 c146]] fun k148 r149=>∃b150,∃A151 l152 c153,∃A154 l155 c156,some (agg #[bool b150,slice A151 l152 c153,slice A154 l155 c156])=some r149∧
 Cl k148 255 #[agg #[bool b150,slice A151 l152 c153,slice A154 l155 c156]] fun k158 r159=>∃n160,∃b161,some (tuple #[int .i64 n160,bool b161])=some r159∧
 Br ((n160:Int) == 0) (Rt R k158 (Value.float .f64 0)) (∃J163:World→List Value→Prop,((decide ((0:Int)≤(wrap .u64 n108)))=true∧
 (Br ((n160:Int) == (wrap .i64 (1*2^(min (Int.toNat (wrap .u64 n108)) (IntKind.bits .i64))))) (∀k164,Up k158 k164→J163 k164 [bool (((if (decide (((wrap .i64 ((wrap .i64 (gE0-n108))+1)):Int)<n109))=true then n109 else (wrap .i64 ((wrap .i64 (gE0-n108))+1))):Int) == (wrap .i64 ((wrap .i64 (n100-n108))+1)))]) (∀k165,Up k158 k165→J163 k165 [bool false])))∧
 ∀k166 vs167,Up k158 k166→J163 k166 vs167→∃b168,some [bool b168]=some vs167∧
 Br b168 (Cl k166 233 #[int .i64 1] fun k170 r171=>∃n172:Nat,some (Value.float .f64 n172)=some r171∧
 (Sy.fltR .f64 .mul gS0 n172).isSome=true∧
 (Rt R k170 (Value.float .f64 ((Sy.fltR .f64 .mul gS0 n172).getD 0)))) (∃I174:Nat→World→List Value→Prop,(∃m175,∀k176,Up k166 k176→I174 m175 k176 [Value.float .f64 (FloatKind.nearest .f64 n160),int .i64 (if (decide (((wrap .i64 ((wrap .i64 (gE0-n108))+1)):Int)<n109))=true then n109 else (wrap .i64 ((wrap .i64 (gE0-n108))+1)))])∧
 ∀m175 k176 vs177,Up k166 k176→I174 m175 k176 vs177→∃n172:Nat,∃n178,some [Value.float .f64 n172,int .i64 n178]=some vs177∧
 Br (decide ((n178:Int) > 0)) ((Sy.fltR .f64 .mul n172 4611686018427387904).isSome=true∧
 (∀k179,Up k176 k179→∃m,m<m175∧I174 m k179 [Value.float .f64 ((Sy.fltR .f64 .mul n172 4611686018427387904).getD 0),int .i64 (wrap .i64 (n178-1))])) (Br (decide ((n178:Int)<(-1000))) ((Sy.fltR .f64 .mul gS0 n172).isSome=true∧
 ((Sy.fltR .f64 .mul ((Sy.fltR .f64 .mul gS0 n172).getD 0) 103582791429521408).isSome=true∧
 (Cl k176 256 #[int .i64 (wrap .i64 (n178+1000))] fun k181 r182=>∃n183:Nat,some (Value.float .f64 n183)=some r182∧
 (Sy.fltR .f64 .mul ((Sy.fltR .f64 .mul ((Sy.fltR .f64 .mul gS0 n172).getD 0) 103582791429521408).getD 0) n183).isSome=true∧
 (Rt R k181 (Value.float .f64 ((Sy.fltR .f64 .mul ((Sy.fltR .f64 .mul ((Sy.fltR .f64 .mul gS0 n172).getD 0) 103582791429521408).getD 0) n183).getD 0)))))) ((Sy.fltR .f64 .mul gS0 n172).isSome=true∧
 (Cl k176 256 #[int .i64 n178] fun k186 r187=>∃n183:Nat,some (Value.float .f64 n183)=some r187∧
 (Sy.fltR .f64 .mul ((Sy.fltR .f64 .mul gS0 n172).getD 0) n183).isSome=true∧
 (Rt R k186 (Value.float .f64 ((Sy.fltR .f64 .mul ((Sy.fltR .f64 .mul gS0 n172).getD 0) n183).getD 0)))))))))
end Go.Proofs.YtifcjpacobpdmaaGreat

namespace Go.Proofs.YtifcjpacobpdmaaGreat
open Num
def flr (q:Rat):Int:=q.num/(q.den:Int)
def bCa (q:Rat) (k:Nat):Rat:=mkRat (q.num*((2^k:Nat):Int) / (q.den:Int)) (2^k)
def bBz (n:Int):Nat:=(min 1000 (max 0 n)).toNat
def rcmp (y:Rat):Int:=(y-(flr y:Rat)-mkRat 1 2).num.sign
def rup (y:Rat):Bool:=decide (0<rcmp y) || (decide (rcmp y=0) && decide (flr y % 2=1))
def aZq (x s:Rat):Rat:=(if rup (x/s)=true then (flr (x/s):Rat)+1 else (flr (x/s):Rat))*s
def bCf (x s:Rat):Rat:=if s.num.sign≤0 then 0 else aZq x s
def halved (x:Rat):Nat→Rat
 | 0=>x
 | j+1=>halved x j/2
open IntKind (wrap)
open Go.RowKit
open Value (agg slice int bool tuple)
open Sy (Up Sees CallsG Seg execFn_use)
set_option maxRecDepth 100000
variable {k:World}{R:World→Value→Prop}{A0:Option Addr}{c0 l0:Nat}{n1:Int}
theorem aYl 
 (h:Br (decide ((n1:Int)<0)) (Rt R k (int .u64 0)) (Tt∧(Br (decide (((wrap .i64 (Int.tdiv n1 64)):Int) ≥ (l0:Nat))) (Rt R k (int .u64 0)) (Ad A0∧((0:Int)≤(wrap .i64 (Int.tdiv n1 64))∧((wrap .i64 (Int.tdiv n1 64)):Int)<(l0:Nat))∧
 ∃n2,Sy.ReadAt k.cell? A0 (Int.toNat (wrap .i64 (Int.tdiv n1 64))*1+0) 1 (int .u64 n2)∧
 (decide ((0:Int)≤(Int.tmod n1 64)))=true∧
 (Rt R k (int .u64 (wrap .u64 (BitVec.toNat (BitVec.ofInt (IntKind.bits .u64) (Int.fdiv n2 (2^(min (Int.toNat (Int.tmod n1 64)) (IntKind.bits .u64)))) &&& BitVec.ofInt (IntKind.bits .u64) 1))))))))) :
   CallsG Tryz.prog 298 #[slice A0 l0 c0,int .i64 n1] k R:=
  qY { opq:=[] } h
end Go.Proofs.YtifcjpacobpdmaaGreat

namespace Go.Proofs.YtifcjpacobpdmaaGreat
open IntKind (wrap)
open Go.RowKit Num
open Sy (Up Sees CallsG Seg)
section
variable {k k':World}{A A':Option Addr}{n n' c c' a b:Nat}{cs cs':Array Value}{bz:Bool}{R:World→Value→Prop}{x y q:Rat}{z:Int}{K L:Nat}
theorem fN {s:Nat}(h:LimR k A n c a) (hn:n≤17179869184) (hs:s≤17179869184)
 (K:∀k' B j d,Up k k'→LimR k' B j d (a*2^s)→j≤n+s→R k' (.slice B j d)):Cl k 230 #[.slice A n c,.int .i64 (s:Int)] R:=
 after (fun _k0 u=>aEm fun _w hs'=>aZf ((h.up u).sees hs') hn hs) fun k' _v u ⟨B,j,d,e,h1,h2⟩=>e▸K k' B j d u h1 h2
theorem kF {neg:Bool}(h:LimR k A n c a) (hn:n≤1152921504606846976) (hK:n≤K)
 (C:∀k' ds,Up k k'→IntV k' ds (sgn neg a) K→R k' (.agg ds)):Cl k 171 #[.bool neg,.slice A n c] R:=
 after (fun _k0 u=>aEf fun _w hs=>iT neg ((h.up u).sees hs) hn) fun k' v u hv=>by
  obtain⟨ds,rfl,hd⟩:=jR hv;exact C k' ds u (hd.mono hK)
theorem IntV.open (h:IntV k cs z K):∃b A n c,cs=#[.bool b,.slice A n c]∧IntV k #[.bool b,.slice A n c] z K:=by
 obtain⟨b,A,n,c,rfl,h⟩:=h;exact⟨b,A,n,c,rfl,b,A,n,c,rfl,h⟩
theorem aTv {m:Nat}(hm:m<18446744073709551616):wrap .u64 ((BitVec.toNat (BitVec.ofInt (IntKind.bits .u64) (Int.fdiv (m:Int) (2^(min (Int.toNat (Int.tmod 0 64)) (IntKind.bits .u64)))) &&& BitVec.ofInt (IntKind.bits .u64) 1):Nat):Int)=((m % 2:Nat):Int):=by
 have e1:(2:Int)^(min (Int.toNat (Int.tmod 0 64)) (IntKind.bits .u64))=1:=oz
 have e2:((m:Int) % ((2^IntKind.bits .u64:Nat):Int)).toNat=m:=by rw [show 2^IntKind.bits .u64=18446744073709551616 from rfl];omega
 have e3:((1:Int) % ((2^IntKind.bits .u64:Nat):Int)).toNat=1:=oz
 rw [e1,Int.fdiv_one,BitVec.toNat_and,BitVec.toNat_ofInt,BitVec.toNat_ofInt,e2,e3,Nat.and_one_is_mod,IntKind.wrap_u64];omega
theorem aWn (a:Nat):wq a 0 % 2=a % 2:=by unfold wq wd;rw [zy,ka];unfold B64;omega
theorem bAm (h:LimR k A n c a) (C:∀k',Up k k'→R k' (.int .u64 ((a % 2:Nat):Int))) :
 Cl k 298 #[.slice A n c,.int .i64 0] R:=by
 intro k0 u0;replace h:=h.up u0;replace C:=fun k' u=>C k' (u0.trans u);refine aYl ⟨fun h0=>absurd h0 oz,fun _=>⟨rfl,fun h1=>?_,fun h1=>?_⟩⟩
 ·have hn:n=0:=by
   have:=ow h1;rw [show wrap .i64 (Int.tdiv 0 64)=0 from by decide]at this;omega
  have ha:a=0:=by rw [h.zero_iff]at hn;exact hn
  subst ha;exact fun k1 u1=>C k1 u1
 ·have hn:0<n:=by
   have:=ov h1;rw [show wrap .i64 (Int.tdiv 0 64)=0 from by decide]at this;omega
  rw [show wrap .i64 (Int.tdiv 0 64)=0 from by decide];have hl:=h.len;obtain⟨b,o,rfl,hb,hw⟩:=RW.at_ h.lr (by rw [←h.len];exact hn);have h0:=hw 0 (by rw [←h.len];exact hn);refine⟨⟨b,o,rfl⟩,⟨oz,oq⟩,((wq a 0:Nat):Int),⟨rfl,fun j u hu=>?_⟩,oz,fun k2 u2=>?_⟩
  ·cases j with
   | zero=>
    have e:u=.int .u64 ((wq a 0:Nat):Int):=by
     have h1:(#[Value.int .u64 ((wq a 0:Nat):Int)]:Array Value)[0]?=some u:=hu;simpa using h1.symm
    subst e;show Sy.cellAt _ _ _=_;unfold Sy.cellAt;have e2:o+(Int.toNat 0*1+0+0)=o+0:=by simp
    simp only [e2,h0];rfl
   | succ j=>
    have h1:(#[Value.int .u64 ((wq a 0:Nat):Int)]:Array Value)[j+1]?=some u:=hu;simp at h1
  ·have:=C k2 u2;rw [aTv (show wq a 0<18446744073709551616 from qy _ oz)];rw [aWn];exact this
end
open Ieee
namespace FT
theorem eA {m k:Nat}(hm:m≠0):(m*2^k).log2=m.log2+k:=by
 have h1:2^m.log2≤m:=Nat.log2_self_le hm;have h2:m<2^(m.log2+1):=Nat.lt_log2_self;have hne:m*2^k≠0:=jm hm (by have:=ot k;omega);apply vj
 ·have:m*2^k<2^(m.log2+k+1):=by
   rw [show m.log2+k+1=(m.log2+1)+k by omega,oi];exact qa h2 (ot k)
  have:=(zg hne).2 this;omega
 ·have:2^(m.log2+k)≤m*2^k:=by
   rw [oi];exact om _ h1
  exact (Nat.le_log2 hne).2 this
def half (n G:Nat):Nat:=n/G+(decide (G<2*(n % G)) || (G == 2*(n % G) && n/G % 2 == 1)).toNat
theorem pO (neg:Bool) (n drop:Nat):Toward.even.cut neg n drop=half n (2^min drop (n.log2+2)):=by
 rw [←Nat.one_shiftLeft];rfl
theorem oG {a G:Nat}(hG:0<G):half (a*G) G=a:=by
 unfold half;rw [yf _ hG,Nat.mul_mod_left];have h0:(G == 2*0)=false:=by
  rw [beq_eq_false_iff_ne];omega
 simp [h0]
theorem tS {a G k:Nat}(hk:0<k):half (a*k) (G*k)=half a G:=by
 unfold half;rw [wu _ _ hk,yc];generalize a % G=r;generalize a/G=q;have e1:decide (G*k<2*(r*k))=decide (G<2*r):=by
  apply decide_eq_decide.2;rw [←qf];exact Nat.mul_lt_mul_right hk
 have e2:(G*k == 2*(r*k))=(G == 2*r):=by
  rw [←qf]
  by_cases c:G=2*r
  ·rw [c];simp
  ·have:G*k≠2*r*k:=fun h=>c (Nat.eq_of_mul_eq_mul_right hk h);rw [beq_eq_false_iff_ne.2 this,beq_eq_false_iff_ne.2 c]
 rw [e1,e2]
theorem gC (neg:Bool) (n:Nat):Toward.even.cut neg n 0=n:=by
 rw [pO,Nat.zero_min];have:=oG (a:=n) (G:=1) oz
 rwa [jj]at this
theorem aJa (neg:Bool) {m k drop:Nat}(hm:m≠0) (h:drop≤k):Toward.even.cut neg (m*2^k) drop=m*2^(k-drop):=by
 rw [pO,eA (k:=k) hm,we oq];have e:m*2^k=m*2^(k-drop)*2^drop:=by
  rw [qf,←oi,show k-drop+drop=k by omega]
 rw [e];exact oG (ot drop)
theorem aIz (neg:Bool) {m k drop:Nat}(hm:m≠0):Toward.even.cut neg (m*2^k) (drop+k)=Toward.even.cut neg m drop:=by
 rw [pO,pO,eA (k:=k) hm,show min (drop+k) (m.log2+k+2)=min drop (m.log2+2)+k by omega,oi];exact tS (ot k)
variable {f:Ieee.Format}
def last (f:Ieee.Format) (m:Nat) (p:Int):Int:=max (p+m.log2-f.fractionBits) f.leastPlace
theorem dB {neg:Bool}{m:Nat}{p:Int}(hm:m≠0):f.nearest neg m p =
 f.word neg (min ((last f m p-f.leastPlace).toNat*f.binade+Toward.even.cut neg (m <<< (p-last f m p).toNat) (last f m p-p).toNat) f.infRung):=by
 unfold Format.nearest last;rw [oh hm]
theorem cQ {neg:Bool}{m k:Nat}{p:Int}(hm:m≠0):f.nearest neg (m*2^k) (p-k)=f.nearest neg m p:=by
 have hne:m*2^k≠0:=jm hm (by have:=ot k;omega);have hl:last f (m*2^k) (p-k)=last f m p:=by
  unfold last;rw [eA hm]
  congr 1
  omega
 rw [dB hne,dB hm,hl];generalize last f m p=q;have e:Toward.even.cut neg ((m*2^k) <<< (p-k-q).toNat) (q-(p-k)).toNat=Toward.even.cut neg (m <<< (p-q).toNat) (q-p).toNat:=by
  rw [zf,zf]
  by_cases c:p<q
  ·rw [show (p-k-q).toNat=0 by omega,show (p-q).toNat=0 by omega,show (q-(p-k)).toNat=(q-p).toNat+k by omega,zy,jj,jj];exact aIz neg hm
  ·rw [show (q-p).toNat=0 by omega,gC]
   by_cases d:p-k<q
   ·rw [show (p-k-q).toNat=0 by omega,zy,jj,aJa neg hm oq]
    congr 2
    omega
   ·rw [show (q-(p-k)).toNat=0 by omega,gC,qf,←oi]
    congr 2
    omega
 rw [e]
structure Good (f:Ieee.Format):Prop where
 frac:1≤f.fractionBits
 exp:2≤f.exponentBits
theorem aN:Good Ieee.double:=⟨oz,oz⟩
theorem eO:Good Ieee.single:=⟨oz,oz⟩
theorem aIc:f.signWeight=2^f.exponentBits*f.binade:=by
 unfold Format.signWeight Format.binade;rw [oi]
theorem mW:0<f.binade:=ot _
theorem aOf:f.infRung<f.signWeight:=by
 rw [aIc];unfold Format.infRung;have:=ot f.exponentBits;exact qa oq mW
theorem qC {neg:Bool}{r:Nat}(h:r<f.signWeight):f.read (f.word neg r) =
 if r<f.binade then .number neg r f.leastPlace
 else if r<f.infRung then .number neg (f.binade+r % f.binade) (f.leastPlace+(r/f.binade-1:Nat))
 else if r=f.infRung then .infinity neg
 else .nan neg (r-f.infRung):=by
 have e1:(f.word neg r/f.signWeight % 2 == 1)=neg:=by
  unfold Format.word;cases neg
  ·simp [Nat.div_eq_of_lt h]
  ·have:(f.signWeight+r) / f.signWeight=1:=by
    rw [zj,Nat.add_div_right _ oq,qs h]
   simp [this]
 have e2:f.word neg r % f.signWeight=r:=by
  unfold Format.word;cases neg
  ·simp [Nat.mod_eq_of_lt h]
  ·simp [Nat.mod_eq_of_lt h]
 unfold Format.read;simp only [e1,e2]
structure Has (f:Ieee.Format) (m:Nat) (p:Int):Prop where
 ne:m≠0
 bits:m<2^(f.fractionBits+1)
 low:f.leastPlace≤p
 top:p+m.log2-f.fractionBits-f.leastPlace+3≤2^f.exponentBits
theorem Has.last_le {m:Nat}{p:Int}(h:Has f m p):last f m p≤p:=by
 have hl:m.log2<f.fractionBits+1:=(zg h.ne).2 h.bits;have:=h.low;unfold last;omega
theorem Has.read {neg:Bool}{m:Nat}{p:Int}(g:Good f) (h:Has f m p):f.read (f.nearest neg m p)=.number neg (m*2^(p-last f m p).toNat) (last f m p):=by
 have hl:m.log2<f.fractionBits+1:=(zg h.ne).2 h.bits;have hle:=h.last_le;have hlow:f.leastPlace≤last f m p:=uz _ _;have htop:=h.top;rw [dB h.ne,show (last f m p-p).toNat=0 by omega,gC,zf];have hlog:(m*2^(p-last f m p).toNat).log2=m.log2+(p-last f m p).toNat:=eA h.ne;have hne:m*2^(p-last f m p).toNat≠0:=jm h.ne (by have:=ot (p-last f m p).toNat;omega);have hcase:(last f m p=f.leastPlace∧p+m.log2-f.fractionBits≤f.leastPlace)∨last f m p=p+m.log2-f.fractionBits:=by
  unfold last;omega
 generalize last f m p=q at *
 generalize m*2^(p-q).toNat=kept at *
 have hk2:kept<2*f.binade:=by
  have:kept<2^(f.fractionBits+1):=(zg hne).1 oq;unfold Format.binade;rw [ql]at this;omega
 have hb:=mW (f:=f);have hE:(4:Nat)≤2^f.exponentBits:=by
  have:=oc (n:=2) oz g.exp;simpa using this
 have hinf:f.infRung=(2^f.exponentBits-1)*f.binade:=rfl;have hd:∃d:Nat,q-f.leastPlace=(d:Int)∧d+3≤2^f.exponentBits:=by
  refine⟨(q-f.leastPlace).toNat,oq,?_⟩;have h4:(4:Int)≤((2^f.exponentBits:Nat):Int):=by exact_mod_cast hE
  have h5:((2^f.exponentBits:Nat):Int)=(2:Int)^f.exponentBits:=by norm_cast
  rcases hcase with ⟨c,_⟩|c <;> omega
 obtain⟨d,hd,hd3⟩:=hd;have hlt:d*f.binade+kept<f.infRung:=by
  rw [hinf];have:(d+2)*f.binade≤(2^f.exponentBits-1)*f.binade:=om _ oq;have e:(d+2)*f.binade=d*f.binade+2*f.binade:=by rw [jt]
  omega
 rw [hd,qj,we oq,qC (ze hlt aOf)];rcases hcase with ⟨c,_⟩|c
 ·obtain rfl:d=0:=oq
  rw [je,jx]at hlt ⊢
  by_cases a:kept<f.binade
  ·rw [od a,c]
  ·rw [oh a,od hlt,c];have e1:kept/f.binade=1:=by
    rw [Nat.div_eq_iff hb];omega
   have e2:f.binade+kept % f.binade=kept:=by
    have:=qi kept f.binade;rw [e1]at this;omega
   rw [e1,e2];simp
 ·have hk1:f.binade≤kept:=by
   have:2^f.fractionBits≤kept:=(Nat.le_log2 hne).1 oq;exact this
  have hge:f.binade≤d*f.binade+kept:=oq
  have e0:kept/f.binade=1:=by
   rw [Nat.div_eq_iff hb];omega
  have e1:(d*f.binade+kept) / f.binade=d+1:=by
   rw [zj,oa,jp _ _ hb,e0];omega
  have e2:f.binade+(d*f.binade+kept) % f.binade=kept:=by
   rw [zj (d*f.binade),oa d,zu];have:=qi kept f.binade;rw [e0]at this;omega
  rw [oh oq,od hlt,e1,e2]
  congr 1
  omega
theorem pW {s t:Bool}{m n:Nat}{p q:Int}(g:Good f) (h:Has f m p) (h':Has f n q):f.mul (f.nearest s m p) (f.nearest t n q)=some (f.nearest (s ^^ t) (m*n) (p+q)):=by
 unfold Format.mul;rw [h.read g,h'.read g];show some (f.nearest (s ^^ t) _ _)=_;have a:=h.last_le;have b:=h'.last_le;generalize last f m p=i at *
 generalize last f n q=j at *
 have e:m*2^(p-i).toNat*(n*2^(q-j).toNat)=m*n*2^((p-i).toNat+(q-j).toNat):=by
  rw [oi]
  ac_rfl
 rw [e,show i+j=(p+q)-(((p-i).toNat+(q-j).toNat:Nat):Int) by omega,cQ (jm h.ne h'.ne)]
theorem aSd {s:Bool}{r:Nat}(h:r<f.signWeight):f.word s r ^^^ 2^(f.exponentBits+f.fractionBits)=f.word (!s) r:=by
 have hr:r ^^^ 2^(f.exponentBits+f.fractionBits)=2^(f.exponentBits+f.fractionBits)+r:=by
  have h:r<2^(f.exponentBits+f.fractionBits):=h;generalize f.exponentBits+f.fractionBits=n at h;apply Nat.eq_of_testBit_eq;intro i;rw [Nat.testBit_xor,Nat.testBit_two_pow]
  by_cases c:n=i
  ·subst c;rw [Nat.testBit_two_pow_add_eq,ky h];simp
  ·by_cases d:i<n
   ·rw [Nat.testBit_two_pow_add_gt d];simp [c]
   ·have h1:2^n+r<2^i:=by
     have:2^(n+1)≤2^i:=oc oz oq;rw [ql]at this;omega
    rw [ky h1,ky oq];simp [c]
 unfold Format.word;cases s
 ·exact hr
 ·show (f.signWeight+r) ^^^ _=r;have e:f.signWeight+r=r ^^^ 2^(f.exponentBits+f.fractionBits):=hr.symm;rw [e,Nat.xor_assoc,Nat.xor_self,Nat.xor_zero]
theorem oN (f:Ieee.Format) (neg:Bool) (m:Nat) (p:Int):∃r,r<f.signWeight∧∀s,f.nearest s m p=f.word s r:=by
 by_cases hm:m=0
 ·exact⟨0,by rw [aIc];exact zb (ot _) mW,fun s=>by unfold Format.nearest;rw [od hm]⟩
 ·refine⟨min ((last f m p-f.leastPlace).toNat*f.binade+Toward.even.cut neg (m <<< (p-last f m p).toNat) (last f m p-p).toNat) f.infRung,qe (Nat.min_le_right _ _) aOf,fun s=>?_⟩;rw [dB hm,pO,pO]
theorem aBm {s:Bool}{m:Nat}{p:Int}:f.nearest s m p ^^^ 2^(f.exponentBits+f.fractionBits)=f.nearest (!s) m p:=by
 obtain⟨r,h,e⟩:=oN f s m p;rw [e,e,aSd h]
end FT
namespace FT
theorem pK (w:Nat) (h:w<2^64):(BitVec.ofInt 64 (w:Int)).toNat=w:=by
 rw [BitVec.toNat_ofInt];have:(w:Int) % ((2^64:Nat):Int)=(w:Int):=Int.emod_eq_of_lt oq (by exact_mod_cast h);rw [this,qj]
theorem struck {w:Nat}(h:w<2^64):(BitVec.ofInt 64 (w:Int) &&& ~~~(BitVec.ofInt 64 9218868437227405312)).toNat=w/2^63*2^63+w % 2^52:=by
 have hm:∀i:Fin 64,(BitVec.ofInt 64 9218868437227405312).getLsbD i.val=(decide (52≤i.val) && decide (i.val<63)):=oz
 apply Nat.eq_of_testBit_eq;intro i;rw [←BitVec.getLsbD,BitVec.getLsbD_and,BitVec.getLsbD_not];have hw:(BitVec.ofInt 64 (w:Int)).getLsbD i=w.testBit i:=by rw [BitVec.getLsbD,pK w h]
 have hlt:w % 2^52<2^63:=oo (qy _ oz) oz;rw [hw,oa,Nat.testBit_two_pow_mul_add _ hlt,Nat.testBit_mod_two_pow,Nat.testBit_div_two_pow]
 by_cases c:i<64
 ·rw [hm ⟨i,c⟩]
  by_cases c1:i<52
  ·have c2:i<63:=oq
   have c3:¬ 52≤i:=oq
   simp [c,c1,c2,c3]
  ·by_cases c2:i<63
   ·have c3:52≤i:=oq
    simp [c,c1,c2,c3]
   ·have e:i=63:=oq
    subst e;simp
 ·have hz:w.testBit i=false:=ky (oo h (oc oz oq));have c2:¬ i<63:=oq
  rw [hz,Bool.false_and,oh c2]
  first
   | (rw [show 63+(i-63)=i by omega,hz])
   | (rw [show i-63+63=i by omega,hz])
theorem put {a E c:Nat}(ha:a≤1) (hE:E<2^11) (hc:c<2^52):(BitVec.ofInt 64 ((a*2^63+c:Nat):Int) ||| BitVec.ofInt 64 ((E*2^52:Nat):Int)).toNat=a*2^63+(E*2^52+c):=by
 have h0:c<2^63:=oo hc (oc oz oz);have h1:a*2^63+c<2^64:=by
  have:=Nat.add_lt_add_of_le_of_lt (om (2^63) ha) h0
  rwa [zk,show (2:Nat)^63+2^63=2^64 from rfl]at this
 have h3:E*2^52+c<2^63:=by
  have g1:E*2^52+c<(E+1)*2^52:=by
   rw [jt,zk];exact Nat.add_lt_add_left hc _
  have g2:(E+1)*2^52≤2^11*2^52:=om _ hE;rw [←oi]at g2;exact oo g1 g2
 have h2:E*2^52<2^64:=qe (uq _ c) (ze h3 (zr oz oz));rw [BitVec.toNat_or,pK _ h1,pK _ h2];have e1:a*2^63+c=2^63*a ||| c:=by
  rw [oa];exact xj (oo hc oz) a
 have e2:E*2^52+c=2^52*E ||| c:=by
  rw [oa];exact xj hc E
 have e3:a*2^63+(E*2^52+c)=2^63*a ||| (E*2^52+c):=by
  rw [oa a];exact xj h3 a
 rw [e1,e3,e2,oa E,Nat.or_assoc,Nat.or_comm c]
theorem field {w:Nat}(h:w<2^64):(BitVec.ofInt 64 ((w/2^52:Nat):Int) &&& BitVec.ofInt 64 2047).toNat=w/2^52 % 2048:=by
 rw [BitVec.toNat_and,pK _ (qe (zo _ _) h),show (BitVec.ofInt 64 2047).toNat=2^11-1 from by decide,yw]
theorem rB {s:Bool}{m:Nat}{p:Int}(h:Has double m p) (hn:-1022≤p+m.log2) :
 double.nearest s m p=(if s then 1 else 0)*2^63+((p+m.log2+1023).toNat*2^52+(m*2^(52-m.log2)-2^52))∧2^52≤m*2^(52-m.log2)∧m*2^(52-m.log2)<2^53:=by
 have hl:m.log2<53:=(zg h.ne).2 h.bits;have htop:p+m.log2-52+1074+3≤2048:=h.top;have hlow:(-1074:Int)≤p:=h.low;have elast:last double m p=p+m.log2-52:=by
  unfold last;show max (p+m.log2-((52:Nat):Int)) (-1074)=_;omega
 have hlog:(m*2^(52-m.log2)).log2=52:=by
  rw [eA h.ne];omega
 have hne:m*2^(52-m.log2)≠0:=jm h.ne (by have:=ot (52-m.log2);omega);have h1:2^52≤m*2^(52-m.log2):=(Nat.le_log2 hne).1 oq;have h2:m*2^(52-m.log2)<2^53:=(zg hne).1 oq;refine⟨?_,h1,h2⟩;rw [dB h.ne,elast,show (p+m.log2-52-p).toNat=0 by omega,gC,zf,show (p-(p+m.log2-52)).toNat=52-m.log2 by omega];generalize m*2^(52-m.log2)=kept at *
 have eb:double.binade=2^52:=rfl;have ei:double.infRung=2047*2^52:=rfl;have el:double.leastPlace=-1074:=rfl;have es:double.signWeight=2^63:=rfl;rw [eb,ei,el];have e:(p+m.log2-52 - -1074).toNat+1=(p+m.log2+1023).toNat:=oq
 generalize (p+m.log2-52 - -1074).toNat=d at e;rw [←e];have hd:d+1≤2046:=oq
 have hr:d*2^52+kept<2047*2^52:=oq
 rw [we oq];unfold Format.word;rw [es];cases s
 ·show d*2^52+kept=0*2^63+((d+1)*2^52+(kept-2^52));omega
 ·show 2^63+(d*2^52+kept)=1*2^63+((d+1)*2^52+(kept-2^52));omega
end FT
namespace FT
theorem nosign {w:Nat}(h:w<2^64):(BitVec.ofInt 64 (w:Int) &&& ~~~(BitVec.ofInt 64 9223372036854775808)).toNat=w % 2^63:=by
 have hm:∀i:Fin 64,(BitVec.ofInt 64 9223372036854775808).getLsbD i.val=decide (i.val=63):=oz
 apply Nat.eq_of_testBit_eq;intro i;rw [←BitVec.getLsbD,BitVec.getLsbD_and,BitVec.getLsbD_not];have hw:(BitVec.ofInt 64 (w:Int)).getLsbD i=w.testBit i:=by rw [BitVec.getLsbD,pK w h]
 rw [hw,Nat.testBit_mod_two_pow]
 by_cases c:i<64
 ·rw [hm ⟨i,c⟩]
  by_cases c2:i<63
  ·have c3:i≠63:=oq
   simp [c,c2,c3]
  ·have e:i=63:=oq
   subst e;simp
 ·have hz:w.testBit i=false:=ky (oo h (oc oz oq));rw [hz,Bool.false_and,Bool.and_false]
theorem word64 {s:Bool}{r:Nat}(h:r<2^63):double.word s r<2^64∧double.word s r % 2^63=r∧double.word s r/2^63=if s then 1 else 0:=by
 have es:double.signWeight=2^63:=rfl;have hp:(2:Nat)^63+2^63=2^64:=rfl;unfold Format.word;rw [es];cases s
 ·exact⟨oo h (oc oz oz),qz h,qs h⟩
 ·refine⟨by rw [←hp];exact Nat.add_lt_add_left h _,?_,?_⟩
  ·show (2^63+r) % 2^63=r;rw [Nat.add_mod_left,qz h]
  ·show (2^63+r) / 2^63=1;rw [zj,Nat.add_div_right _ (ot 63),qs h]
theorem near64 (s:Bool) (m:Nat) (p:Int):double.nearest s m p<2^64∧double.nearest s m p % 2^63=double.nearest false m p:=by
 obtain⟨r,h,e⟩:=oN double s m p;have:=word64 (s:=s) (r:=r) h;rw [e,e];exact⟨this.1,this.2.1⟩
theorem wrap64 {n:Nat}(h:n<2^64):wrap .u64 (n:Int)=(n:Int):=by
 unfold wrap;have e:(IntKind.bits .u64)=64:=rfl;have e2:(IntKind.signed .u64)=false:=rfl;rw [e];have:(n:Int) % 18446744073709551616=(n:Int):=Int.emod_eq_of_lt oq (by have h:n<18446744073709551616:=h;omega);simp [e2,this]
theorem hC {x y:Nat}{s t:Bool}{M N:Nat}{i j:Int}(hx:double.read x=.number s M i) (hy:double.read y=.number t N j) :
 double.order x y=some (compare (signed s M (i-min i j).toNat) (signed t N (j-min i j).toNat)):=by
 unfold Format.order;rw [hx,hy];rfl
end FT
open FT
section
variable {k:World}{R:World→Value→Prop}{s:Bool}{m:Nat}{p:Int}
theorem tL (C:∀k',Up k k'→R k' (.float .f64 (double.nearest false m p))):Cl k 215 #[.float .f64 (double.nearest s m p)] R:=by
 intro k0 u0;obtain⟨h1,h2⟩:=near64 s m p;refine aUg fun k1 u1=>?_;have:=C k1 (u0.trans u1);rw [show IntKind.bits .u64=64 from rfl,nosign h1,h2,wrap64 (near64 false m p).1,qj];exact this
theorem tN (h:Has double m p) (C:∀k',Up k k'→R k' (.bool false)):Cl k 128 #[.float .f64 (double.nearest s m p)] R:=by
 intro k0 u0;refine lR fun k1 u1=>?_;have:=C k1 (u0.trans u1);have hr:=h.read (neg:=s) aN;rw [show FloatKind.format .f64=double from rfl,hC hr hr];have e:∀z:Int,(some (compare z z) != some Ordering.eq)=false:=fun z=>by rw [show compare z z=Ordering.eq from by simp [compare,compareOfLessAndEq]];rfl
 rwa [e]
theorem tM (h:Has double m p) (C:∀k',Up k k'→R k' (.bool false)):Cl k 127 #[.float .f64 (double.nearest s m p),.int .i64 0] R:=by
 intro k0 u0;refine pR ⟨fun _=>tL fun k1 u1=>⟨_,rfl,fun k2 u2=>?_⟩,fun f=>by cases f⟩;have:=C k2 (u0.trans (u1.trans u2));have hr:=h.read (neg:=false) aN;have hl:m.log2<53:=(zg h.ne).2 h.bits;have hle:=h.last_le;have hlog:(m*2^(p-last double m p).toNat).log2=m.log2+(p-last double m p).toNat:=eA h.ne;have hne:m*2^(p-last double m p).toNat≠0:=jm h.ne (by have:=ot (p-last double m p).toNat;omega);have h971:last double m p≤971:=by
  have htop:p+m.log2-52+1074+3≤2048:=h.top;unfold last;show max (p+m.log2-((52:Nat):Int)) (-1074)≤971;omega
 have hge:p+m.log2-52≤last double m p:=Int.le_max_left _ _;generalize last double m p=i at *
 have hM:m*2^(p-i).toNat<2^53:=(zg hne).1 oq;generalize m*2^(p-i).toNat=M at *
 have hx:double.read 9218868437227405311=.number false (2^53-1) 971:=by decide +kernel
 rw [show FloatKind.format .f64=double from rfl,hC hr hx];rw [show min i 971=i by omega,show (i-i).toNat=0 by omega];have hc:¬ ((M:Int) > (((2^53-1) <<< (971-i).toNat:Nat):Int)):=by
  rw [zf];have:=zm (2^53-1) (ot (971-i).toNat);omega
 have e:(some (compare (signed false M 0) (signed false (2^53-1) (971-i).toNat)) == some Ordering.gt)=false:=by
  unfold signed;simp only [zp,if_false,xw];generalize (((2^53-1) <<< (971-i).toNat:Nat):Int)=z at hc;simp only [compare,compareOfLessAndEq]
  by_cases a:(M:Int)<z
  ·rw [od a];rfl
  ·rw [oh a,od oq];rfl
 rwa [e]
theorem aHg (h:Has double m p) (hn:-1022≤p+m.log2) (C:∀k',Up k k'→R k' (.tuple #[.float .f64 (double.nearest s m p),.int .i64 0])):Cl k 328 #[.float .f64 (double.nearest s m p)] R:=by
 intro k0 u0;refine aAv (tL fun k1 u1=>⟨_,rfl,fun f=>?_,fun _ k3 u3=>C k3 (u0.trans (u1.trans u3))⟩);exfalso;have hr:=h.read (neg:=false) aN;have hl:m.log2<53:=(zg h.ne).2 h.bits;have hle:=h.last_le;have hlow:(-1074:Int)≤last double m p:=uz _ _;have elast:last double m p=p+m.log2-52:=by
  unfold last;show max (p+m.log2-((52:Nat):Int)) (-1074)=_;omega
 have hlog:(m*2^(p-last double m p).toNat).log2=m.log2+(p-last double m p).toNat:=eA h.ne;have hne:m*2^(p-last double m p).toNat≠0:=jm h.ne (by have:=ot (p-last double m p).toNat;omega);generalize last double m p=i at *
 have hM:2^52≤m*2^(p-i).toNat:=(Nat.le_log2 hne).1 oq;generalize m*2^(p-i).toNat=M at *
 have hx:double.read 4503599627370496=.number false (2^52) (-1074):=by decide +kernel
 rw [show FloatKind.format .f64=double from rfl,hC hr hx]at f;rw [show min i (-1074)=-1074 by omega,show ((-1074:Int) - -1074).toNat=0 by omega]at f;have hc:¬ ((M <<< (i - -1074).toNat:Nat):Int)<((2^52:Nat):Int):=by
  rw [zf];have:=zm M (ot (i - -1074).toNat);omega
 unfold signed at f;simp only [zp,if_false,xw]at f;generalize ((M <<< (i - -1074).toNat:Nat):Int)=z at hc f;generalize ((2^52:Nat):Int)=y at hc f;simp only [compare,compareOfLessAndEq]at f;rw [oh hc]at f;split at f <;> cases f
end
namespace FT
theorem pow52:(2:Int)^(min (Int.toNat 52) (IntKind.bits .u64))=4503599627370496:=oz
theorem aYw {w F:Nat}{e:Int}(hw:w<2^64) (hF:w/2^52 % 2048=F) (he:-100000≤e∧e≤100000) :
 wrap .i64 ((wrap .i64 (e+0))+(wrap .i64 ((wrap .i64 (BitVec.toNat (BitVec.ofInt (IntKind.bits .i64) (wrap .i64 (Int.fdiv ((w:Nat):Int) (2^(min (Int.toNat 52) (IntKind.bits .u64))))) &&& BitVec.ofInt (IntKind.bits .i64) 2047)))-1023)))=e+F-1023:=by
 have hd:w/2^52<4096:=by
  have:w/2^52<2^12:=xe (by rw [←oi];exact hw);exact this
 have e1:Int.fdiv ((w:Nat):Int) 4503599627370496=((w/2^52:Nat):Int):=by
  rw [vm _ oz];rfl
 have e2:wrap .i64 ((w/2^52:Nat):Int)=((w/2^52:Nat):Int):=by
  generalize w/2^52=z at hd;rw [qt];omega
 rw [pow52,e1,e2,show IntKind.bits .i64=64 from rfl,field hw,hF];have hF2:F<2048:=by rw [←hF];exact qy _ oz
 rw [qt,qt,qt,qt];omega
theorem aGx {w a c F:Nat}(hw:w<2^64) (ha:a≤1) (hc:c<2^52) (hF:F<2^11) (h1:w/2^63=a) (h2:w % 2^52=c) :
 Int.toNat (wrap .u64 (BitVec.toNat (BitVec.ofInt (IntKind.bits .u64) (wrap .u64 (BitVec.toNat (BitVec.ofInt (IntKind.bits .u64) ((w:Nat):Int) &&& ~~~(BitVec.ofInt (IntKind.bits .u64) 9218868437227405312)))) ||| BitVec.ofInt (IntKind.bits .u64) (wrap .u64 ((F:Int)*2^(min (Int.toNat 52) (IntKind.bits .u64)))))))=a*2^63+(F*2^52+c):=by
 have h0:c<2^63:=oo hc (oc oz oz);have h3:a*2^63+c<2^64:=by
  have:=Nat.add_lt_add_of_le_of_lt (om (2^63) ha) h0
  rwa [zk,show (2:Nat)^63+2^63=2^64 from rfl]at this
 have h4:F*2^52+c<2^63:=by
  have g1:F*2^52+c<(F+1)*2^52:=by
   rw [jt,zk];exact Nat.add_lt_add_left hc _
  have g2:(F+1)*2^52≤2^11*2^52:=om _ hF;rw [←oi]at g2;exact oo g1 g2
 have h5:F*2^52<2^64:=qe (uq _ c) (ze h4 (zr oz oz));have h6:a*2^63+(F*2^52+c)<2^64:=by
  have:=Nat.add_lt_add_of_le_of_lt (om (2^63) ha) h4
  rwa [zk,show (2:Nat)^63+2^63=2^64 from rfl]at this
 have e1:((F:Int)*2^(min (Int.toNat 52) (IntKind.bits .u64)))=((F*2^52:Nat):Int):=by
  rw [pow52];rfl
 rw [e1,wrap64 h5,show IntKind.bits .u64=64 from rfl,struck hw,h1,h2,wrap64 h3,put ha hF hc,wrap64 h6,qj]
theorem parts {s:Bool}{m:Nat}{p:Int}(h:Has double m p) (hn:-1022≤p+m.log2):∃c,c<2^52∧(∀q,Has double m q→-1022≤q+m.log2→double.nearest s m q=(if s then 1 else 0)*2^63+((q+m.log2+1023).toNat*2^52+c))∧
 double.nearest s m p/2^63=(if s then 1 else 0)∧double.nearest s m p % 2^52=c∧double.nearest s m p/2^52 % 2048=(p+m.log2+1023).toNat∧(p+m.log2+1023).toNat<2^11:=by
 have htop:p+m.log2-52+1074+3≤2048:=h.top;obtain⟨e,h1,h2⟩:=rB (s:=s) h hn;have hc:m*2^(52-m.log2)-2^52<2^52:=by
  rw [show (2:Nat)^53=2^52+2^52 from rfl]at h2;omega
 have hF:(p+m.log2+1023).toNat<2^11:=by
  rw [show (2:Nat)^11=2048 from rfl];omega
 refine⟨_,hc,fun q hq hqn=>(rB (s:=s) hq hqn).1,?_⟩;rw [e];generalize m*2^(52-m.log2)-2^52=c at hc;generalize (p+m.log2+1023).toNat=F at hF;have h4:F*2^52+c<2^63:=by
  have g1:F*2^52+c<(F+1)*2^52:=by
   rw [jt,zk];exact Nat.add_lt_add_left hc _
  have g2:(F+1)*2^52≤2^11*2^52:=om _ hF;rw [←oi]at g2;exact oo g1 g2
 generalize ha:(if s then 1 else 0:Nat)=a;refine⟨?_,?_,?_,hF⟩
 ·rw [zj,yn _ _ (ot 63),qs h4,jx]
 ·rw [show (2:Nat)^63=2^11*2^52 from rfl,←qf,←wj,←jt,zj,xf,qz hc]
 ·rw [show (2:Nat)^63=2^11*2^52 from rfl,←qf,←wj,←jt,zj,yn _ _ (ot 52),qs hc,jx,show (2048:Nat)=2^11 from rfl,zj,xf,qz hF]
theorem aWb {z:Int}(h:-3000≤z∧z≤3000):wrap .i64 z=z:=by
 rw [qt];omega
theorem aIf {z:Int}(h:-1023≤z∧z≤3000):wrap .u64 (wrap .i64 (z+1023))=((z+1023).toNat:Int):=by
 have e:z+1023=((z+1023).toNat:Int):=oq
 have e1:wrap .i64 (z+1023)=z+1023:=by
  rw [qt];omega
 rw [e1,e,qj];exact wrap64 (by rw [show (2:Nat)^64=18446744073709551616 from rfl];omega)
theorem Has.one {p:Int}(h1:-1074≤p) (h2:p≤1023):Has double 1 p:=⟨oz,oz,h1,by show p+((1:Nat).log2:Nat)-52 - -1074+3≤2048;rw [show (1:Nat).log2=0 from rfl];omega⟩
end FT
open FT
section
variable {k:World}{R:World→Value→Prop}{s:Bool}{m:Nat}{p e:Int}
theorem aYz (h:Has double m p) (hn:-1022≤p+m.log2) (h':Has double m (p+e)) (he:-100000≤e∧e≤100000) (C:∀k',Up k k'→R k' (.float .f64 (double.nearest s m (p+e)))) :
 Cl k 300 #[.float .f64 (double.nearest s m p),.int .i64 e] R:=by
 intro k0 u0;have hr:=h.read (neg:=s) aN;have hne:m*2^(p-last double m p).toNat≠0:=jm h.ne (by have:=ot (p-last double m p).toNat;omega);have h0:double.read 0=.number false 0 (-1074):=by decide +kernel
 obtain⟨c,hc,hall,g1,g2,g3,g4⟩:=parts (s:=s) h hn;have hw:=(near64 s m p).1;have htop:(p+e)+m.log2-52+1074+3≤2048:=h'.top;have hlow:(-1074:Int)≤p+e:=h'.low;refine aHf ⟨fun f=>?_,fun _=>tM h fun k2 u2=>⟨_,rfl,(fun f=>by cases f),fun _=>tN h fun k5 u5=>⟨_,rfl,(fun f=>by cases f),fun _=>aHg h hn fun k8 u8=>⟨_,_,rfl,?_⟩⟩⟩⟩
 ·exfalso;rw [show FloatKind.format .f64=double from rfl,hC hr h0]at f;generalize m*2^(p-last double m p).toNat=M at *
  generalize last double m p=i at *
  have hz:signed s M (i-min i (-1074)).toNat≠0:=by
   unfold signed;rw [zf];have:=jm hne (show 2^(i-min i (-1074)).toNat≠0 by have:=ot (i-min i (-1074)).toNat;omega);generalize M*2^(i-min i (-1074)).toNat=z at this;cases s <;> simp <;> omega
  have hz2:signed false 0 (-1074-min i (-1074)).toNat=0:=by unfold signed;simp
  rw [hz2]at f;generalize signed s M (i-min i (-1074)).toNat=z at hz f;simp only [compare,compareOfLessAndEq]at f;rw [oh hz]at f;split at f <;> cases f
 have hput:∀q,Has double m q→-1022≤q+m.log2→Int.toNat (wrap .u64 (BitVec.toNat (BitVec.ofInt (IntKind.bits .u64) (wrap .u64 (BitVec.toNat (BitVec.ofInt (IntKind.bits .u64) ((double.nearest s m p:Nat):Int) &&& ~~~(BitVec.ofInt (IntKind.bits .u64) 9218868437227405312)))) ||| BitVec.ofInt (IntKind.bits .u64) (wrap .u64 (((q+m.log2+1023).toNat:Int)*2^(min (Int.toNat 52) (IntKind.bits .u64)))))))=double.nearest s m q:=fun q hq hqn=>by
  have hF:(q+m.log2+1023).toNat<2^11:=by
   have:q+m.log2-52+1074+3≤2048:=hq.top;rw [show (2:Nat)^11=2048 from rfl];omega
  rw [aGx hw (by cases s <;> decide) hc hF g1 g2,hall q hq hqn]
 rw [aYw hw g3 he];have v8:=u0.trans (u2.trans (u5.trans u8));refine⟨fun f=>?_,fun _=>⟨fun f=>?_,fun _=>⟨fun f=>?_,fun f=>?_⟩⟩⟩
 ·have:=ow f;omega
 ·have:=ow f;omega
 ·have f:=ow f;have hs:Has double m (p+e+53):=⟨h.ne,h.bits,by show (-1074:Int)≤_;omega,by show (p+e+53)+m.log2-52+1074+3≤2048;omega⟩;have e1:e+((p+m.log2+1023).toNat:Nat)-1023+53=(p+e+53)+m.log2:=oq
  rw [e1,aWb (z:=p+e+53+m.log2) oq,aIf (z:=p+e+53+m.log2) oq,hput _ hs oq];have hm:Sy.fltR .f64 .mul 4368491638549381120 (double.nearest s m (p+e+53))=some (double.nearest s m (p+e)):=by
   have h1:(4368491638549381120:Nat)=double.nearest false 1 (-53):=by decide +kernel
   have:=pW (s:=false) (t:=s) aN (Has.one (p:=-53) oz oz) hs;rw [zk,Bool.false_xor,show (-53+(p+e+53):Int)=p+e by omega,←h1]at this;exact this
  rw [hm];exact⟨rfl,fun k9 u9=>C k9 (v8.trans u9)⟩
 ·have f:=ov f;have e1:e+((p+m.log2+1023).toNat:Nat)-1023=(p+e)+m.log2:=oq
  rw [e1,aIf (z:=p+e+m.log2) oq,hput _ h' oq];have hm:Sy.fltR .f64 .mul 4607182418800017408 (double.nearest s m (p+e))=some (double.nearest s m (p+e)):=by
   have h1:(4607182418800017408:Nat)=double.nearest false 1 0:=by decide +kernel
   have:=pW (s:=false) (t:=s) aN (Has.one (p:=0) oz oz) h';rw [zk,Bool.false_xor,Int.zero_add,←h1]at this;exact this
  rw [hm];exact⟨rfl,fun k9 u9=>C k9 (v8.trans u9)⟩
theorem aEc (h:Has double m p) (hn:-1022≤p+m.log2) (h':Has double m (p+e)) (he:-100000≤e∧e≤100000) (C:∀k',Up k k'→R k' (.float .f64 (double.nearest s m (p+e)))) :
 Cl k 234 #[.float .f64 (double.nearest s m p),.int .i64 e] R:=fun _ u0=>
 aHb (aYz h hn h' he fun _ u1=>⟨_,rfl,fun k2 u2=>C k2 (u0.trans (u1.trans u2))⟩)
end
theorem aDs {m n:Nat}(h:Len B64 m (n+1)):bl m=64*n+bl (wq m n):=by
 have hB:∀j,B64^j=2^(64*j):=fun j=>by rw [eH,←vq]
 have ht:wq m n≠0:=h.top aH oq;have hd:m/B64^n=wq m n:=by
  unfold wq wd;refine (qz ?_).symm;rw [qg (qk aH),oa,←ql];exact h.lt
 have hp:0<B64^n:=qk aH;have e1:=qi m (B64^n);have e2:=qy m hp;rw [hd]at e1
 have hu:bl m≤64*n+bl (wq m n):=dD.2 (by
  have h1:=eP (wq m n);rw [oi,←hB];have:B64^n*(wq m n+1)≤B64^n*2^bl (wq m n):=qu _ h1;rw [zw,jj]at this
  omega)
 have hl:64*n+bl (wq m n)-1<bl m:=by
  refine xy fun hle=>?_;have h1:=dD.1 hle;have h2:=dT ht;have h3:bl (wq m n)≠0:=fun e=>by have h3:=eP (wq m n);rw [e]at h3;simp at h3;omega
  have e3:64*n+bl (wq m n)-1=64*n+(bl (wq m n)-1):=oq
  rw [e3,oi,←hB]at h1;have:B64^n*2^(bl (wq m n)-1)≤B64^n*wq m n:=qu _ h2;exact absurd h1 (Nat.not_lt.2 (qb this (by generalize B64^n*wq m n=y at e1;generalize m % B64^n=z at e1;omega)))
 omega
section
variable {k:World}{A A':Option Addr}{n n' c c' a b:Nat}{R:World→Value→Prop}
theorem aXc (h:LimR k A n c a) (h':LimR k A' n' c' b) (hn:n≤17179869184) (hn':n'≤17179869184) (C:∀k',Up k k'→R k' (.int .i64 (dL a b))) :
 Cl k 191 #[.slice A n c,.slice A' n' c'] R:=
 after (fun k0 u=>aMn fun w hs=>(aXb ((h.up u).sees hs) ((h'.up u).sees hs) hn hn').mono fun e w' ⟨h1,m,h2⟩=>⟨h1,by rw [h2];exact bX (Below.refl _ _) m⟩) fun k' v u e=>e▸C k' u
theorem aUq {y:Nat}(hy:y<18446744073709551616) (C:∀k',Up k k'→R k' (.int .i64 (bl y))) :
 Cl k 297 #[.int .u64 y] R:=
 after (fun k0 u=>aMn fun w hs=>(aJr y w hy).mono fun e w' ⟨h1,h2⟩=>⟨h1,by rw [←h2];exact Below.refl _ _⟩) fun k' v u e=>e▸C k' u
theorem uX (h:LimR k A n c a) (hn:n≤100000000) (C:∀k',Up k k'→R k' (.int .i64 (bl a))) :
 Cl k 229 #[.slice A n c] R:=by
 intro k0 u0;replace h:=h.up u0;replace C:=fun k' u=>C k' (u0.trans u);refine aSx ⟨rfl,fun f=>?_,fun f=>⟨rfl,rfl,?_⟩⟩
 ·have f:n=0:=by simpa using f
  have ha:a=0:=by rw [h.zero_iff]at f;exact f
  subst ha;exact C
 have f:n≠0:=by simpa using f
 have hl:=h.len;obtain⟨g,o,rfl,hb,hw⟩:=RW.at_ h.lr (by rw [←h.len];omega);have h0:=hw (n-1) (by rw [←h.len];omega);have e1:wrap .i64 (((n:Nat):Int)-1)=((n-1:Nat):Int):=by rw [qt];omega
 rw [e1];refine⟨⟨g,o,rfl⟩,⟨oq,oq⟩,((wq a (n-1):Nat):Int),⟨rfl,fun j u hu=>?_⟩,aUq (bD _ _) fun k2 u2=>⟨_,rfl,fun k3 u3=>?_⟩⟩
 ·cases j with
  | zero=>
   have e:u=.int .u64 ((wq a (n-1):Nat):Int):=by
    have h1:(#[Value.int .u64 ((wq a (n-1):Nat):Int)]:Array Value)[0]?=some u:=hu;simpa using h1.symm
   subst e;show Sy.cellAt _ _ _=_;unfold Sy.cellAt;have e2:o+(Int.toNat ((n-1:Nat):Int)*1+0+0)=o+(n-1):=by simp
   simp only [e2,h0];rfl
  | succ j=>
   have h1:(#[Value.int .u64 ((wq a (n-1):Nat):Int)]:Array Value)[j+1]?=some u:=hu;simp at h1
 ·have:=C k3 (u2.trans u3);have hw64:bl (wq a (n-1))≤64:=aYn (bD _ _);have hlen:Len B64 a (n-1+1):=by
   rw [show n-1+1=n by omega,h.len];exact bC a
  have e3:wrap .i64 (wrap .i64 (64*((n-1:Nat):Int))+((bl (wq a (n-1)):Nat):Int))=((bl a:Nat):Int):=by
   rw [aDs hlen,qt,qt];omega
  rwa [e3]
def aCj (a b:Nat) (e:Int):Nat:=FT.half (a*2^(-e).toNat) (b*2^e.toNat)
theorem aLp {e:Int}(h:LimR k A n c a) (h':LimR k A' n' c' b) (hb0:0<b) (hn:n≤1000000) (hn':n'≤1000000) (he:-1000000≤e∧e≤1000000)
 (C:∀k' B j d,Up k k'→LimR k' B j d (aCj a b e)→j≤2000002→R k' (.slice B j d)):Cl k 231 #[.slice A n c,.slice A' n' c',.int .i64 e] R:=by
 intro k0 u0;replace h:=h.up u0;replace h':=h'.up u0;replace C:=fun k' B j d u=>C k' B j d (u0.trans u);have e1:(if decide (e<0)=true then 0 else e)=((e.toNat:Nat):Int):=by
  by_cases g:e<0
  ·rw [od (decide_eq_true g)];omega
  ·rw [oh (by simp [g])];omega
 have e2:(if decide (wrap .i64 (0-e)<0)=true then 0 else wrap .i64 (0-e))=(((-e).toNat:Nat):Int):=by
  have ew:wrap .i64 (0-e)=-e:=by rw [qt];omega
  rw [ew]
  by_cases g:-e<0
  ·rw [od (decide_eq_true g)];omega
  ·rw [oh (by simp only [decide_eq_true_eq];exact g)];omega
 unfold aCj FT.half at C;refine aWu ?_;rw [e1,e2];refine fN h' oq oq fun k1 B1 j1 d1 u1 w1 l1=>⟨_,_,_,rfl,?_⟩;refine fN (h.up u1) oq oq fun k3 B3 j3 d3 u3 w3 l3=>⟨_,_,_,rfl,?_⟩;have hpos:0<b*2^e.toNat:=zb hb0 (ot _);generalize a*2^(-e).toNat=x at *
 generalize b*2^e.toNat=y at *
 refine gD w3 (w1.up u3) hpos oq oq fun k5 B5 j5 d5 B6 j6 d6 u5 w5 w6 l5 l6=>⟨_,_,_,_,_,_,rfl,?_⟩;refine fN (s:=1) w6 oq oq fun k7 B7 j7 d7 u7 w7 l7=>⟨_,_,_,rfl,?_⟩;refine aXc w7 ((w1.up u3).up (u5.trans u7)) oq oq fun k9 u9=>⟨_,rfl,?_⟩;rw [yg,oa (x % y) 2]at *
 have v9:=u1.trans (u3.trans (u5.trans (u7.trans u9)));have w5':=w5.up (u7.trans u9);refine⟨fun f=>?_,fun f=>⟨fun f2=>?_,fun f2=>?_⟩⟩
 ·have f:=ow f;have hlt:y<2*(x % y):=by
   unfold dL at f;split at f
   ·omega
   ·split at f <;> omega
  refine iJ oz fun k11 B11 j11 d11 u11 w11 l11=>⟨_,_,_,rfl,?_⟩;refine yT (L:=2000001) (w5'.up u11) w11 oq oq oz fun k13 B13 j13 d13 u13 w13 l13=>⟨_,_,_,rfl,fun k14 u14=>C k14 _ _ _ (v9.trans (u11.trans (u13.trans u14))) ?_ oq⟩;have:=w13.up u14
  rwa [show x/y+1=x/y+(decide (y<2*(x % y)) || (y == 2*(x % y) && x/y % 2 == 1)).toNat by rw [decide_eq_true hlt];rfl]at this
 ·have f:=ov f;have f2:dL (2*(x % y)) y=0:=by simpa using f2
  have heq:y=2*(x % y):=by
   unfold dL at f2;split at f2
   ·omega
   ·split at f2
    ·omega
    ·omega
  refine bAm w5' fun k16 u16=>⟨_,rfl,fun f3=>?_,fun f3 k22 u22=>C k22 _ _ _ (v9.trans (u16.trans u22)) ?_ oq⟩
  ·have f3:x/y % 2=1:=by
    have:=eq_of_beq f3;omega
   refine iJ oz fun k18 B18 j18 d18 u18 w18 l18=>⟨_,_,_,rfl,?_⟩;refine yT (L:=2000001) (w5'.up (u16.trans u18)) w18 oq oq oz fun k20 B20 j20 d20 u20 w20 l20=>⟨_,_,_,rfl,fun k21 u21=>C k21 _ _ _ (v9.trans (u16.trans (u18.trans (u20.trans u21)))) ?_ oq⟩;have:=w20.up u21
   rwa [show x/y+1=x/y+(decide (y<2*(x % y)) || (y == 2*(x % y) && x/y % 2 == 1)).toNat by rw [decide_eq_false oq,beq_iff_eq.2 heq,beq_iff_eq.2 f3];rfl]at this
  ·have f3:¬ x/y % 2=1:=fun e=>by rw [e]at f3;cases f3
   have:=w5'.up (u16.trans u22)
   rwa [show x/y=x/y+(decide (y<2*(x % y)) || (y == 2*(x % y) && x/y % 2 == 1)).toNat by rw [decide_eq_false oq,beq_eq_false_iff_ne.2 f3];simp]at this
 ·intro u23;have f:=ov f;have f2:dL (2*(x % y)) y≠0:=by simpa using f2
  have hlt:2*(x % y)<y:=by
   unfold dL at f f2;split at f
   ·assumption
   ·rename_i g1;rw [oh g1]at f2;split at f
    ·rename_i g2;rw [od g2]at f2;exact absurd rfl f2
    ·omega
  intro v23;refine C u23 _ _ _ (v9.trans v23) ?_ oq;have:=w5'.up v23
  rwa [show x/y=x/y+(decide (y<2*(x % y)) || (y == 2*(x % y) && x/y % 2 == 1)).toNat by rw [decide_eq_false oq,beq_eq_false_iff_ne.2 oq];simp]at this
theorem aCu {s:Bool}{m:Nat}{p:Int}{D D':Option Addr}{l l' d d':Nat}(C:∀k',Up k k'→R k' (.float .f64 (double.nearest s m p))) :
 Cl k 232 #[.agg #[.bool s,.slice D l d,.slice D' l' d'],.float .f64 (double.nearest false m p)] R:=by
 intro k0 u0;refine aWw ⟨fun f k1 u1=>?_,fun f k1 u1=>?_⟩
 ·have:=C k1 (u0.trans u1);subst f;have e:Op.negFloat .f64 (double.nearest false m p)=double.nearest true m p:=FT.aBm
  rwa [e]
 ·have:=C k1 (u0.trans u1);subst f;exact this
end
def iV (a d bits:Nat) (least:Int):Int:=max ((bl a:Int)-bl d-bits) least
def nL (a d:Nat) (e:Int):Nat:=(a*2^(-e).toNat) / (d*2^e.toNat)
def nC (a d bits:Nat) (least:Int):Int:=if bits<bl (nL a d (iV a d bits least)) then iV a d bits least+1 else iV a d bits least
def vL (a d bits:Nat) (least:Int):Nat:=aCj a d (nC a d bits least)
def kI (s:Bool) (a d bits:Nat) (least beyond:Int):Nat:=
 if a=0 then 0 else if beyond<bl (vL a d bits least)+nC a d bits least then double.nearest s 1 5000
 else if vL a d bits least=0 then 0 else double.nearest s (vL a d bits least) (nC a d bits least)
theorem wZ {a d bits:Nat}{e:Int}(hd:d≠0) (h:(bl a:Int)-bl d-bits≤e):nL a d e<2^(bits+1):=by
 unfold nL;refine xe ?_;have h1:=eP a;have h2:=dT hd;have hb:1≤bl d:=by
  rcases jd (bl d) with g|g
  ·have:=eP d;rw [g]at this;omega
  ·exact g
 have g1:a*2^(-e).toNat<2^(bl a+(-e).toNat):=by
  rw [oi];exact qa h1 (ot _)
 have g2:2^(bl d-1+e.toNat+(bits+1))≤d*2^e.toNat*2^(bits+1):=by
  rw [oi,oi];exact om _ (om _ h2)
 exact oo g1 (qb (oc oz oq) g2)
theorem aQj {a d:Nat}{e:Int}:nL a d (e+1)=nL a d e/2:=by
 unfold nL
 by_cases c:0≤e
 ·rw [show (-(e+1)).toNat=0 by omega,show (-e).toNat=0 by omega,show (e+1).toNat=e.toNat+1 by omega,jq,ql,qf]
 ·rw [show (e+1).toNat=0 by omega,show e.toNat=0 by omega,show (-e).toNat=(-(e+1)).toNat+1 by omega,jq,ql,zy,jj,←qf,wu _ _ oz]
theorem oF (x y:Nat):FT.half x y≤x/y+1:=by
 unfold FT.half;have:∀b:Bool,b.toNat≤1:=fun b=>by cases b <;> decide
 exact Nat.add_le_add_left (this _) _
theorem aOq {a d bits:Nat}{least:Int}(hd:d≠0):vL a d bits least≤2^bits:=by
 have hf:(bl a:Int)-bl d-bits≤iV a d bits least:=Int.le_max_left _ _;have hq:=wZ hd hf;have key:nL a d (nC a d bits least)<2^bits:=by
  unfold nC;split
  ·rw [aQj];rw [ql]at hq;omega
  ·rename_i g;exact dD.1 oq
 have:=oF (a*2^(-(nC a d bits least)).toNat) (d*2^(nC a d bits least).toNat);unfold vL aCj;unfold nL at key;omega
theorem two53 {s:Bool}{e:Int}:double.nearest s (2^53) e=double.nearest s 1 (53+e):=by
 have:=FT.cQ (f:=double) (neg:=s) (m:=1) (k:=53) (p:=53+e) oz;rw [zk,show (53+e-((53:Nat):Int))=e by omega]at this;exact this
section
variable {k:World}{A D:Option Addr}{n c d e:Nat}{R:World→Value→Prop}{cs:Array Value}{q:Rat}{K:Nat}
theorem aOl {m:Nat}{e:Int}(h0:m≠0) (hm:m≤2^53) (h1:-1074≤e) (h2:(bl m:Int)+e≤1024) (C:∀k',Up k k'→R k' (.float .f64 (double.nearest false m e))) :
 Cl k 234 #[.float .f64 (FloatKind.nearest .f64 (m:Int)),.int .i64 e] R:=by
 have e0:FloatKind.nearest .f64 (m:Int)=double.nearest false m 0:=by
  unfold FloatKind.nearest FloatKind.encode Format.write;simp only [];rw [show decide ((m:Int)<0)=false from decide_eq_false oq,zi];rfl
 have eb:bl m=m.log2+1:=by unfold bl;rw [oh h0]
 rw [e0];rcases zz m (2^53) with g|g
 ·have hl:m.log2<53:=(zg h0).2 g;have a1:FT.Has double m 0:=⟨h0,g,oz,by show (0:Int)+m.log2-52+1074+3≤2048;omega⟩;have a2:FT.Has double m (0+e):=⟨h0,g,by show (-1074:Int)≤_;omega,by show (0+e:Int)+m.log2-52+1074+3≤2048;omega⟩;have:=aEc (k:=k) (R:=R) (s:=false) (e:=e) a1 oq a2 oq;rw [Int.zero_add]at this;exact this C
 ·obtain rfl:m=2^53:=vj hm g;have el:(2^53:Nat).log2=53:=Nat.log2_two_pow;have a1:FT.Has double 1 53:=FT.Has.one oz oz;have a2:FT.Has double 1 (53+e):=FT.Has.one oq (by rw [eb,el]at h2;omega);have h3:(1:Nat).log2=0:=rfl;have:=aEc (k:=k) (R:=R) (s:=false) (e:=e) a1 (by rw [h3];decide) a2 (by rw [eb,el]at h2;omega);rw [two53]at C ⊢;exact this C
theorem wR {s:Bool}{a b bits:Nat}{least beyond:Int}{A4 A5 A6:Option Addr}{l4 l5 l6 c4 c5 c6:Nat}(h:LimR k A4 l4 c4 a) (h':LimR k A6 l6 c6 b) (ha:a≠0) (hb0:0<b) (hn:l4≤100000) (hn':l6≤100000)
 (hbits:bits≤53) (hleast:-1074≤least) (hbey:beyond≤1024) {e:Int}(he:e=nC a b bits least) (he2:e≤10000000)
 (he3:-1000000≤e∧e≤1000000)
 (C:∀k',Up k k'→R k' (.float .f64 (kI s a b bits least beyond))) :
 (Cl k 231 #[Value.slice A4 l4 c4,Value.slice A6 l6 c6,Value.int .i64 e] fun k31 r30=>∃A14 l14 c14,some (Value.slice A14 l14 c14)=some r30∧
 Cl k31 229 #[Value.slice A14 l14 c14] fun k33 r32=>∃n15,some (Value.int .i64 n15)=some r32∧
 ((decide (((wrap .i64 (n15+e)):Int) > beyond))=true→
 (Cl k33 233 #[Value.int .i64 1] fun k35 r34=>∃n16:Nat,some (Value.float .f64 n16)=some r34∧
 Cl k35 232 #[Value.agg #[Value.bool s,Value.slice A4 l4 c4,Value.slice A5 l5 c5],Value.float .f64 n16] fun k37 r36=>∃n17:Nat,some (Value.float .f64 n17)=some r36∧
 ∀k38,Up k37 k38→R k38 (Value.float .f64 n17)))∧
 ((decide (((wrap .i64 (n15+e)):Int) > beyond))=false→
 (true=true∧(((((l14:Nat):Int) == 0)=true→
 (∀k39,Up k33 k39→R k39 (Value.float .f64 0)))∧
 ((((l14:Nat):Int) == 0)=false→
 ((∃b o,A14=some ⟨b,o,none⟩)∧((0:Int)≤0∧(0:Int)<(l14:Nat))∧
 ∃n16,Sy.ReadAt k33.cell? A14 (Int.toNat 0*1+0) 1 (Value.int .u64 n16)∧
 Cl k33 234 #[Value.float .f64 (FloatKind.nearest .f64 n16),Value.int .i64 e] fun k41 r40=>∃n17:Nat,some (Value.float .f64 n17)=some r40∧
 Cl k41 232 #[Value.agg #[Value.bool s,Value.slice A4 l4 c4,Value.slice A5 l5 c5],Value.float .f64 n17] fun k43 r42=>∃n18:Nat,some (Value.float .f64 n18)=some r42∧
 ∀k44,Up k43 k44→R k44 (Value.float .f64 n18))))))):=by
  intro k30 u30;have hlow:-1074≤e:=by
   have h1:least≤iV a b bits least:=uz _ _;rw [he];unfold nC;split <;> omega
  have hm:=aOq (a:=a) (bits:=bits) (least:=least) (show b≠0 by omega);have hm53:vL a b bits least≤2^53:=qb hm (oc oz hbits);unfold kI at C;rw [oh ha,←he]at C;have em:aCj a b e=vL a b bits least:=by rw [he];rfl
  refine aLp (h.up u30) (h'.up u30) hb0 oq oq he3 (fun k31 B j d u31 w31 l31=>⟨_,_,_,rfl,?_⟩) k30 (Up.refl _);rw [em]at w31;generalize vL a b bits least=m at *
  have hbl:bl m≤54:=dD.2 (qe hm53 (zr oz oz));refine uX w31 oq fun k33 u33=>⟨_,rfl,fun f=>?_,fun f=>⟨rfl,fun f2 k39 u39=>?_,fun f2=>?_⟩⟩
  all_goals have ew:wrap .i64 ((bl m:Nat)+e)=(bl m:Nat)+e:=by rw [qt];omega
  all_goals rw [ew]at f
  ·have f:=ow f;rw [od oq]at C;refine fun k34 u34=>aUh ⟨fun _ k35 u35=>⟨_,rfl,?_⟩,fun g=>absurd g oz⟩;have e1:(9218868437227405312:Nat)=double.nearest false 1 5000:=by decide +kernel
   rw [e1];exact aCu fun k37 u37=>⟨_,rfl,fun k38 u38=>C k38 (u30.trans (u31.trans (u33.trans (u34.trans (u35.trans (u37.trans u38))))))⟩
  ·have f:=ov f;have f2:j=0:=by simpa using f2
   have hm0:m=0:=by rw [w31.zero_iff]at f2;exact f2
   rw [oh oq,od hm0]at C;exact C k39 (u30.trans (u31.trans (u33.trans u39)))
  ·have f:=ov f;have f2:j≠0:=by simpa using f2
   have hm0:m≠0:=fun e=>f2 (by rw [w31.zero_iff];exact e);rw [oh oq,oh hm0]at C;have w33:=w31.up u33;obtain⟨g,o,rfl,hb,hw⟩:=RW.at_ w33.lr (by rw [←w33.len];omega);have h0:=hw 0 (by rw [←w33.len];omega);have hwq:wq m 0=m:=by
    unfold wq wd;rw [zy,ka];exact qz (qe hm53 oz)
   rw [hwq]at h0;refine⟨⟨g,o,rfl⟩,⟨oz,oq⟩,(m:Int),⟨rfl,fun i u hu=>?_⟩,?_⟩
   ·cases i with
    | zero=>
     have e:u=.int .u64 (m:Int):=by
      have h1:(#[Value.int .u64 (m:Int)]:Array Value)[0]?=some u:=hu;simpa using h1.symm
     subst e;show Sy.cellAt _ _ _=_;unfold Sy.cellAt;have e2:o+(Int.toNat 0*1+0+0)=o+0:=by simp
     simp only [e2,h0];rfl
    | succ i=>
     have h1:(#[Value.int .u64 (m:Int)]:Array Value)[i+1]?=some u:=hu;simp at h1
   ·refine aOl hm0 hm53 hlow oq fun k41 u41=>⟨_,rfl,?_⟩;exact aCu fun k43 u43=>⟨_,rfl,fun k44 u44=>C k44 (u30.trans (u31.trans (u33.trans (u41.trans (u43.trans u44)))))⟩
theorem zU {bits:Nat}{least beyond:Int}(h:RatV k cs q K) (hK:K≤10000) (hbits:bits≤53) (hleast:-1074≤least) (hl0:least≤1000) (hbey:beyond≤1024)
 (C:∀k',Up k k'→R k' (.float .f64 (kI (decide (q.num<0)) q.num.natAbs q.den bits least beyond))) :
 Cl k 145 #[.agg #[.int .i64 bits,.int .i64 least,.int .i64 beyond],.agg cs] R:=by
 intro k0 u0;replace h:=h.up u0;replace C:=fun k' u=>C k' (u0.trans u);obtain⟨g,A,n,c,D,d,e,rfl,hr,hn,hd⟩:=h;have hnum:=hr.num.lim;have hneg:=hr.num.neg;rw [←hneg]at C;refine aSv (eG (L:=10000) hr.den q.den_pos oq oz oz fun k1 B j d1 u1 w1 l1=>⟨_,_,_,rfl,rfl,fun f k2 u2=>?_,fun f=>?_⟩)
 ·have f:n=0:=by simpa using f
  have ha:q.num.natAbs=0:=by rw [hnum.zero_iff]at f;exact f
  have:=C k2 (u1.trans u2);unfold kI at this
  rwa [od ha]at this
 have f:n≠0:=by simpa using f
 have ha:q.num.natAbs≠0:=fun e=>f (by rw [hnum.zero_iff];exact e);have hd0:q.den≠0:=q.den_nz;generalize q.num.natAbs=a at *
 generalize q.den=b at *
 have ba:∀Z,n≤Z→bl a≤64*Z:=fun Z hz=>dD.2 (by
  have:=(bC a).lt;rw [eH,←vq]at this;refine oo this (oc oz (qu _ ?_));rw [←hnum.len]
  exact hz)
 replace ba:=ba 10000 oq
 have bb:∀Z,j≤Z→bl b≤64*Z:=fun Z hz=>dD.2 (by
  have:=(bC b).lt;rw [eH,←vq]at this;refine oo this (oc oz (qu _ ?_));rw [←w1.len]
  exact hz)
 replace bb:=bb 10000 oq;refine uX (hnum.up u1) oq fun k4 u4=>⟨_,rfl,?_⟩;refine uX (w1.up u4) oq fun k6 u6=>⟨_,rfl,?_⟩;have eE:(if (decide (((wrap .i64 ((wrap .i64 (((bl a:Nat):Int)-((bl b:Nat):Int)))-(bits:Int))):Int)<least))=true then least else (wrap .i64 ((wrap .i64 (((bl a:Nat):Int)-((bl b:Nat):Int)))-(bits:Int))))=iV a b bits least:=by
  have e1:wrap .i64 ((wrap .i64 (((bl a:Nat):Int)-((bl b:Nat):Int)))-(bits:Int))=(bl a:Int)-bl b-bits:=by
   rw [qt,qt];omega
  rw [e1];unfold iV;split
  ·rename_i g;have:=ow g;omega
  ·rename_i g;have:¬ ((bl a:Int)-bl b-bits<least):=fun h=>g (decide_eq_true h);omega
 try dsimp only
 rw [eE];have hE:-1074≤iV a b bits least∧iV a b bits least≤640000:=by
  unfold iV;omega
 have hlst:nC a b bits least=if bits<bl (nL a b (iV a b bits least)) then iV a b bits least+1 else iV a b bits least:=rfl;have hquo:nL a b (iV a b bits least)=(a*2^(-iV a b bits least).toNat) / (b*2^(iV a b bits least).toNat):=rfl;generalize iV a b bits least=E at *
 have e1:(if decide (E<0)=true then 0 else E)=((E.toNat:Nat):Int):=by
  by_cases g:E<0
  ·rw [od (decide_eq_true g)];omega
  ·rw [oh (by simp [g])];omega
 have e2:(if decide (wrap .i64 (0-E)<0)=true then 0 else wrap .i64 (0-E))=(((-E).toNat:Nat):Int):=by
  have ew:wrap .i64 (0-E)=-E:=by rw [qt];omega
  rw [ew]
  by_cases g:-E<0
  ·rw [od (decide_eq_true g)];omega
  ·rw [oh (by simp only [decide_eq_true_eq];exact g)];omega
 have e3:wrap .i64 (E+1)=E+1:=by rw [qt];omega
 rw [e1,e2,e3];have v6:=u1.trans (u4.trans u6);refine fN (hnum.up v6) oq oq fun k8 B8 j8 d8 u8 w8 l8=>⟨_,_,_,rfl,?_⟩;refine fN ((w1.up (u4.trans u6)).up u8) oq oq fun k10 B10 j10 d10 u10 w10 l10=>⟨_,_,_,rfl,?_⟩;refine gD (w8.up u10) w10 (zb oq (ot _)) oq oq fun k12 B12 j12 d12 B13 j13 d13 u12 w12 w13 l12 l13=>⟨_,_,_,_,_,_,rfl,?_⟩;rw [←hquo]at w12;have v12:=v6.trans (u8.trans (u10.trans u12));refine uX w12 oq fun k14 u14=>⟨_,rfl,fun f=>?_,fun f=>?_⟩
 ·have f:=ow f;rw [od oq]at hlst;exact wR ((hnum.up v12).up u14) (w1.up (u4.trans (u6.trans (u8.trans (u10.trans (u12.trans u14)))))) ha oq oq oq hbits hleast hbey hlst.symm oq oq fun k' u=>C k' (v12.trans (u14.trans u))
 ·have f:=ov f;rw [oh oq]at hlst;exact wR ((hnum.up v12).up u14) (w1.up (u4.trans (u6.trans (u8.trans (u10.trans (u12.trans u14)))))) ha oq oq oq hbits hleast hbey hlst.symm oq oq fun k' u=>C k' (v12.trans (u14.trans u))
end
def below2 (a d:Nat) (e:Int):Prop:=a*2^(-e).toNat<d*2^e.toNat
instance (a d:Nat) (e:Int):Decidable (below2 a d e):=by unfold below2;exact inferInstance
theorem aDr {a d:Nat}{e:Int}(h:below2 a d e) (_hd:d≠0):below2 a d (e+1):=by
 unfold below2 at *
 by_cases c:0≤e
 ·rw [show (-(e+1)).toNat=0 by omega,show (e+1).toNat=e.toNat+1 by omega,ql,←qf];rw [show (-e).toNat=0 by omega]at h;omega
 ·rw [show (e+1).toNat=0 by omega];rw [show e.toNat=0 by omega,show (-e).toNat=(-(e+1)).toNat+1 by omega,ql,←qf]at h;omega
theorem vQ {a d:Nat}{e:Int}(hd:d≠0) (h:below2 a d e):∀n:Nat,below2 a d (e+n)
 | 0=>by simpa using h
 | n+1=>by
  have:=aDr (vQ hd h n) hd
  rwa [show e+(n:Int)+1=e+((n+1:Nat):Int) by omega]at this
theorem kK {a d:Nat}{e f:Int}(hd:d≠0) (h:below2 a d e) (hf:e≤f):below2 a d f:=by
 have:=vQ hd h (f-e).toNat
 rwa [show e+((f-e).toNat:Int)=f by omega]at this
theorem lX {a d bits:Nat}{f:Int}(hd:d≠0):bl (nL a d f)≤bits↔below2 a d (f+bits):=by
 rw [dD];unfold nL below2;rw [qg (zb oq (ot _))]
 by_cases c:0≤f
 ·rw [show (-f).toNat=0 by omega,show (-(f+bits)).toNat=0 by omega,show (f+bits).toNat=f.toNat+bits by omega,oi];rw [show 2^bits*(d*2^f.toNat)=d*(2^f.toNat*2^bits) by ac_rfl]
 ·rw [show f.toNat=0 by omega,zy,jj]
  by_cases g:0≤f+bits
  ·rw [show (-(f+bits)).toNat=0 by omega,zy,jj];have e:2^bits*d=d*2^(f+bits).toNat*2^(-f).toNat:=by
    rw [qf,←oi,show (f+bits).toNat+(-f).toNat=bits by omega,oa]
   rw [e];exact Nat.mul_lt_mul_right (ot _)
  ·rw [show (f+bits).toNat=0 by omega,zy,jj];have e:a*2^(-f).toNat=a*2^(-(f+bits)).toNat*2^bits:=by
    rw [qf,←oi,show (-(f+bits)).toNat+bits=(-f).toNat by omega]
   rw [e,oa (2^bits) d];exact Nat.mul_lt_mul_right (ot _)
theorem sZ {a d:Nat}(hd:d≠0):below2 a d ((bl a:Int)-bl d+1):=by
 have:=(lX (a:=a) (bits:=1) (f:=(bl a:Int)-bl d) hd).1 (dD.2 (wZ (bits:=0) hd oq));exact this
theorem aZi {a d bits:Nat}{least:Int}(hd:d≠0):nC a d bits least=max ((if below2 a d ((bl a:Int)-bl d) then (bl a:Int)-bl d-1 else (bl a:Int)-bl d)-bits+1) least:=by
 have hn:=sZ (a:=a) hd;unfold nC;have hq:=lX (a:=a) (bits:=bits) (f:=iV a d bits least) hd;have hf:iV a d bits least=max ((bl a:Int)-bl d-bits) least:=rfl;generalize iV a d bits least=f at *
 generalize (bl a:Int)-bl d=e0 at *
 by_cases c:below2 a d e0
 ·rw [od c];have:below2 a d (f+bits):=kK hd c oq;have:=hq.2 this;rw [oh oq];omega
 ·rw [oh c]
  by_cases g:least≤e0-bits
  ·have hfe:f=e0-bits:=oq
   have:¬ below2 a d (f+bits):=by rw [hfe,show e0-(bits:Int)+bits=e0 by omega];exact c
   have:¬ bl (nL a d f)≤bits:=fun h=>this (hq.1 h);rw [od oq];omega
  ·have:below2 a d (f+bits):=kK hd hn oq;have:=hq.2 this;rw [oh oq];omega
def aCz (a d:Nat):Int:=if below2 a d ((bl a:Int)-bl d) then (bl a:Int)-bl d-1 else (bl a:Int)-bl d
theorem aKh {a d:Nat}(ha:a≠0) (_hd:d≠0):¬ below2 a d (aCz a d):=by
 unfold aCz;split
 ·have hba:1≤bl a:=by unfold bl;rw [oh ha];omega
  have h1:=dT ha;have h2:=eP d;unfold below2;generalize he:(bl a:Int)-bl d-1=e;have g1:2^(bl a-1+(-e).toNat)≤a*2^(-e).toNat:=by
   rw [oi];exact om _ h1
  have g2:d*2^e.toNat<2^(bl d+e.toNat):=by
   rw [oi];exact qa h2 (ot _)
  have g3:bl d+e.toNat=bl a-1+(-e).toNat:=oq
  rw [g3]at g2;omega
 ·assumption
theorem yD (x y:Nat):x/y≤FT.half x y:=by unfold FT.half;exact uq _ _
namespace FT
theorem bAt (k:FloatKind) (x:Nat):FloatKind.decode k x=k.format.read x:=rfl
theorem jC {k k':FloatKind}{s:Bool}{m:Nat}{p:Int}(hk:k≠k') (g:Good k.format) (g':Good k'.format) (h:Has k.format m p) (h':Has k'.format m p) :
 Sy.f2f k k' (k.format.nearest s m p)=k'.format.nearest s m p∧Sy.f2fOk k k' (k.format.nearest s m p)=true:=by
 have e:FloatKind.decode k (k.format.nearest s m p)=.number s (m*2^(p-last k.format m p).toNat) (last k.format m p):=h.read g;have e2:FloatKind.encode k' (.number s (m*2^(p-last k.format m p).toNat) (last k.format m p))=k'.format.nearest s m p:=by
  show k'.format.nearest s _ _=_;have:=h.last_le;generalize last k.format m p=i at *
  rw [show i=p-((p-i).toNat:Nat) by omega];rw [show (p-(p-(((p-i).toNat:Nat):Int))).toNat=(p-i).toNat by omega];exact cQ h.ne
 unfold Sy.f2f Sy.f2fOk;rw [e,oh hk,e2];refine⟨rfl,?_⟩;simp only [];rw [e2,bAt,h'.read g'];simp [Datum.isInfinity]
end FT
open FT
theorem oH {m:Nat}{e:Int}(h0:m≠0) (hm:m<2^53) (h1:-1074≤e) (h2:(bl m:Int)+e≤1024):Has double m e:=by
 have eb:bl m=m.log2+1:=by unfold bl;rw [oh h0]
 exact⟨h0,hm,h1,by show e+m.log2-52+1074+3≤2048;omega⟩
theorem wH {m:Nat}{e:Int}(h0:m≠0) (hm:m<2^24) (h1:-149≤e) (h2:(bl m:Int)+e≤128):Has single m e:=by
 have eb:bl m=m.log2+1:=by unfold bl;rw [oh h0]
 exact⟨h0,hm,h1,by show e+m.log2-23+149+3≤256;omega⟩
theorem bCj {f:Ieee.Format}{s:Bool}{e:Int}(k:Nat):f.nearest s (2^k) e=f.nearest s 1 (k+e):=by
 have:=FT.cQ (f:=f) (neg:=s) (m:=1) (k:=k) (p:=k+e) oz;rw [zk,show ((k:Int)+e-(k:Nat))=e by omega]at this;exact this
theorem aRh {s:Bool}{m:Nat}{e:Int}(h0:m≠0) (hm:m≤2^24) (h1:-149≤e) (h2:(bl m:Int)+e≤128) :
 Sy.f2fOk .f64 .f32 (double.nearest s m e)=true∧Sy.f2fOk .f32 .f64 (Sy.f2f .f64 .f32 (double.nearest s m e))=true:=by
 have key:∀m e,Has double m e→Has single m e→Sy.f2fOk .f64 .f32 (double.nearest s m e)=true∧Sy.f2fOk .f32 .f64 (Sy.f2f .f64 .f32 (double.nearest s m e))=true:=fun m e a b=>by
  obtain⟨c1,c2⟩:=jC (k:=.f64) (k':=.f32) (s:=s) oz aN eO a b;obtain⟨c3,c4⟩:=jC (k:=.f32) (k':=.f64) (s:=s) oz eO aN b a
  exact⟨c2,by
   have:Sy.f2f .f64 .f32 (double.nearest s m e)=single.nearest s m e:=c1;rw [this]
   exact c4⟩
 rcases zz m (2^24) with g|g
 ·exact key m e (oH h0 (ze g (zr oz oz)) oq oq) (wH h0 g h1 h2)
 ·obtain rfl:m=2^24:=vj hm g;have el:bl (2^24)=25:=by decide +kernel
  rw [bCj];rw [el]at h2;have b1:bl 1=1:=by decide +kernel
  exact key 1 _ (oH oz oz oq (by rw [b1];omega)) (wH oz oz oq (by rw [b1];omega))
theorem aKc {s:Bool}{a d:Nat}(hd:d≠0):Sy.f2fOk .f64 .f32 (kI s a d 24 (-149) 128)=true∧Sy.f2fOk .f32 .f64 (Sy.f2f .f64 .f32 (kI s a d 24 (-149) 128))=true:=by
 have z:Sy.f2fOk .f64 .f32 0=true∧Sy.f2fOk .f32 .f64 (Sy.f2f .f64 .f32 0)=true:=by decide +kernel
 have i:∀s,Sy.f2fOk .f64 .f32 (double.nearest s 1 5000)=true∧Sy.f2fOk .f32 .f64 (Sy.f2f .f64 .f32 (double.nearest s 1 5000))=true:=by decide +kernel
 unfold kI;split
 ·exact z
 ·split
  ·exact i s
  ·split
   ·exact z
   ·rename_i h1 h2 h3;have hlow:-149≤nC a d 24 (-149):=by
     have h1:-149≤iV a d 24 (-149):=uz _ _;unfold nC;split <;> omega
    exact aRh h3 (aOq hd) hlow oq
section
variable {k:World}{R:World→Value→Prop}{cs:Array Value}{q:Rat}{K:Nat}
end
end Go.Proofs.YtifcjpacobpdmaaGreat

namespace Go.Proofs.YtifcjpacobpdmaaGreat.W32
open Go.RowKit Num
open Sy (Up Sees CallsG Seg)
section
variable {k k':World}{cs cs':Array Value}{R:World→Value→Prop}{x y q q':Rat}{K L:Nat}{b:Bool}{A A':Option Addr}{l c l' c':Nat}
theorem QV.mk1 (h:QN k b A l c A' l' c' q) (h1:l≤K) (h2:l'≤K):QV k #[.bool b,.slice A l c,.slice A' l' c'] q K:=⟨b,A,l,c,A',l',c',rfl,h,h1,h2⟩
end
end Go.Proofs.YtifcjpacobpdmaaGreat.W32

namespace Go.Proofs.YtifcjpacobpdmaaGreat
open Num
end Go.Proofs.YtifcjpacobpdmaaGreat

namespace Go.Proofs.YtifcjpacobpdmaaGreat.W32
open Go.RowKit Num
open Sy (Up Sees CallsG Seg)
def p2 (e:Int):Rat:=if e<0 then 1/((2^(-e).toNat:Nat):Rat) else (((2^e.toNat:Nat):Int):Rat)
section
variable {k:World}{R:World→Value→Prop}{K:Nat}
end
end Go.Proofs.YtifcjpacobpdmaaGreat.W32

namespace Go.Proofs.YtifcjpacobpdmaaGreat
open Num W32
end Go.Proofs.YtifcjpacobpdmaaGreat

namespace Go.Proofs.YtifcjpacobpdmaaGreat.W32
open Go.RowKit Num Ieee FT
open Sy (Up Sees CallsG Seg)
section
variable {k:World}{R:World→Value→Prop}{K:Nat}
end
section
variable {k:World}{R:World→Value→Prop}{s:Bool}{m:Nat}{p e:Int}
end
open Sy (Up Sees CallsG cellAt ReadAt ReadIn RowAt RowC sizeOk)
section
variable {k k':World}{A A':Option Addr}{n c m n' c' m' a b l l':Nat}{R:World→Value→Prop}{x q:Rat}{g:Bool}
end
section
variable {k:World}{R:World→Value→Prop}{s:Bool}{e:Int}{K:Nat}
end
end Go.Proofs.YtifcjpacobpdmaaGreat.W32

namespace Go.Proofs.YtifcjpacobpdmaaGreat
open Num W32
end Go.Proofs.YtifcjpacobpdmaaGreat

namespace Go.Proofs.YtifcjpacobpdmaaGreat.W32
open Go.RowKit Num Ieee FT
open Sy (Up Sees CallsG Seg)
section
variable {k:World}{R:World→Value→Prop}{cs:Array Value}{q:Rat}{K:Nat}{s:Bool}{sw:Nat}
end
end Go.Proofs.YtifcjpacobpdmaaGreat.W32

namespace Go.Proofs.YtifcjpacobpdmaaGreat
open Go.RowKit Num W32
open Sy (Up Sees CallsG Seg)
section
variable {k k':World}{cs cs':Array Value}{R:World→Value→Prop}{x y q:Rat}{K L:Nat}
def Pw (q:Rat) (j:Nat):Prop:=q.num.natAbs≤2^j∧q.den≤2^j
end
