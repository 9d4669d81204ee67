/- Several texts in one. (Printed by prep.py.) -/
import Ieee.Arith
import Derived.Test.YtjgnlflbgmnfaaaGreatBsQ5
import Derived.Test.YtjgnlflbgmnfaaaGreatBsRat5
namespace Go.Proofs.YtjgnlflbgmnfaaaGreat
open IntKind (wrap)
open Go.RowKit
open Value (agg slice int bool tuple)
open Sy (Up Sees CallsG Seg execFn_use)
set_option maxRecDepth 100000
variable {k:World}{R:World→Value→Prop}{A0 A1 A2 A4 A5:Option Addr}{c0 c1 c2 c4 c5 l0 l1 l2 l4 l5:Nat}{n0 n1 n2:Int}{b0 b3:Bool}
theorem aOy 
 (h:Tt∧(Br (((l0:Nat):Int) == 0) (Rt R k (int .i64 0)) (Tt∧(Tt∧(Ad A0∧((0:Int)≤(wrap .i64 ((l0:Nat)-1))∧((wrap .i64 ((l0:Nat)-1)):Int)<(l0:Nat))∧
 ∃n1,Sy.ReadAt k.cell? A0 (Int.toNat (wrap .i64 ((l0:Nat)-1))*1+0) 1 (int .u64 n1)∧
 Cl k 235 #[int .u64 n1] fun k2 r1=>Gi r1 fun n2=>
 Rt R k2 (int .i64 (wrap .i64 ((wrap .i64 (64*(wrap .i64 ((l0:Nat)-1))))+n2)))))))) :
  CallsG Tryz.prog 169 #[slice A0 l0 c0] k R:=
  qY { opq:=[] } h
theorem aQp {n0:Nat}
 (h:Rt R k (Value.float .f64 (Int.toNat (wrap .u64 (BitVec.toNat (BitVec.ofInt (IntKind.bits .u64) ((n0:Nat):Int) &&& ~~~(BitVec.ofInt (IntKind.bits .u64) 9223372036854775808))))))) :
 CallsG Tryz.prog 178 #[Value.float .f64 n0] k R:=
 qX { opq:=[] } [.one (.var 0)] [Value.float .f64 n0] [.flt .f64] ⟨⟨_,rfl⟩,trivial⟩ h
theorem pG {n0:Nat} 
 (h:Br ((n1:Int) == 0) (Cl k 178 #[Value.float .f64 n0] fun k1 r0=>∃n2:Nat,some (Value.float .f64 n2)=some r0∧
 Rt R k1 (bool (Ieee.Format.order (FloatKind.format .f64) n2 9218868437227405311 == some Ordering.gt))) (Br (decide ((n1:Int)<0)) (Rt R k (bool (Ieee.Format.order (FloatKind.format .f64) (Op.negFloat .f64 n0) 9218868437227405311 == some Ordering.gt))) (Rt R k (bool (Ieee.Format.order (FloatKind.format .f64) n0 9218868437227405311 == some Ordering.gt))))) :
  CallsG Tryz.prog 90 #[Value.float .f64 n0,int .i64 n1] k R:=
  qX { opq:=[] } [.one (.var 0),.one (.var 1)] [Value.float .f64 n0,int .i64 n1] [.flt .f64,.int .i64] ⟨⟨_,rfl⟩,⟨_,rfl⟩,trivial⟩ h
theorem eR {n0:Nat}
 (h:Rt R k (bool (Ieee.Format.order (FloatKind.format .f64) n0 n0 != some Ordering.eq))) :
 CallsG Tryz.prog 89 #[Value.float .f64 n0] k R:=
 qX { opq:=[] } [.one (.var 0)] [Value.float .f64 n0] [.flt .f64] ⟨⟨_,rfl⟩,trivial⟩ h
theorem xG 
 (h:Br (decide ((n0:Int) ≥ 0)) (Rt R k (Value.float .f64 9218868437227405312)) (Rt R k (Value.float .f64 18442240474082181120))) :
 CallsG Tryz.prog 63 #[int .i64 n0] k R:=
 qY { opq:=[] } h
theorem zM {n0:Nat}{n1:Nat}
 (h:Rt R k (Value.float .f64 (Int.toNat (wrap .u64 (BitVec.toNat (BitVec.ofInt (IntKind.bits .u64) (wrap .u64 (BitVec.toNat (BitVec.ofInt (IntKind.bits .u64) ((n0:Nat):Int) &&& ~~~(BitVec.ofInt (IntKind.bits .u64) 9223372036854775808)))) ||| BitVec.ofInt (IntKind.bits .u64) (wrap .u64 (BitVec.toNat (BitVec.ofInt (IntKind.bits .u64) ((n1:Nat):Int) &&& BitVec.ofInt (IntKind.bits .u64) 9223372036854775808))))))))) :
 CallsG Tryz.prog 139 #[Value.float .f64 n0,Value.float .f64 n1] k R:=
 qX { opq:=[] } [.one (.var 0),.one (.var 1)] [Value.float .f64 n0,Value.float .f64 n1] [.flt .f64,.flt .f64] ⟨⟨_,rfl⟩,⟨_,rfl⟩,trivial⟩ h
theorem zQ {n0:Nat}
 (h:Cl k 178 #[Value.float .f64 n0] fun k1 r0=>∃n1:Nat,some (Value.float .f64 n1)=some r0∧
 Br (Ieee.Format.order (FloatKind.format .f64) n1 4503599627370496 == some Ordering.lt) ((Sy.fltR .f64 .mul n0 4841369599423283200).isSome=true∧
 (Rt R k1 (tuple #[Value.float .f64 ((Sy.fltR .f64 .mul n0 4841369599423283200).getD 0),int .i64 (-52)]))) (Rt R k1 (tuple #[Value.float .f64 n0,int .i64 0]))) :
   CallsG Tryz.prog 240 #[Value.float .f64 n0] k R:=
  qX { opq:=[] } [.one (.var 0)] [Value.float .f64 n0] [.flt .f64] ⟨⟨_,rfl⟩,trivial⟩ h
theorem aEx {n0:Nat} 
 (h:Br (Ieee.Format.order (FloatKind.format .f64) n0 0 == some Ordering.eq) (Rt R k (Value.float .f64 n0)) (Cl k 90 #[Value.float .f64 n0,int .i64 0] fun k2 r1=>Gb r1 fun b2=>
 Br b2 (Rt R k2 (Value.float .f64 n0)) (Cl k2 89 #[Value.float .f64 n0] fun k5 r4=>Gb r4 fun b3=>
 Br b3 (Rt R k5 (Value.float .f64 n0)) (Cl k5 240 #[Value.float .f64 n0] fun k8 r7=>∃n4:Nat,∃n5,some (tuple #[Value.float .f64 n4,int .i64 n5])=some r7∧
 Br (decide (((wrap .i64 ((wrap .i64 (n1+n5))+(wrap .i64 ((wrap .i64 (BitVec.toNat (BitVec.ofInt (IntKind.bits .i64) (wrap .i64 (Int.fdiv ((n4:Nat):Int) (2^(min (Int.toNat 52) (IntKind.bits .u64))))) &&& BitVec.ofInt (IntKind.bits .i64) 2047)))-1023)))):Int)<(-1075))) (Cl k8 139 #[Value.float .f64 0,Value.float .f64 n4] fun k10 r9=>∃n6:Nat,some (Value.float .f64 n6)=some r9∧
 Rt R k10 (Value.float .f64 n6)) (Br (decide (((wrap .i64 ((wrap .i64 (n1+n5))+(wrap .i64 ((wrap .i64 (BitVec.toNat (BitVec.ofInt (IntKind.bits .i64) (wrap .i64 (Int.fdiv ((n4:Nat):Int) (2^(min (Int.toNat 52) (IntKind.bits .u64))))) &&& BitVec.ofInt (IntKind.bits .i64) 2047)))-1023)))):Int) > 1023)) (Br (Ieee.Format.order (FloatKind.format .f64) n4 0 == some Ordering.lt) (Cl k8 63 #[int .i64 (-1)] fun k13 r12=>∃n6:Nat,some (Value.float .f64 n6)=some r12∧
 Rt R k13 (Value.float .f64 n6)) (Cl k8 63 #[int .i64 1] fun k16 r15=>∃n6:Nat,some (Value.float .f64 n6)=some r15∧
 Rt R k16 (Value.float .f64 n6))) (Br (decide (((wrap .i64 ((wrap .i64 (n1+n5))+(wrap .i64 ((wrap .i64 (BitVec.toNat (BitVec.ofInt (IntKind.bits .i64) (wrap .i64 (Int.fdiv ((n4:Nat):Int) (2^(min (Int.toNat 52) (IntKind.bits .u64))))) &&& BitVec.ofInt (IntKind.bits .i64) 2047)))-1023)))):Int)<(-1022))) ((Sy.fltR .f64 .mul 4368491638549381120 (Int.toNat (wrap .u64 (BitVec.toNat (BitVec.ofInt (IntKind.bits .u64) (wrap .u64 (BitVec.toNat (BitVec.ofInt (IntKind.bits .u64) ((n4:Nat):Int) &&& ~~~(BitVec.ofInt (IntKind.bits .u64) 9218868437227405312)))) ||| BitVec.ofInt (IntKind.bits .u64) (wrap .u64 ((wrap .u64 (wrap .i64 ((wrap .i64 ((wrap .i64 ((wrap .i64 (n1+n5))+(wrap .i64 ((wrap .i64 (BitVec.toNat (BitVec.ofInt (IntKind.bits .i64) (wrap .i64 (Int.fdiv ((n4:Nat):Int) (2^(min (Int.toNat 52) (IntKind.bits .u64))))) &&& BitVec.ofInt (IntKind.bits .i64) 2047)))-1023))))+53))+1023)))*2^(min (Int.toNat 52) (IntKind.bits .u64))))))))).isSome=true∧
 (Rt R k8 (Value.float .f64 ((Sy.fltR .f64 .mul 4368491638549381120 (Int.toNat (wrap .u64 (BitVec.toNat (BitVec.ofInt (IntKind.bits .u64) (wrap .u64 (BitVec.toNat (BitVec.ofInt (IntKind.bits .u64) ((n4:Nat):Int) &&& ~~~(BitVec.ofInt (IntKind.bits .u64) 9218868437227405312)))) ||| BitVec.ofInt (IntKind.bits .u64) (wrap .u64 ((wrap .u64 (wrap .i64 ((wrap .i64 ((wrap .i64 ((wrap .i64 (n1+n5))+(wrap .i64 ((wrap .i64 (BitVec.toNat (BitVec.ofInt (IntKind.bits .i64) (wrap .i64 (Int.fdiv ((n4:Nat):Int) (2^(min (Int.toNat 52) (IntKind.bits .u64))))) &&& BitVec.ofInt (IntKind.bits .i64) 2047)))-1023))))+53))+1023)))*2^(min (Int.toNat 52) (IntKind.bits .u64))))))))).getD 0)))) ((Sy.fltR .f64 .mul 4607182418800017408 (Int.toNat (wrap .u64 (BitVec.toNat (BitVec.ofInt (IntKind.bits .u64) (wrap .u64 (BitVec.toNat (BitVec.ofInt (IntKind.bits .u64) ((n4:Nat):Int) &&& ~~~(BitVec.ofInt (IntKind.bits .u64) 9218868437227405312)))) ||| BitVec.ofInt (IntKind.bits .u64) (wrap .u64 ((wrap .u64 (wrap .i64 ((wrap .i64 ((wrap .i64 (n1+n5))+(wrap .i64 ((wrap .i64 (BitVec.toNat (BitVec.ofInt (IntKind.bits .i64) (wrap .i64 (Int.fdiv ((n4:Nat):Int) (2^(min (Int.toNat 52) (IntKind.bits .u64))))) &&& BitVec.ofInt (IntKind.bits .i64) 2047)))-1023))))+1023)))*2^(min (Int.toNat 52) (IntKind.bits .u64))))))))).isSome=true∧
 (Rt R k8 (Value.float .f64 ((Sy.fltR .f64 .mul 4607182418800017408 (Int.toNat (wrap .u64 (BitVec.toNat (BitVec.ofInt (IntKind.bits .u64) (wrap .u64 (BitVec.toNat (BitVec.ofInt (IntKind.bits .u64) ((n4:Nat):Int) &&& ~~~(BitVec.ofInt (IntKind.bits .u64) 9218868437227405312)))) ||| BitVec.ofInt (IntKind.bits .u64) (wrap .u64 ((wrap .u64 (wrap .i64 ((wrap .i64 ((wrap .i64 (n1+n5))+(wrap .i64 ((wrap .i64 (BitVec.toNat (BitVec.ofInt (IntKind.bits .i64) (wrap .i64 (Int.fdiv ((n4:Nat):Int) (2^(min (Int.toNat 52) (IntKind.bits .u64))))) &&& BitVec.ofInt (IntKind.bits .i64) 2047)))-1023))))+1023)))*2^(min (Int.toNat 52) (IntKind.bits .u64))))))))).getD 0)))))))))) :
   CallsG Tryz.prog 182 #[Value.float .f64 n0,int .i64 n1] k R:=
  qX { opq:=[] } [.one (.var 0),.one (.var 1)] [Value.float .f64 n0,int .i64 n1] [.flt .f64,.int .i64] ⟨⟨_,rfl⟩,⟨_,rfl⟩,trivial⟩ h
theorem aEt {n0:Nat} 
 (h:Cl k 182 #[Value.float .f64 n0,int .i64 n1] fun k1 r0=>∃n2:Nat,some (Value.float .f64 n2)=some r0∧
 Rt R k1 (Value.float .f64 n2)) :
  CallsG Tryz.prog 93 #[Value.float .f64 n0,int .i64 n1] k R:=
  qX { opq:=[] } [.one (.var 0),.one (.var 1)] [Value.float .f64 n0,int .i64 n1] [.flt .f64,.int .i64] ⟨⟨_,rfl⟩,⟨_,rfl⟩,trivial⟩ h
theorem aEv {n0:Nat}
 (h:Br (Ieee.Format.order (FloatKind.format .f64) n0 0 == some Ordering.eq) (Rt R k (tuple #[Value.float .f64 n0,int .i64 0])) (Cl k 90 #[Value.float .f64 n0,int .i64 0] fun k2 r1=>Gb r1 fun b1=>
 Br b1 (Rt R k2 (tuple #[Value.float .f64 n0,int .i64 0])) (Cl k2 89 #[Value.float .f64 n0] fun k5 r4=>Gb r4 fun b2=>
 Br b2 (Rt R k5 (tuple #[Value.float .f64 n0,int .i64 0])) (Cl k5 240 #[Value.float .f64 n0] fun k8 r7=>∃n3:Nat,∃n4,some (tuple #[Value.float .f64 n3,int .i64 n4])=some r7∧
 Rt R k8 (tuple #[Value.float .f64 (Int.toNat (wrap .u64 (BitVec.toNat (BitVec.ofInt (IntKind.bits .u64) (wrap .u64 (BitVec.toNat (BitVec.ofInt (IntKind.bits .u64) ((n3:Nat):Int) &&& ~~~(BitVec.ofInt (IntKind.bits .u64) 9218868437227405312)))) ||| BitVec.ofInt (IntKind.bits .u64) 4602678819172646912)))),int .i64 (wrap .i64 (n4+(wrap .i64 ((wrap .i64 ((wrap .i64 (wrap .u64 (BitVec.toNat (BitVec.ofInt (IntKind.bits .u64) (Int.fdiv ((n3:Nat):Int) (2^(min (Int.toNat 52) (IntKind.bits .u64)))) &&& BitVec.ofInt (IntKind.bits .u64) 2047))))-1023))+1))))]))))) :
  CallsG Tryz.prog 180 #[Value.float .f64 n0] k R:=
  qX { opq:=[] } [.one (.var 0)] [Value.float .f64 n0] [.flt .f64] ⟨⟨_,rfl⟩,trivial⟩ h
theorem aEs {n0:Nat}
 (h:Cl k 180 #[Value.float .f64 n0] fun k1 r0=>∃n1:Nat,∃n2,some (tuple #[Value.float .f64 n1,int .i64 n2])=some r0∧
 Rt R k1 (tuple #[Value.float .f64 n1,int .i64 n2])) :
  CallsG Tryz.prog 91 #[Value.float .f64 n0] k R:=
  qX { opq:=[] } [.one (.var 0)] [Value.float .f64 n0] [.flt .f64] ⟨⟨_,rfl⟩,trivial⟩ h
theorem aSx {n3:Nat}
 (h:Br b0 (Rt R k (Value.float .f64 (Op.negFloat .f64 n3))) (Rt R k (Value.float .f64 n3))) :
 CallsG Tryz.prog 171 #[agg #[bool b0,slice A1 l1 c1,slice A2 l2 c2],Value.float .f64 n3] k R:=
 qX { opq:=[] } [.agg (qV 0 3),.one (.var 3)] [bool b0,slice A1 l1 c1,slice A2 l2 c2,Value.float .f64 n3] [.bool,.slice,.slice,.flt .f64] ⟨⟨_,rfl⟩,qS,qS,⟨_,rfl⟩,trivial⟩ h
theorem aSv 
 (h:Cl k 95 #[slice A1 l1 c1,int .i64 (if (decide ((n2:Int)<0))=true then 0 else n2)] fun k1 r0=>∃A3 l3 c3,some (slice A3 l3 c3)=some r0∧
 Cl k1 95 #[slice A0 l0 c0,int .i64 (if (decide (((wrap .i64 (0-n2)):Int)<0))=true then 0 else (wrap .i64 (0-n2)))] fun k3 r2=>∃A4 l4 c4,some (slice A4 l4 c4)=some r2∧
 Cl k3 105 #[slice A4 l4 c4,slice A3 l3 c3] fun k5 r4=>∃A5 l5 c5,∃A6 l6 c6,some (tuple #[slice A5 l5 c5,slice A6 l6 c6])=some r4∧
 Cl k5 95 #[slice A6 l6 c6,int .i64 1] fun k7 r6=>∃A7 l7 c7,some (slice A7 l7 c7)=some r6∧
 Cl k7 137 #[slice A7 l7 c7,slice A3 l3 c3] fun k9 r8=>Gi r8 fun n8=>
 Br (decide ((n8:Int) > 0)) (Cl k9 97 #[int .u64 1] fun k11 r10=>∃A9 l9 c9,some (slice A9 l9 c9)=some r10∧
 Cl k11 204 #[slice A5 l5 c5,slice A9 l9 c9] fun k13 r12=>∃A10 l10 c10,some (slice A10 l10 c10)=some r12∧
 Rt R k13 (slice A10 l10 c10)) (Br ((n8:Int) == 0) (Cl k9 236 #[slice A5 l5 c5,int .i64 0] fun k16 r15=>∃n9,some (int .u64 n9)=some r15∧
 Br ((n9:Int) == 1) (Cl k16 97 #[int .u64 1] fun k18 r17=>∃A10 l10 c10,some (slice A10 l10 c10)=some r17∧
 Cl k18 204 #[slice A5 l5 c5,slice A10 l10 c10] fun k20 r19=>∃A11 l11 c11,some (slice A11 l11 c11)=some r19∧
 Rt R k20 (slice A11 l11 c11)) (Rt R k16 (slice A5 l5 c5))) (Rt R k9 (slice A5 l5 c5)))) :
  CallsG Tryz.prog 170 #[slice A0 l0 c0,slice A1 l1 c1,int .i64 n2] k R:=
  qY { opq:=[] } h
theorem aOw 
 (h:Cl k 104 #[slice A5 l5 c5] fun k1 r0=>∃A6 l6 c6,some (slice A6 l6 c6)=some r0∧
 Tt∧(Br (((l4:Nat):Int) == 0) (Rt R k1 (Value.float .f64 0)) (Cl k1 169 #[slice A4 l4 c4] fun k4 r3=>Gi r3 fun n7=>
 Cl k4 169 #[slice A6 l6 c6] fun k6 r5=>Gi r5 fun n8=>
 Cl k6 95 #[slice A4 l4 c4,int .i64 (if (decide (((wrap .i64 (0-(if (decide (((wrap .i64 ((wrap .i64 (n7-n8))-n0)):Int)<n1))=true then n1 else (wrap .i64 ((wrap .i64 (n7-n8))-n0))))):Int)<0))=true then 0 else (wrap .i64 (0-(if (decide (((wrap .i64 ((wrap .i64 (n7-n8))-n0)):Int)<n1))=true then n1 else (wrap .i64 ((wrap .i64 (n7-n8))-n0))))))] fun k8 r7=>∃A9 l9 c9,some (slice A9 l9 c9)=some r7∧
 Cl k8 95 #[slice A6 l6 c6,int .i64 (if (decide (((if (decide (((wrap .i64 ((wrap .i64 (n7-n8))-n0)):Int)<n1))=true then n1 else (wrap .i64 ((wrap .i64 (n7-n8))-n0))):Int)<0))=true then 0 else (if (decide (((wrap .i64 ((wrap .i64 (n7-n8))-n0)):Int)<n1))=true then n1 else (wrap .i64 ((wrap .i64 (n7-n8))-n0))))] fun k10 r9=>∃A10 l10 c10,some (slice A10 l10 c10)=some r9∧
 Cl k10 105 #[slice A9 l9 c9,slice A10 l10 c10] fun k12 r11=>∃A11 l11 c11,∃A12 l12 c12,some (tuple #[slice A11 l11 c11,slice A12 l12 c12])=some r11∧
 Cl k12 169 #[slice A11 l11 c11] fun k14 r13=>Gi r13 fun n13=>
 Br (decide ((n13:Int) > n0)) (Cl k14 170 #[slice A4 l4 c4,slice A6 l6 c6,int .i64 (wrap .i64 ((if (decide (((wrap .i64 ((wrap .i64 (n7-n8))-n0)):Int)<n1))=true then n1 else (wrap .i64 ((wrap .i64 (n7-n8))-n0)))+1))] fun k16 r15=>∃A14 l14 c14,some (slice A14 l14 c14)=some r15∧
 Cl k16 169 #[slice A14 l14 c14] fun k18 r17=>Gi r17 fun n15=>
 Br (decide (((wrap .i64 (n15+(wrap .i64 ((if (decide (((wrap .i64 ((wrap .i64 (n7-n8))-n0)):Int)<n1))=true then n1 else (wrap .i64 ((wrap .i64 (n7-n8))-n0)))+1)))):Int) > n2)) (Cl k18 63 #[int .i64 1] fun k20 r19=>∃n16:Nat,some (Value.float .f64 n16)=some r19∧
 Cl k20 171 #[agg #[bool b3,slice A4 l4 c4,slice A5 l5 c5],Value.float .f64 n16] fun k22 r21=>∃n17:Nat,some (Value.float .f64 n17)=some r21∧
 Rt R k22 (Value.float .f64 n17)) (Tt∧(Br (((l14:Nat):Int) == 0) (Rt R k18 (Value.float .f64 0)) (Ad A14∧((0:Int)≤0∧(0:Int)<(l14:Nat))∧
 ∃n16,Sy.ReadAt k18.cell? A14 (Int.toNat 0*1+0) 1 (int .u64 n16)∧
 Cl k18 93 #[Value.float .f64 (FloatKind.nearest .f64 n16),int .i64 (wrap .i64 ((if (decide (((wrap .i64 ((wrap .i64 (n7-n8))-n0)):Int)<n1))=true then n1 else (wrap .i64 ((wrap .i64 (n7-n8))-n0)))+1))] fun k26 r25=>∃n17:Nat,some (Value.float .f64 n17)=some r25∧
 Cl k26 171 #[agg #[bool b3,slice A4 l4 c4,slice A5 l5 c5],Value.float .f64 n17] fun k28 r27=>∃n18:Nat,some (Value.float .f64 n18)=some r27∧
 Rt R k28 (Value.float .f64 n18))))) (Cl k14 170 #[slice A4 l4 c4,slice A6 l6 c6,int .i64 (if (decide (((wrap .i64 ((wrap .i64 (n7-n8))-n0)):Int)<n1))=true then n1 else (wrap .i64 ((wrap .i64 (n7-n8))-n0)))] fun k31 r30=>∃A14 l14 c14,some (slice A14 l14 c14)=some r30∧
 Cl k31 169 #[slice A14 l14 c14] fun k33 r32=>Gi r32 fun n15=>
 Br (decide (((wrap .i64 (n15+(if (decide (((wrap .i64 ((wrap .i64 (n7-n8))-n0)):Int)<n1))=true then n1 else (wrap .i64 ((wrap .i64 (n7-n8))-n0))))):Int) > n2)) (Cl k33 63 #[int .i64 1] fun k35 r34=>∃n16:Nat,some (Value.float .f64 n16)=some r34∧
 Cl k35 171 #[agg #[bool b3,slice A4 l4 c4,slice A5 l5 c5],Value.float .f64 n16] fun k37 r36=>∃n17:Nat,some (Value.float .f64 n17)=some r36∧
 Rt R k37 (Value.float .f64 n17)) (Tt∧(Br (((l14:Nat):Int) == 0) (Rt R k33 (Value.float .f64 0)) (Ad A14∧((0:Int)≤0∧(0:Int)<(l14:Nat))∧
 ∃n16,Sy.ReadAt k33.cell? A14 (Int.toNat 0*1+0) 1 (int .u64 n16)∧
 Cl k33 93 #[Value.float .f64 (FloatKind.nearest .f64 n16),int .i64 (if (decide (((wrap .i64 ((wrap .i64 (n7-n8))-n0)):Int)<n1))=true then n1 else (wrap .i64 ((wrap .i64 (n7-n8))-n0)))] fun k41 r40=>∃n17:Nat,some (Value.float .f64 n17)=some r40∧
 Cl k41 171 #[agg #[bool b3,slice A4 l4 c4,slice A5 l5 c5],Value.float .f64 n17] fun k43 r42=>∃n18:Nat,some (Value.float .f64 n18)=some r42∧
 Rt R k43 (Value.float .f64 n18)))))))) :
  CallsG Tryz.prog 86 #[agg #[int .i64 n0,int .i64 n1,int .i64 n2],agg #[bool b3,slice A4 l4 c4,slice A5 l5 c5]] k R:=
  qY { opq:=[] } h
theorem aOv
 (h:Rt R k (agg #[int .i64 53,int .i64 (-1074),int .i64 1024])) :
 CallsG Tryz.prog 85 #[] k R:=
 qX { opq:=[] } [] [] [] trivial h
theorem mJ {n0:Nat}
 (h:Cl k 89 #[Value.float .f64 n0] fun k1 r0=>Gb r0 fun b1=>
 Br b1 (Rt R k1 (tuple #[agg #[bool false,slice none 0 0,slice none 0 0],int .i64 1])) (Cl k1 90 #[Value.float .f64 n0,int .i64 0] fun k4 r3=>Gb r3 fun b2=>
 Br b2 (Rt R k4 (tuple #[agg #[bool false,slice none 0 0,slice none 0 0],int .i64 1])) (Cl k4 91 #[Value.float .f64 n0] fun k7 r6=>∃n3:Nat,∃n4,some (tuple #[Value.float .f64 n3,int .i64 n4])=some r6∧
 Cl k7 93 #[Value.float .f64 n3,int .i64 53] fun k9 r8=>∃n5:Nat,some (Value.float .f64 n5)=some r8∧
 (Sy.f2iOk .f64 .i64 n5)=true∧
 (Cl k9 92 #[int .i64 (Sy.f2i .f64 n5)] fun k11 r10=>∃b6,∃A7 l7 c7,some (agg #[bool b6,slice A7 l7 c7])=some r10∧
 Br (decide (((wrap .i64 (n4-53)):Int) ≥ 0)) (Cl k11 95 #[slice A7 l7 c7,int .i64 (wrap .i64 (n4-53))] fun k13 r12=>∃A8 l8 c8,some (slice A8 l8 c8)=some r12∧
 Cl k13 94 #[bool b6,slice A8 l8 c8] fun k15 r14=>∃b9,∃A10 l10 c10,some (agg #[bool b9,slice A10 l10 c10])=some r14∧
 Rt R k15 (tuple #[agg #[bool b9,slice A10 l10 c10,slice none 0 0],int .i64 0])) (Cl k11 97 #[int .u64 1] fun k18 r17=>∃A8 l8 c8,some (slice A8 l8 c8)=some r17∧
 Cl k18 95 #[slice A8 l8 c8,int .i64 (wrap .i64 (0-(wrap .i64 (n4-53))))] fun k20 r19=>∃A9 l9 c9,some (slice A9 l9 c9)=some r19∧
 Cl k20 96 #[agg #[bool b6,slice A7 l7 c7],slice A9 l9 c9] fun k22 r21=>∃b10,∃A11 l11 c11,∃A12 l12 c12,some (agg #[bool b10,slice A11 l11 c11,slice A12 l12 c12])=some r21∧
 Rt R k22 (tuple #[agg #[bool b10,slice A11 l11 c11,slice A12 l12 c12],int .i64 0])))))) :
  CallsG Tryz.prog 19 #[Value.float .f64 n0] k R:=
  qX { opq:=[] } [.one (.var 0)] [Value.float .f64 n0] [.flt .f64] ⟨⟨_,rfl⟩,trivial⟩ h
abbrev nrT (R:World→Value→Prop) (gE0:Int) (n100:Int) (k102:World) (gS0:Nat) (n108:Int) (n109:Int) (b120:Bool) (A121:Option Addr) (l122:Nat) (c123:Nat) (A124:Option Addr) (l125:Nat) (c126:Nat):Prop:=
 Br (decide ((gE0:Int) > n100)) (Cl k102 63 #[int .i64 1] fun k103 r104=>∃n105:Nat,some (Value.float .f64 n105)=some r104∧
 (Sy.fltR .f64 .mul gS0 n105).isSome=true∧
 (Rt R k103 (Value.float .f64 ((Sy.fltR .f64 .mul gS0 n105).getD 0)))) (Cl k102 174 #[int .i64 (if (decide (((wrap .i64 ((wrap .i64 (gE0-n108))+1)):Int)<n109))=true then n109 else (wrap .i64 ((wrap .i64 (gE0-n108))+1)))] fun k110 r111=>∃b112,∃A113 l114 c115,∃A116 l117 c118,some (agg #[bool b112,slice A113 l114 c115,slice A116 l117 c118])=some r111∧
 Cl k110 175 #[agg #[bool b120,slice A121 l122 c123,slice A124 l125 c126],agg #[bool b112,slice A113 l114 c115,slice A116 l117 c118]] fun k127 r128=>∃b129,∃A130 l131 c132,∃A133 l134 c135,∃n136,some (tuple #[agg #[bool b129,slice A130 l131 c132,slice A133 l134 c135],int .i64 n136])=some r128∧
 Cl k127 174 #[int .i64 (if (decide (((wrap .i64 ((wrap .i64 (gE0-n108))+1)):Int)<n109))=true then n109 else (wrap .i64 ((wrap .i64 (gE0-n108))+1)))] fun k138 r139=>∃b140,∃A141 l142 c143,∃A144 l145 c146,some (agg #[bool b140,slice A141 l142 c143,slice A144 l145 c146])=some r139∧
 Cl k138 83 #[agg #[bool b129,slice A130 l131 c132,slice A133 l134 c135],agg #[bool b140,slice A141 l142 c143,slice A144 l145 c146]] fun k148 r149=>∃b150,∃A151 l152 c153,∃A154 l155 c156,some (agg #[bool b150,slice A151 l152 c153,slice A154 l155 c156])=some r149∧
 Cl k148 176 #[agg #[bool b150,slice A151 l152 c153,slice A154 l155 c156]] fun k158 r159=>∃n160,∃b161,some (tuple #[int .i64 n160,bool b161])=some r159∧
 Br ((n160:Int) == 0) (Rt R k158 (Value.float .f64 0)) (∃J163:World→List Value→Prop,((decide ((0:Int)≤(wrap .u64 n108)))=true∧
 (Br ((n160:Int) == (wrap .i64 (1*2^(min (Int.toNat (wrap .u64 n108)) (IntKind.bits .i64))))) (∀k164,Up k158 k164→J163 k164 [bool (((if (decide (((wrap .i64 ((wrap .i64 (gE0-n108))+1)):Int)<n109))=true then n109 else (wrap .i64 ((wrap .i64 (gE0-n108))+1))):Int) == (wrap .i64 ((wrap .i64 (n100-n108))+1)))]) (∀k165,Up k158 k165→J163 k165 [bool false])))∧
 ∀k166 vs167,Up k158 k166→J163 k166 vs167→∃b168,some [bool b168]=some vs167∧
 Br b168 (Cl k166 63 #[int .i64 1] fun k170 r171=>∃n172:Nat,some (Value.float .f64 n172)=some r171∧
 (Sy.fltR .f64 .mul gS0 n172).isSome=true∧
 (Rt R k170 (Value.float .f64 ((Sy.fltR .f64 .mul gS0 n172).getD 0)))) (∃I174:Nat→World→List Value→Prop,(∃m175,∀k176,Up k166 k176→I174 m175 k176 [Value.float .f64 (FloatKind.nearest .f64 n160),int .i64 (if (decide (((wrap .i64 ((wrap .i64 (gE0-n108))+1)):Int)<n109))=true then n109 else (wrap .i64 ((wrap .i64 (gE0-n108))+1)))])∧
 ∀m175 k176 vs177,Up k166 k176→I174 m175 k176 vs177→∃n172:Nat,∃n178,some [Value.float .f64 n172,int .i64 n178]=some vs177∧
 Br (decide ((n178:Int) > 0)) ((Sy.fltR .f64 .mul n172 4611686018427387904).isSome=true∧
 (∀k179,Up k176 k179→∃m,m<m175∧I174 m k179 [Value.float .f64 ((Sy.fltR .f64 .mul n172 4611686018427387904).getD 0),int .i64 (wrap .i64 (n178-1))])) (Br (decide ((n178:Int)<(-1000))) ((Sy.fltR .f64 .mul gS0 n172).isSome=true∧
 ((Sy.fltR .f64 .mul ((Sy.fltR .f64 .mul gS0 n172).getD 0) 103582791429521408).isSome=true∧
 (Cl k176 177 #[int .i64 (wrap .i64 (n178+1000))] fun k181 r182=>∃n183:Nat,some (Value.float .f64 n183)=some r182∧
 (Sy.fltR .f64 .mul ((Sy.fltR .f64 .mul ((Sy.fltR .f64 .mul gS0 n172).getD 0) 103582791429521408).getD 0) n183).isSome=true∧
 (Rt R k181 (Value.float .f64 ((Sy.fltR .f64 .mul ((Sy.fltR .f64 .mul ((Sy.fltR .f64 .mul gS0 n172).getD 0) 103582791429521408).getD 0) n183).getD 0)))))) ((Sy.fltR .f64 .mul gS0 n172).isSome=true∧
 (Cl k176 177 #[int .i64 n178] fun k186 r187=>∃n183:Nat,some (Value.float .f64 n183)=some r187∧
 (Sy.fltR .f64 .mul ((Sy.fltR .f64 .mul gS0 n172).getD 0) n183).isSome=true∧
 (Rt R k186 (Value.float .f64 ((Sy.fltR .f64 .mul ((Sy.fltR .f64 .mul gS0 n172).getD 0) n183).getD 0)))))))))
end Go.Proofs.YtjgnlflbgmnfaaaGreat

namespace Go.Proofs.YtjgnlflbgmnfaaaGreat
open Num
def flr (q:Rat):Int:=q.num/(q.den:Int)
def gZ (q:Rat) (k:Nat):Rat:=mkRat (q.num*((2^k:Nat):Int) / (q.den:Int)) (2^k)
def jQ (n:Int):Nat:=(min 1000 (max 0 n)).toNat
theorem aGq (n:Int):jQ n≤1000:=by unfold jQ;omega
theorem aGp (n:Int):(if (decide ((1000:Int)<(if (decide ((n:Int)<0))=true then 0 else n)))=true then 1000 else (if (decide ((n:Int)<0))=true then 0 else n))=((jQ n:Nat):Int):=by
 unfold jQ
 by_cases h:n<0
 ·simp only [decide_eq_true h,if_true];rw [oh oz];omega
 ·simp only [decide_eq_false h,zg,if_false]
  by_cases h2:1000<n
  ·rw [og (decide_eq_true h2)];omega
  ·rw [oh (by simp [h2])];omega
theorem qD (z:Int) {d:Nat}(hd:0<d) (h:0≤z∨z.natAbs % d=0):sgn (decide (z<0)) (z.natAbs/d)=z/(d:Int):=by
 have hn:=qi z.natAbs d;have hr:=qd z.natAbs hd;have hm:(d:Int)*((z.natAbs/d:Nat):Int)+((z.natAbs % d:Nat):Int)=(z.natAbs:Int):=by rw [←vu,←xk,hn]
 generalize z.natAbs/d=q at hm;generalize z.natAbs % d=r at hm hr h
 by_cases hz:z<0
 ·have hr0:r=0:=oq
  subst hr0;refine Eq.symm ((Int.ediv_emod_unique (r:=0) oq).2 ⟨?_,oq,oq⟩).1;unfold sgn;rw [og (decide_eq_true hz),Int.mul_neg];omega
 ·refine Eq.symm ((Int.ediv_emod_unique (r:=(r:Int)) oq).2 ⟨?_,oq,oq⟩).1;unfold sgn;rw [oh (by simp [hz])];omega
theorem zN (z:Int) {d:Nat}(hd:0<d) (hz:z<0) (h:z.natAbs % d≠0):sgn true (z.natAbs/d+1)=z/(d:Int):=by
 have hn:=qi z.natAbs d;have hr:=qd z.natAbs hd;have hm:(d:Int)*((z.natAbs/d:Nat):Int)+((z.natAbs % d:Nat):Int)=(z.natAbs:Int):=by rw [←vu,←xk,hn]
 generalize z.natAbs/d=q at hm;generalize z.natAbs % d=r at hm hr h;refine Eq.symm ((Int.ediv_emod_unique (r:=(d:Int)-r) oq).2 ⟨?_,oq,oq⟩).1;unfold sgn;rw [og rfl,xk,Int.mul_neg,Int.mul_add];omega
def rcmp (y:Rat):Int:=(y-(flr y:Rat)-mkRat 1 2).num.sign
def rup (y:Rat):Bool:=decide (0<rcmp y) || (decide (rcmp y=0) && decide (flr y % 2=1))
def aVv (x s:Rat):Rat:=(if rup (x/s)=true then (flr (x/s):Rat)+1 else (flr (x/s):Rat))*s
def aXw (x s:Rat):Rat:=if s.num.sign≤0 then 0 else aVv x s
theorem oF {v:Rat}(h:0<v):0<v.num:=by
 have h1:=wm.2 (show (0:Rat)≤v by grind);have h2:v.num≠0:=fun e=>by have:=ka.1 e;grind
 omega
def halved (x:Rat):Nat→Rat
 | 0=>x
 | j+1=>halved x j/2
theorem zX (q:Rat):(q/2).num.natAbs≤q.num.natAbs∧(q/2).den≤q.den*2:=by
 have e:q/2=mkRat q.num (q.den*2):=by
  have h:=sY q.num 1 q.den 2;rw [ya,Int.mul_one]at h;rw [h,show mkRat 1 2=(1/2:Rat) from by decide +kernel]
  grind
 have hp:0<q.den*2:=jy q.den_pos oz;rw [e,fP _ hp,iC _ hp];exact⟨js _ _,js _ _⟩
open IntKind (wrap)
open Go.RowKit
open Value (agg slice int bool tuple)
open Sy (Up Sees CallsG Seg execFn_use)
set_option maxRecDepth 100000
variable {k:World}{R:World→Value→Prop}{A0 A1 A2:Option Addr}{c0 c1 c2 l0 l1 l2:Nat}{n0 n1 n2 n3:Int}{b0:Bool}{cs0:Array Value}
theorem aUr 
 (h:Br (decide ((n1:Int)<0)) (Rt R k (int .u64 0)) (Tt∧(Br (decide (((wrap .i64 (Int.tdiv n1 64)):Int) ≥ (l0:Nat))) (Rt R k (int .u64 0)) (Ad A0∧((0:Int)≤(wrap .i64 (Int.tdiv n1 64))∧((wrap .i64 (Int.tdiv n1 64)):Int)<(l0:Nat))∧
 ∃n2,Sy.ReadAt k.cell? A0 (Int.toNat (wrap .i64 (Int.tdiv n1 64))*1+0) 1 (int .u64 n2)∧
 (decide ((0:Int)≤(Int.tmod n1 64)))=true∧
 (Rt R k (int .u64 (wrap .u64 (BitVec.toNat (BitVec.ofInt (IntKind.bits .u64) (Int.fdiv n2 (2^(min (Int.toNat (Int.tmod n1 64)) (IntKind.bits .u64)))) &&& BitVec.ofInt (IntKind.bits .u64) 1))))))))) :
   CallsG Tryz.prog 236 #[slice A0 l0 c0,int .i64 n1] k R:=
  qY { opq:=[] } h
theorem aEc 
 (h:Cl k 105 #[slice A1 l1 c1,slice A2 l2 c2] fun k1 r0=>∃A3 l3 c3,∃A4 l4 c4,some (tuple #[slice A3 l3 c3,slice A4 l4 c4])=some r0∧
 Br b0 (Tt∧(Br (decide (((l4:Nat):Int) > 0)) (Cl k1 97 #[int .u64 1] fun k3 r2=>∃A5 l5 c5,some (slice A5 l5 c5)=some r2∧
 Cl k3 204 #[slice A3 l3 c3,slice A5 l5 c5] fun k5 r4=>∃A6 l6 c6,some (slice A6 l6 c6)=some r4∧
 Cl k5 94 #[bool b0,slice A6 l6 c6] fun k7 r6=>∃b7,∃A8 l8 c8,some (agg #[bool b7,slice A8 l8 c8])=some r6∧
 Rt R k7 (agg #[bool b7,slice A8 l8 c8])) (Cl k1 94 #[bool b0,slice A3 l3 c3] fun k10 r9=>∃b5,∃A6 l6 c6,some (agg #[bool b5,slice A6 l6 c6])=some r9∧
 Rt R k10 (agg #[bool b5,slice A6 l6 c6])))) (Cl k1 94 #[bool b0,slice A3 l3 c3] fun k13 r12=>∃b5,∃A6 l6 c6,some (agg #[bool b5,slice A6 l6 c6])=some r12∧
 Rt R k13 (agg #[bool b5,slice A6 l6 c6]))) :
  CallsG Tryz.prog 134 #[agg #[bool b0,slice A1 l1 c1],slice A2 l2 c2] k R:=
  qY { opq:=[] } h
theorem aJn 
 (h:Cl k 95 #[slice A1 l1 c1,int .i64 (if (decide ((1000:Int)<(if (decide ((n3:Int)<0))=true then 0 else n3)))=true then 1000 else (if (decide ((n3:Int)<0))=true then 0 else n3))] fun k1 r0=>∃A4 l4 c4,some (slice A4 l4 c4)=some r0∧
 Cl k1 94 #[bool b0,slice A4 l4 c4] fun k3 r2=>∃b5,∃A6 l6 c6,some (agg #[bool b5,slice A6 l6 c6])=some r2∧
 Cl k3 104 #[slice A2 l2 c2] fun k5 r4=>∃A7 l7 c7,some (slice A7 l7 c7)=some r4∧
 Cl k5 134 #[agg #[bool b5,slice A6 l6 c6],slice A7 l7 c7] fun k7 r6=>∃b8,∃A9 l9 c9,some (agg #[bool b8,slice A9 l9 c9])=some r6∧
 Cl k7 97 #[int .u64 1] fun k9 r8=>∃A10 l10 c10,some (slice A10 l10 c10)=some r8∧
 Cl k9 95 #[slice A10 l10 c10,int .i64 (if (decide ((1000:Int)<(if (decide ((n3:Int)<0))=true then 0 else n3)))=true then 1000 else (if (decide ((n3:Int)<0))=true then 0 else n3))] fun k11 r10=>∃A11 l11 c11,some (slice A11 l11 c11)=some r10∧
 Cl k11 96 #[agg #[bool b8,slice A9 l9 c9],slice A11 l11 c11] fun k13 r12=>∃b12,∃A13 l13 c13,∃A14 l14 c14,some (agg #[bool b12,slice A13 l13 c13,slice A14 l14 c14])=some r12∧
 Rt R k13 (agg #[bool b12,slice A13 l13 c13,slice A14 l14 c14])) :
  CallsG Tryz.prog 53 #[agg #[bool b0,slice A1 l1 c1,slice A2 l2 c2],int .i64 n3] k R:=
  qY { opq:=[] } h
theorem aOs (hcs0:Seg 3 cs0)
 (h:Cl k 135 #[agg cs0] fun k1 r0=>Gt 3 r0 fun cs2=>
 Cl k1 53 #[agg cs2,int .i64 n1] fun k3 r2=>Gt 3 r2 fun cs3=>
 Cl k3 135 #[agg cs3] fun k5 r4=>Gt 3 r4 fun cs4=>
 Rt R k5 (agg cs4)) :
  CallsG Tryz.prog 54 #[agg cs0,int .i64 n1] k R:=
  qX { opq:=[31] } [.agg [.seg 0 3],.one (.var 1)] [agg cs0,int .i64 n1] [.seg 3,.int .i64] ⟨⟨cs0,rfl,hcs0⟩,⟨_,rfl⟩,trivial⟩ h
theorem aJb 
 (h:Cl k 52 #[agg #[int .i64 n0,int .i64 n1]] fun k1 r0=>Gt 3 r0 fun cs3=>
 Cl k1 79 #[agg #[int .i64 n0,int .i64 n1]] fun k3 r2=>Gt 3 r2 fun cs4=>
 Cl k3 27 #[int .i64 2] fun k5 r4=>Gt 3 r4 fun cs5=>
 Cl k5 29 #[int .i64 2] fun k7 r6=>Gt 3 r6 fun cs6=>
 ∃I8:Nat→World→List Value→Prop,(∃m8,∀k8,Up k7 k8→I8 m8 k8 [agg cs3,agg cs4,int .i64 n2])∧
 ∀m8 k8 vs8,Up k7 k8→I8 m8 k8 vs8→∃cs7,Seg 3 cs7∧∃cs8,Seg 3 cs8∧∃n9,some [agg cs7,agg cs8,int .i64 n9]=some vs8∧
 Br (decide ((n9:Int) > 0)) (Cl k8 80 #[agg cs7,agg cs5] fun k10 r9=>Gt 3 r9 fun cs10=>
 Cl k10 81 #[agg cs8,agg cs6] fun k12 r11=>Gt 3 r11 fun cs11=>
 ∀k13,Up k12 k13→∃m,m<m8∧I8 m k13 [agg cs10,agg cs11,int .i64 (wrap .i64 (n9-1))]) (∃I14:Nat→World→List Value→Prop,(∃m14,∀k14,Up k8 k14→I14 m14 k14 [agg cs7,agg cs8,int .i64 n9])∧
 ∀m14 k14 vs14,Up k8 k14→I14 m14 k14 vs14→∃cs10,Seg 3 cs10∧∃cs11,Seg 3 cs11∧∃n12,some [agg cs10,agg cs11,int .i64 n12]=some vs14∧
 Br (decide ((n12:Int)<0)) (Cl k14 82 #[agg cs10,agg cs5] fun k16 r15=>∃cs13,Seg 3 cs13∧∃n14,some (tuple #[agg cs13,int .i64 n14])=some r15∧
 Cl k16 83 #[agg cs11,agg cs6] fun k18 r17=>Gt 3 r17 fun cs15=>
 ∀k19,Up k18 k19→∃m,m<m14∧I14 m k19 [agg cs13,agg cs15,int .i64 (wrap .i64 (n12+1))]) (Rt R k14 (tuple #[agg cs10,agg cs11])))) :
  CallsG Tryz.prog 11 #[agg #[int .i64 n0,int .i64 n1],int .i64 n2] k R:=
  qY { opq:=[31,34],loops:=[(0,[.blk 3 [.seg 3],.blk 4 [.seg 3],.tmp 1 false [.int .i64]]),(2,[.blk 3 [.seg 3],.blk 4 [.seg 3],.tmp 1 false [.int .i64]])] } h
end Go.Proofs.YtjgnlflbgmnfaaaGreat

namespace Go.Proofs.YtjgnlflbgmnfaaaGreat
open IntKind (wrap)
open Go.RowKit Num
open Sy (Up Sees CallsG Seg)
section
variable {k k':World}{A A':Option Addr}{n n' c c' a b:Nat}{cs cs':Array Value}{bz:Bool}{R:World→Value→Prop}{x y q:Rat}{z:Int}{K L:Nat}
theorem eL {s:Nat}(h:LimR k A n c a) (hn:n≤17179869184) (hs:s≤17179869184)
 (K:∀k' B j d,Up k k'→LimR k' B j d (a*2^s)→j≤n+s→R k' (.slice B j d)):Cl k 95 #[.slice A n c,.int .i64 (s:Int)] R:=
 after (fun _k0 u=>aCp fun _w hs'=>aVi ((h.up u).sees hs') hn hs) fun k' _v u ⟨B,j,d,e,h1,h2⟩=>e▸K k' B j d u h1 h2
theorem cZ {neg:Bool}(h:LimR k A n c a) (hn:n≤1152921504606846976) (hK:n≤K)
 (C:∀k' ds,Up k k'→IntV k' ds (sgn neg a) K→R k' (.agg ds)):Cl k 94 #[.bool neg,.slice A n c] R:=
 after (fun _k0 u=>aCj fun _w hs=>gO neg ((h.up u).sees hs) hn) fun k' v u hv=>by
  obtain⟨ds,rfl,hd⟩:=jT hv;exact C k' ds u (hd.mono hK)
theorem IntV.open (h:IntV k cs z K):∃b A n c,cs=#[.bool b,.slice A n c]∧IntV k #[.bool b,.slice A n c] z K:=by
 obtain⟨b,A,n,c,rfl,h⟩:=h;exact⟨b,A,n,c,rfl,b,A,n,c,rfl,h⟩
theorem RatV.open (h:RatV k cs q K):∃b A n c D d e,cs=#[.bool b,.slice A n c,.slice D d e]∧RatV k #[.bool b,.slice A n c,.slice D d e] q K:=by
 obtain⟨b,A,n,c,D,d,e,rfl,h⟩:=h;exact⟨b,A,n,c,D,d,e,rfl,b,A,n,c,D,d,e,rfl,h⟩
theorem aQd {m:Nat}(hm:m<18446744073709551616):wrap .u64 ((BitVec.toNat (BitVec.ofInt (IntKind.bits .u64) (Int.fdiv (m:Int) (2^(min (Int.toNat (Int.tmod 0 64)) (IntKind.bits .u64)))) &&& BitVec.ofInt (IntKind.bits .u64) 1):Nat):Int)=((m % 2:Nat):Int):=by
 have e1:(2:Int)^(min (Int.toNat (Int.tmod 0 64)) (IntKind.bits .u64))=1:=oz
 have e2:((m:Int) % ((2^IntKind.bits .u64:Nat):Int)).toNat=m:=by rw [show 2^IntKind.bits .u64=18446744073709551616 from rfl];omega
 have e3:((1:Int) % ((2^IntKind.bits .u64:Nat):Int)).toNat=1:=oz
 rw [e1,Int.fdiv_one,BitVec.toNat_and,BitVec.toNat_ofInt,BitVec.toNat_ofInt,e2,e3,Nat.and_one_is_mod,IntKind.wrap_u64];omega
theorem aSt (a:Nat):wq a 0 % 2=a % 2:=by unfold wq wd;rw [za,wk];unfold B64;omega
theorem aWw (h:LimR k A n c a) (C:∀k',Up k k'→R k' (.int .u64 ((a % 2:Nat):Int))) :
 Cl k 236 #[.slice A n c,.int .i64 0] R:=by
 intro k0 u0;replace h:=h.up u0;replace C:=fun k' u=>C k' (u0.trans u);refine aUr ⟨fun h0=>absurd h0 oz,fun _=>⟨rfl,fun h1=>?_,fun h1=>?_⟩⟩
 ·have hn:n=0:=by
   have:=ow h1;rw [show wrap .i64 (Int.tdiv 0 64)=0 from by decide]at this;omega
  have ha:a=0:=by rw [h.zero_iff]at hn;exact hn
  subst ha;exact fun k1 u1=>C k1 u1
 ·have hn:0<n:=by
   have:=ov h1;rw [show wrap .i64 (Int.tdiv 0 64)=0 from by decide]at this;omega
  rw [show wrap .i64 (Int.tdiv 0 64)=0 from by decide];have hl:=h.len;obtain⟨b,o,rfl,hb,hw⟩:=RW.at_ h.lr (by rw [←h.len];exact hn);have h0:=hw 0 (by rw [←h.len];exact hn);refine⟨⟨b,o,rfl⟩,⟨oz,oq⟩,((wq a 0:Nat):Int),⟨rfl,fun j u hu=>?_⟩,oz,fun k2 u2=>?_⟩
  ·cases j with
   | zero=>
    have e:u=.int .u64 ((wq a 0:Nat):Int):=by
     have h1:(#[Value.int .u64 ((wq a 0:Nat):Int)]:Array Value)[0]?=some u:=hu;simpa using h1.symm
    subst e;show Sy.cellAt _ _ _=_;unfold Sy.cellAt;have e2:o+(Int.toNat 0*1+0+0)=o+0:=by simp
    simp only [e2,h0];rfl
   | succ j=>
    have h1:(#[Value.int .u64 ((wq a 0:Nat):Int)]:Array Value)[j+1]?=some u:=hu;simp at h1
  ·have:=C k2 u2;rw [aQd (show wq a 0<18446744073709551616 from qd _ oz)];rw [aSt];exact this
theorem aLi {d:Nat}(hx:IntV k #[.bool bz,.slice A n c] z K) (h:LimR k A' n' c' d) (hd:0<d) (hK:K≤1000000) (hn:n'≤1000000) (C:∀k' ds,Up k k'→IntV k' ds (z/(d:Int)) (K+1)→R k' (.agg ds)) :
 Cl k 134 #[.agg #[.bool bz,.slice A n c],.slice A' n' c'] R:=by
 intro k0 u0;replace C:=fun k' ds u=>C k' ds (u0.trans u);obtain⟨b',A2,n2,c2,e0,hx,hnK⟩:=hx.up u0;injection e0 with e0;injection e0 with e1 e0;injection e1 with e1;injection e0 with e2 e0;injection e2 with e2 e3 e4;subst e1 e2 e3 e4;have hb:=hx.neg;refine aEc (dB hx.lim (h.up u0) hd oq oq fun k1 A3 l3 c3 A4 l4 c4 u1 hq hr lq lr=>⟨A3,l3,c3,A4,l4,c4,rfl,fun hneg=>⟨rfl,fun hrem=>?_,fun hrem=>?_⟩,fun hneg=>?_⟩)
 ·have hz:z<0:=ow (hb.symm.trans hneg);have hr0:z.natAbs % d≠0:=fun e=>by
   have h1:=hr.zero_iff.2 e;have:=ow hrem;omega
  refine kN (x:=1) oz fun k3 A5 l5 c5 u3 h5 hl5=>⟨A5,l5,c5,rfl,?_⟩;refine tJ (L:=K+1) (hq.up u3) h5 oq oq oq fun k5 A6 l6 c6 u5 h6 hl6=>⟨A6,l6,c6,rfl,?_⟩;have hl6':l6≤K+1:=by
   rw [h6.len];have h7:z.natAbs/d+1≤z.natAbs:=by
    have:=qi z.natAbs d;have h8:=Nat.le_mul_of_pos_left (z.natAbs/d) hd;omega
   have:=aU h7;rw [←hx.lim.len]at this;omega
  rw [hneg];refine cZ h6 oq hl6' fun k7 ds u7 h7=>?_;obtain⟨b7,A8,l8,c8,rfl,h7⟩:=h7.open;refine⟨b7,A8,l8,c8,rfl,fun k8 u8=>C k8 _ ((((u1.trans u3).trans u5).trans u7).trans u8) ?_⟩;rw [zN z hd hz hr0]at h7;exact h7.up u8
 ·have hz:z<0:=ow (hb.symm.trans hneg);have hr0:z.natAbs % d=0:=by
   have:=ov hrem;exact hr.zero_iff.1 oq
  refine cZ hq oq (K:=K+1) oq fun k7 ds u7 h7=>?_;obtain⟨b7,A8,l8,c8,rfl,h7⟩:=h7.open;refine⟨b7,A8,l8,c8,rfl,fun k8 u8=>C k8 _ ((u1.trans u7).trans u8) ?_⟩;rw [hb,qD z hd (.inr hr0)]at h7;exact h7.up u8
 ·have hz:¬ z<0:=ov (hb.symm.trans hneg);refine cZ hq oq (K:=K+1) oq fun k7 ds u7 h7=>?_;obtain⟨b7,A8,l8,c8,rfl,h7⟩:=h7.open;refine⟨b7,A8,l8,c8,rfl,fun k8 u8=>C k8 _ ((u1.trans u7).trans u8) ?_⟩;rw [hb,qD z hd (.inl oq)]at h7;exact h7.up u8
theorem yR {m:Int}(hx:RatV k cs q K) (hK1:1≤K) (hK:K≤100000) (C:∀k' ds,Up k k'→RatV k' ds (gZ q (jQ m)) (K+1001)→R k' (.agg ds)) :
 Cl k 53 #[.agg cs,.int .i64 m] R:=by
 intro k0 u0;replace C:=fun k' ds u=>C k' ds (u0.trans u);obtain⟨b0,A1,l1,c1,A2,l2,c2,rfl,hr,e1,e2⟩:=hx.up u0;have hc:=aGq m;refine aJn ?_;rw [aGp];generalize jQ m=s at hc C;have h1:=hr.num.lim;have hneg:=hr.num.neg;refine eL h1 oq oq fun k1 A4 l4 c4 u1 h4 hl4=>⟨A4,l4,c4,rfl,?_⟩;refine cZ (K:=K+1000) h4 oq oq fun k3 d3 u3 h3=>?_;obtain⟨b5,A6,l6,c6,rfl,h3⟩:=h3.open;refine⟨b5,A6,l6,c6,rfl,?_⟩;refine aO (L:=K) ((hr.den.up u1).up u3) q.den_pos e2 hK1 oq fun k5 A7 l7 c7 u5 h7 hl7=>⟨A7,l7,c7,rfl,?_⟩;refine aLi (h3.up u5) h7 q.den_pos oq oq fun k7 d7 u7 h8=>?_;obtain⟨b8,A9,l9,c9,rfl,h8⟩:=h8.open;refine⟨b8,A9,l9,c9,rfl,?_⟩;refine kN (x:=1) oz fun k9 A10 l10 c10 u9 h10 hl10=>⟨A10,l10,c10,rfl,?_⟩;refine eL (h10) oq oq fun k11 A11 l11 c11 u11 h11 hl11=>⟨A11,l11,c11,rfl,?_⟩;rw [jo]at h11;refine jX ((h8.up u9).up u11) h11 (oi oz) oq oq fun k13 d13 u13 h13=>?_;obtain⟨b12,A13,l13,c13,A14,l14,c14,rfl,h13⟩:=h13.open;refine⟨b12,A13,l13,c13,A14,l14,c14,rfl,fun k14 u14=>?_⟩;have ez:sgn b0 (q.num.natAbs*2^s)=q.num*((2^s:Nat):Int):=by rw [hneg];exact aFx q.num (2^s)
 rw [ez]at h13;exact C k14 _ (((((((u1.trans u3).trans u5).trans u7).trans u9).trans u11).trans u13).trans u14) (h13.up u14)
theorem aPc {m:Int}(hx:RatV k cs q K) (hK1:1≤K) (hK:K≤100000) (C:∀k' ds,Up k k'→RatV k' ds (-gZ (-q) (jQ m)) (K+1001)→R k' (.agg ds)) :
 Cl k 54 #[.agg cs,.int .i64 m] R:=by
 intro k0 u0;refine aOs hx.seg (aJv (hx.up u0) oq fun k1 d1 u1 h1=>⟨d1,h1.seg,rfl,?_⟩);refine yR h1 hK1 hK fun k3 d3 u3 h3=>⟨d3,h3.seg,rfl,?_⟩;exact aJv h3 oq fun k5 d5 u5 h5=>⟨d5,h5.seg,rfl,fun k6 u6=>C k6 _ ((((u0.trans u1).trans u3).trans u5).trans u6) (h5.up u6)⟩
end
open Ieee
namespace FT
theorem eH {m k:Nat}(hm:m≠0):(m*2^k).log2=m.log2+k:=by
 have h1:2^m.log2≤m:=Nat.log2_self_le hm;have h2:m<2^(m.log2+1):=Nat.lt_log2_self;have hne:m*2^k≠0:=jn hm (by have:=od k;omega);apply xw
 ·have:m*2^k<2^(m.log2+k+1):=by
   rw [show m.log2+k+1=(m.log2+1)+k by omega,ot];exact jq h2 (od k)
  have:=(vp hne).2 this;omega
 ·have:2^(m.log2+k)≤m*2^k:=by
   rw [ot];exact om _ h1
  exact (Nat.le_log2 hne).2 this
def half (n G:Nat):Nat:=n/G+(decide (G<2*(n % G)) || (G == 2*(n % G) && n/G % 2 == 1)).toNat
theorem pF (neg:Bool) (n drop:Nat):Toward.even.cut neg n drop=half n (2^min drop (n.log2+2)):=by
 rw [←Nat.one_shiftLeft];rfl
theorem sS {a G:Nat}(hG:0<G):half (a*G) G=a:=by
 unfold half;rw [yl _ hG,Nat.mul_mod_left];have h0:(G == 2*0)=false:=by
  rw [beq_eq_false_iff_ne];omega
 simp [h0]
theorem sT {a G k:Nat}(hk:0<k):half (a*k) (G*k)=half a G:=by
 unfold half;rw [we _ _ hk,yr];generalize a % G=r;generalize a/G=q;have e1:decide (G*k<2*(r*k))=decide (G<2*r):=by
  apply decide_eq_decide.2;rw [←qu];exact Nat.mul_lt_mul_right hk
 have e2:(G*k == 2*(r*k))=(G == 2*r):=by
  rw [←qu]
  by_cases c:G=2*r
  ·rw [c];simp
  ·have:G*k≠2*r*k:=fun h=>c (Nat.eq_of_mul_eq_mul_right hk h);rw [beq_eq_false_iff_ne.2 this,beq_eq_false_iff_ne.2 c]
 rw [e1,e2]
theorem jB (neg:Bool) (n:Nat):Toward.even.cut neg n 0=n:=by
 rw [pF,Nat.zero_min];have:=sS (a:=n) (G:=1) oz
 rwa [jk]at this
theorem aGt (neg:Bool) {m k drop:Nat}(hm:m≠0) (h:drop≤k):Toward.even.cut neg (m*2^k) drop=m*2^(k-drop):=by
 rw [pF,eH (k:=k) hm,Nat.min_eq_left oq];have e:m*2^k=m*2^(k-drop)*2^drop:=by
  rw [qu,←ot,show k-drop+drop=k by omega]
 rw [e];exact sS (od drop)
theorem aGs (neg:Bool) {m k drop:Nat}(hm:m≠0):Toward.even.cut neg (m*2^k) (drop+k)=Toward.even.cut neg m drop:=by
 rw [pF,pF,eH (k:=k) hm,show min (drop+k) (m.log2+k+2)=min drop (m.log2+2)+k by omega,ot];exact sT (od k)
variable {f:Ieee.Format}
def last (f:Ieee.Format) (m:Nat) (p:Int):Int:=max (p+m.log2-f.fractionBits) f.leastPlace
theorem eO {neg:Bool}{m:Nat}{p:Int}(hm:m≠0):f.nearest neg m p =
 f.word neg (min ((last f m p-f.leastPlace).toNat*f.binade+Toward.even.cut neg (m <<< (p-last f m p).toNat) (last f m p-p).toNat) f.infRung):=by
 unfold Format.nearest last;rw [oh hm]
theorem fY {neg:Bool}{m k:Nat}{p:Int}(hm:m≠0):f.nearest neg (m*2^k) (p-k)=f.nearest neg m p:=by
 have hne:m*2^k≠0:=jn hm (by have:=od k;omega);have hl:last f (m*2^k) (p-k)=last f m p:=by
  unfold last;rw [eH hm]
  congr 1
  omega
 rw [eO hne,eO hm,hl];generalize last f m p=q;have e:Toward.even.cut neg ((m*2^k) <<< (p-k-q).toNat) (q-(p-k)).toNat=Toward.even.cut neg (m <<< (p-q).toNat) (q-p).toNat:=by
  rw [vj,vj]
  by_cases c:p<q
  ·rw [show (p-k-q).toNat=0 by omega,show (p-q).toNat=0 by omega,show (q-(p-k)).toNat=(q-p).toNat+k by omega,za,jk,jk];exact aGs neg hm
  ·rw [show (q-p).toNat=0 by omega,jB]
   by_cases d:p-k<q
   ·rw [show (p-k-q).toNat=0 by omega,za,jk,aGt neg hm oq]
    congr 2
    omega
   ·rw [show (q-(p-k)).toNat=0 by omega,jB,qu,←ot]
    congr 2
    omega
 rw [e]
structure Good (f:Ieee.Format):Prop where
 frac:1≤f.fractionBits
 exp:2≤f.exponentBits
theorem bV:Good Ieee.double:=⟨oz,oz⟩
theorem aFz:f.signWeight=2^f.exponentBits*f.binade:=by
 unfold Format.signWeight Format.binade;rw [ot]
theorem mT:0<f.binade:=od _
theorem aLj:f.infRung<f.signWeight:=by
 rw [aFz];unfold Format.infRung;have:=od f.exponentBits;exact jq oq mT
theorem wK {neg:Bool}{r:Nat}(h:r<f.signWeight):f.read (f.word neg r) =
 if r<f.binade then .number neg r f.leastPlace
 else if r<f.infRung then .number neg (f.binade+r % f.binade) (f.leastPlace+(r/f.binade-1:Nat))
 else if r=f.infRung then .infinity neg
 else .nan neg (r-f.infRung):=by
 have e1:(f.word neg r/f.signWeight % 2 == 1)=neg:=by
  unfold Format.word;cases neg
  ·simp [Nat.div_eq_of_lt h]
  ·have:(f.signWeight+r) / f.signWeight=1:=by
    rw [zr,Nat.add_div_right _ oq,qo h]
   simp [this]
 have e2:f.word neg r % f.signWeight=r:=by
  unfold Format.word;cases neg
  ·simp [Nat.mod_eq_of_lt h]
  ·simp [Nat.mod_eq_of_lt h]
 unfold Format.read;simp only [e1,e2]
structure Has (f:Ieee.Format) (m:Nat) (p:Int):Prop where
 ne:m≠0
 bits:m<2^(f.fractionBits+1)
 low:f.leastPlace≤p
 top:p+m.log2-f.fractionBits-f.leastPlace+3≤2^f.exponentBits
theorem Has.last_le {m:Nat}{p:Int}(h:Has f m p):last f m p≤p:=by
 have hl:m.log2<f.fractionBits+1:=(vp h.ne).2 h.bits;have:=h.low;unfold last;omega
theorem Has.read {neg:Bool}{m:Nat}{p:Int}(g:Good f) (h:Has f m p):f.read (f.nearest neg m p)=.number neg (m*2^(p-last f m p).toNat) (last f m p):=by
 have hl:m.log2<f.fractionBits+1:=(vp h.ne).2 h.bits;have hle:=h.last_le;have hlow:f.leastPlace≤last f m p:=Int.le_max_right _ _;have htop:=h.top;rw [eO h.ne,show (last f m p-p).toNat=0 by omega,jB,vj];have hlog:(m*2^(p-last f m p).toNat).log2=m.log2+(p-last f m p).toNat:=eH h.ne;have hne:m*2^(p-last f m p).toNat≠0:=jn h.ne (by have:=od (p-last f m p).toNat;omega);have hcase:(last f m p=f.leastPlace∧p+m.log2-f.fractionBits≤f.leastPlace)∨last f m p=p+m.log2-f.fractionBits:=by
  unfold last;omega
 generalize last f m p=q at *
 generalize m*2^(p-q).toNat=kept at *
 have hk2:kept<2*f.binade:=by
  have:kept<2^(f.fractionBits+1):=(vp hne).1 oq;unfold Format.binade;rw [ql]at this;omega
 have hb:=mT (f:=f);have hE:(4:Nat)≤2^f.exponentBits:=by
  have:=ob (n:=2) oz g.exp;simpa using this
 have hinf:f.infRung=(2^f.exponentBits-1)*f.binade:=rfl;have hd:∃d:Nat,q-f.leastPlace=(d:Int)∧d+3≤2^f.exponentBits:=by
  refine⟨(q-f.leastPlace).toNat,oq,?_⟩;have h4:(4:Int)≤((2^f.exponentBits:Nat):Int):=by exact_mod_cast hE
  have h5:((2^f.exponentBits:Nat):Int)=(2:Int)^f.exponentBits:=by norm_cast
  rcases hcase with ⟨c,_⟩|c <;> omega
 obtain⟨d,hd,hd3⟩:=hd;have hlt:d*f.binade+kept<f.infRung:=by
  rw [hinf];have:(d+2)*f.binade≤(2^f.exponentBits-1)*f.binade:=om _ oq;have e:(d+2)*f.binade=d*f.binade+2*f.binade:=by rw [jf]
  omega
 rw [hd,oa,Nat.min_eq_left oq,wK (xh hlt aLj)];rcases hcase with ⟨c,_⟩|c
 ·obtain rfl:d=0:=oq
  rw [ze,jw]at hlt ⊢
  by_cases a:kept<f.binade
  ·rw [og a,c]
  ·rw [oh a,og hlt,c];have e1:kept/f.binade=1:=by
    rw [Nat.div_eq_iff hb];omega
   have e2:f.binade+kept % f.binade=kept:=by
    have:=qi kept f.binade;rw [e1]at this;omega
   rw [e1,e2];simp
 ·have hk1:f.binade≤kept:=by
   have:2^f.fractionBits≤kept:=(Nat.le_log2 hne).1 oq;exact this
  have hge:f.binade≤d*f.binade+kept:=oq
  have e0:kept/f.binade=1:=by
   rw [Nat.div_eq_iff hb];omega
  have e1:(d*f.binade+kept) / f.binade=d+1:=by
   rw [zr,oc,ju _ _ hb,e0];omega
  have e2:f.binade+(d*f.binade+kept) % f.binade=kept:=by
   rw [zr (d*f.binade),oc d,zp];have:=qi kept f.binade;rw [e0]at this;omega
  rw [oh oq,og hlt,e1,e2]
  congr 1
  omega
theorem pK {s t:Bool}{m n:Nat}{p q:Int}(g:Good f) (h:Has f m p) (h':Has f n q):f.mul (f.nearest s m p) (f.nearest t n q)=some (f.nearest (s ^^ t) (m*n) (p+q)):=by
 unfold Format.mul;rw [h.read g,h'.read g];show some (f.nearest (s ^^ t) _ _)=_;have a:=h.last_le;have b:=h'.last_le;generalize last f m p=i at *
 generalize last f n q=j at *
 have e:m*2^(p-i).toNat*(n*2^(q-j).toNat)=m*n*2^((p-i).toNat+(q-j).toNat):=by
  rw [ot]
  ac_rfl
 rw [e,show i+j=(p+q)-(((p-i).toNat+(q-j).toNat:Nat):Int) by omega,fY (jn h.ne h'.ne)]
theorem aOr {s:Bool}{r:Nat}(h:r<f.signWeight):f.word s r ^^^ 2^(f.exponentBits+f.fractionBits)=f.word (!s) r:=by
 have hr:r ^^^ 2^(f.exponentBits+f.fractionBits)=2^(f.exponentBits+f.fractionBits)+r:=by
  have h:r<2^(f.exponentBits+f.fractionBits):=h;generalize f.exponentBits+f.fractionBits=n at h;apply Nat.eq_of_testBit_eq;intro i;rw [Nat.testBit_xor,Nat.testBit_two_pow]
  by_cases c:n=i
  ·subst c;rw [Nat.testBit_two_pow_add_eq,wj h];simp
  ·by_cases d:i<n
   ·rw [Nat.testBit_two_pow_add_gt d];simp [c]
   ·have h1:2^n+r<2^i:=by
     have:2^(n+1)≤2^i:=ob oz oq;rw [ql]at this;omega
    rw [wj h1,wj oq];simp [c]
 unfold Format.word;cases s
 ·exact hr
 ·show (f.signWeight+r) ^^^ _=r;have e:f.signWeight+r=r ^^^ 2^(f.exponentBits+f.fractionBits):=hr.symm;rw [e,Nat.xor_assoc,Nat.xor_self,Nat.xor_zero]
theorem oE (f:Ieee.Format) (neg:Bool) (m:Nat) (p:Int):∃r,r<f.signWeight∧∀s,f.nearest s m p=f.word s r:=by
 by_cases hm:m=0
 ·exact⟨0,by rw [aFz];exact jy (od _) mT,fun s=>by unfold Format.nearest;rw [og hm]⟩
 ·refine⟨min ((last f m p-f.leastPlace).toNat*f.binade+Toward.even.cut neg (m <<< (p-last f m p).toNat) (last f m p-p).toNat) f.infRung,qr (Nat.min_le_right _ _) aLj,fun s=>?_⟩;rw [eO hm,pF,pF]
theorem aAj {s:Bool}{m:Nat}{p:Int}:f.nearest s m p ^^^ 2^(f.exponentBits+f.fractionBits)=f.nearest (!s) m p:=by
 obtain⟨r,h,e⟩:=oE f s m p;rw [e,e,aOr h]
end FT
namespace FT
theorem sD (w:Nat) (h:w<2^64):(BitVec.ofInt 64 (w:Int)).toNat=w:=by
 rw [BitVec.toNat_ofInt];have:(w:Int) % ((2^64:Nat):Int)=(w:Int):=Int.emod_eq_of_lt oq (by exact_mod_cast h);rw [this,oa]
theorem struck {w:Nat}(h:w<2^64):(BitVec.ofInt 64 (w:Int) &&& ~~~(BitVec.ofInt 64 9218868437227405312)).toNat=w/2^63*2^63+w % 2^52:=by
 have hm:∀i:Fin 64,(BitVec.ofInt 64 9218868437227405312).getLsbD i.val=(decide (52≤i.val) && decide (i.val<63)):=oz
 apply Nat.eq_of_testBit_eq;intro i;rw [←BitVec.getLsbD,BitVec.getLsbD_and,BitVec.getLsbD_not];have hw:(BitVec.ofInt 64 (w:Int)).getLsbD i=w.testBit i:=by rw [BitVec.getLsbD,sD w h]
 have hlt:w % 2^52<2^63:=ol (qd _ oz) oz;rw [hw,oc,Nat.testBit_two_pow_mul_add _ hlt,Nat.testBit_mod_two_pow,Nat.testBit_div_two_pow]
 by_cases c:i<64
 ·rw [hm ⟨i,c⟩]
  by_cases c1:i<52
  ·have c2:i<63:=oq
   have c3:¬ 52≤i:=oq
   simp [c,c1,c2,c3]
  ·by_cases c2:i<63
   ·have c3:52≤i:=oq
    simp [c,c1,c2,c3]
   ·have e:i=63:=oq
    subst e;simp
 ·have hz:w.testBit i=false:=wj (ol h (ob oz oq));have c2:¬ i<63:=oq
  rw [hz,Bool.false_and,oh c2]
  first
   | (rw [show 63+(i-63)=i by omega,hz])
   | (rw [show i-63+63=i by omega,hz])
theorem put {a E c:Nat}(ha:a≤1) (hE:E<2^11) (hc:c<2^52):(BitVec.ofInt 64 ((a*2^63+c:Nat):Int) ||| BitVec.ofInt 64 ((E*2^52:Nat):Int)).toNat=a*2^63+(E*2^52+c):=by
 have h0:c<2^63:=ol hc (ob oz oz);have h1:a*2^63+c<2^64:=by
  have:=Nat.add_lt_add_of_le_of_lt (om (2^63) ha) h0
  rwa [jo,show (2:Nat)^63+2^63=2^64 from rfl]at this
 have h3:E*2^52+c<2^63:=by
  have g1:E*2^52+c<(E+1)*2^52:=by
   rw [jf,jo];exact Nat.add_lt_add_left hc _
  have g2:(E+1)*2^52≤2^11*2^52:=om _ hE;rw [←ot]at g2;exact ol g1 g2
 have h2:E*2^52<2^64:=qr (ww _ c) (xh h3 (vq oz oz));rw [BitVec.toNat_or,sD _ h1,sD _ h2];have e1:a*2^63+c=2^63*a ||| c:=by
  rw [oc];exact xq (ol hc oz) a
 have e2:E*2^52+c=2^52*E ||| c:=by
  rw [oc];exact xq hc E
 have e3:a*2^63+(E*2^52+c)=2^63*a ||| (E*2^52+c):=by
  rw [oc a];exact xq h3 a
 rw [e1,e3,e2,oc E,Nat.or_assoc,Nat.or_comm c]
theorem field {w:Nat}(h:w<2^64):(BitVec.ofInt 64 ((w/2^52:Nat):Int) &&& BitVec.ofInt 64 2047).toNat=w/2^52 % 2048:=by
 rw [BitVec.toNat_and,sD _ (qr (js _ _) h),show (BitVec.ofInt 64 2047).toNat=2^11-1 from by decide,Nat.and_two_pow_sub_one_eq_mod]
theorem qH {s:Bool}{m:Nat}{p:Int}(h:Has double m p) (hn:-1022≤p+m.log2) :
 double.nearest s m p=(if s then 1 else 0)*2^63+((p+m.log2+1023).toNat*2^52+(m*2^(52-m.log2)-2^52))∧2^52≤m*2^(52-m.log2)∧m*2^(52-m.log2)<2^53:=by
 have hl:m.log2<53:=(vp h.ne).2 h.bits;have htop:p+m.log2-52+1074+3≤2048:=h.top;have hlow:(-1074:Int)≤p:=h.low;have elast:last double m p=p+m.log2-52:=by
  unfold last;show max (p+m.log2-((52:Nat):Int)) (-1074)=_;omega
 have hlog:(m*2^(52-m.log2)).log2=52:=by
  rw [eH h.ne];omega
 have hne:m*2^(52-m.log2)≠0:=jn h.ne (by have:=od (52-m.log2);omega);have h1:2^52≤m*2^(52-m.log2):=(Nat.le_log2 hne).1 oq;have h2:m*2^(52-m.log2)<2^53:=(vp hne).1 oq;refine⟨?_,h1,h2⟩;rw [eO h.ne,elast,show (p+m.log2-52-p).toNat=0 by omega,jB,vj,show (p-(p+m.log2-52)).toNat=52-m.log2 by omega];generalize m*2^(52-m.log2)=kept at *
 have eb:double.binade=2^52:=rfl;have ei:double.infRung=2047*2^52:=rfl;have el:double.leastPlace=-1074:=rfl;have es:double.signWeight=2^63:=rfl;rw [eb,ei,el];have e:(p+m.log2-52 - -1074).toNat+1=(p+m.log2+1023).toNat:=oq
 generalize (p+m.log2-52 - -1074).toNat=d at e;rw [←e];have hd:d+1≤2046:=oq
 have hr:d*2^52+kept<2047*2^52:=oq
 rw [Nat.min_eq_left oq];unfold Format.word;rw [es];cases s
 ·show d*2^52+kept=0*2^63+((d+1)*2^52+(kept-2^52));omega
 ·show 2^63+(d*2^52+kept)=1*2^63+((d+1)*2^52+(kept-2^52));omega
end FT
namespace FT
theorem nosign {w:Nat}(h:w<2^64):(BitVec.ofInt 64 (w:Int) &&& ~~~(BitVec.ofInt 64 9223372036854775808)).toNat=w % 2^63:=by
 have hm:∀i:Fin 64,(BitVec.ofInt 64 9223372036854775808).getLsbD i.val=decide (i.val=63):=oz
 apply Nat.eq_of_testBit_eq;intro i;rw [←BitVec.getLsbD,BitVec.getLsbD_and,BitVec.getLsbD_not];have hw:(BitVec.ofInt 64 (w:Int)).getLsbD i=w.testBit i:=by rw [BitVec.getLsbD,sD w h]
 rw [hw,Nat.testBit_mod_two_pow]
 by_cases c:i<64
 ·rw [hm ⟨i,c⟩]
  by_cases c2:i<63
  ·have c3:i≠63:=oq
   simp [c,c2,c3]
  ·have e:i=63:=oq
   subst e;simp
 ·have hz:w.testBit i=false:=wj (ol h (ob oz oq));rw [hz,Bool.false_and,Bool.and_false]
theorem word64 {s:Bool}{r:Nat}(h:r<2^63):double.word s r<2^64∧double.word s r % 2^63=r∧double.word s r/2^63=if s then 1 else 0:=by
 have es:double.signWeight=2^63:=rfl;have hp:(2:Nat)^63+2^63=2^64:=rfl;unfold Format.word;rw [es];cases s
 ·exact⟨ol h (ob oz oz),oo h,qo h⟩
 ·refine⟨by rw [←hp];exact Nat.add_lt_add_left h _,?_,?_⟩
  ·show (2^63+r) % 2^63=r;rw [Nat.add_mod_left,oo h]
  ·show (2^63+r) / 2^63=1;rw [zr,Nat.add_div_right _ (od 63),qo h]
theorem near64 (s:Bool) (m:Nat) (p:Int):double.nearest s m p<2^64∧double.nearest s m p % 2^63=double.nearest false m p:=by
 obtain⟨r,h,e⟩:=oE double s m p;have:=word64 (s:=s) (r:=r) h;rw [e,e];exact⟨this.1,this.2.1⟩
theorem wrap64 {n:Nat}(h:n<2^64):wrap .u64 (n:Int)=(n:Int):=by
 unfold wrap;have e:(IntKind.bits .u64)=64:=rfl;have e2:(IntKind.signed .u64)=false:=rfl;rw [e];have:(n:Int) % 18446744073709551616=(n:Int):=Int.emod_eq_of_lt oq (by have h:n<18446744073709551616:=h;omega);simp [e2,this]
theorem gT {x y:Nat}{s t:Bool}{M N:Nat}{i j:Int}(hx:double.read x=.number s M i) (hy:double.read y=.number t N j) :
 double.order x y=some (compare (signed s M (i-min i j).toNat) (signed t N (j-min i j).toNat)):=by
 unfold Format.order;rw [hx,hy];rfl
end FT
open FT
section
variable {k:World}{R:World→Value→Prop}{s:Bool}{m:Nat}{p:Int}
theorem sL (C:∀k',Up k k'→R k' (.float .f64 (double.nearest false m p))):Cl k 178 #[.float .f64 (double.nearest s m p)] R:=by
 intro k0 u0;obtain⟨h1,h2⟩:=near64 s m p;refine aQp fun k1 u1=>?_;have:=C k1 (u0.trans u1);rw [show IntKind.bits .u64=64 from rfl,nosign h1,h2,wrap64 (near64 false m p).1,oa];exact this
theorem sN (h:Has double m p) (C:∀k',Up k k'→R k' (.bool false)):Cl k 89 #[.float .f64 (double.nearest s m p)] R:=by
 intro k0 u0;refine eR fun k1 u1=>?_;have:=C k1 (u0.trans u1);have hr:=h.read (neg:=s) bV;rw [show FloatKind.format .f64=double from rfl,gT hr hr];have e:∀z:Int,(some (compare z z) != some Ordering.eq)=false:=fun z=>by rw [show compare z z=Ordering.eq from by simp [compare,compareOfLessAndEq]];rfl
 rwa [e]
theorem sM (h:Has double m p) (C:∀k',Up k k'→R k' (.bool false)):Cl k 90 #[.float .f64 (double.nearest s m p),.int .i64 0] R:=by
 intro k0 u0;refine pG ⟨fun _=>sL fun k1 u1=>⟨_,rfl,fun k2 u2=>?_⟩,fun f=>by cases f⟩;have:=C k2 (u0.trans (u1.trans u2));have hr:=h.read (neg:=false) bV;have hl:m.log2<53:=(vp h.ne).2 h.bits;have hle:=h.last_le;have hlog:(m*2^(p-last double m p).toNat).log2=m.log2+(p-last double m p).toNat:=eH h.ne;have hne:m*2^(p-last double m p).toNat≠0:=jn h.ne (by have:=od (p-last double m p).toNat;omega);have h971:last double m p≤971:=by
  have htop:p+m.log2-52+1074+3≤2048:=h.top;unfold last;show max (p+m.log2-((52:Nat):Int)) (-1074)≤971;omega
 have hge:p+m.log2-52≤last double m p:=Int.le_max_left _ _;generalize last double m p=i at *
 have hM:m*2^(p-i).toNat<2^53:=(vp hne).1 oq;generalize m*2^(p-i).toNat=M at *
 have hx:double.read 9218868437227405311=.number false (2^53-1) 971:=by decide +kernel
 rw [show FloatKind.format .f64=double from rfl,gT hr hx];rw [show min i 971=i by omega,show (i-i).toNat=0 by omega];have hc:¬ ((M:Int) > (((2^53-1) <<< (971-i).toNat:Nat):Int)):=by
  rw [vj];have:=zo (2^53-1) (od (971-i).toNat);omega
 have e:(some (compare (signed false M 0) (signed false (2^53-1) (971-i).toNat)) == some Ordering.gt)=false:=by
  unfold signed;simp only [zg,if_false,wn];generalize (((2^53-1) <<< (971-i).toNat:Nat):Int)=z at hc;simp only [compare,compareOfLessAndEq]
  by_cases a:(M:Int)<z
  ·rw [og a];rfl
  ·rw [oh a,og oq];rfl
 rwa [e]
theorem aEy (h:Has double m p) (hn:-1022≤p+m.log2) (C:∀k',Up k k'→R k' (.tuple #[.float .f64 (double.nearest s m p),.int .i64 0])):Cl k 240 #[.float .f64 (double.nearest s m p)] R:=by
 intro k0 u0;refine zQ (sL fun k1 u1=>⟨_,rfl,fun f=>?_,fun _ k3 u3=>C k3 (u0.trans (u1.trans u3))⟩);exfalso;have hr:=h.read (neg:=false) bV;have hl:m.log2<53:=(vp h.ne).2 h.bits;have hle:=h.last_le;have hlow:(-1074:Int)≤last double m p:=Int.le_max_right _ _;have elast:last double m p=p+m.log2-52:=by
  unfold last;show max (p+m.log2-((52:Nat):Int)) (-1074)=_;omega
 have hlog:(m*2^(p-last double m p).toNat).log2=m.log2+(p-last double m p).toNat:=eH h.ne;have hne:m*2^(p-last double m p).toNat≠0:=jn h.ne (by have:=od (p-last double m p).toNat;omega);generalize last double m p=i at *
 have hM:2^52≤m*2^(p-i).toNat:=(Nat.le_log2 hne).1 oq;generalize m*2^(p-i).toNat=M at *
 have hx:double.read 4503599627370496=.number false (2^52) (-1074):=by decide +kernel
 rw [show FloatKind.format .f64=double from rfl,gT hr hx]at f;rw [show min i (-1074)=-1074 by omega,show ((-1074:Int) - -1074).toNat=0 by omega]at f;have hc:¬ ((M <<< (i - -1074).toNat:Nat):Int)<((2^52:Nat):Int):=by
  rw [vj];have:=zo M (od (i - -1074).toNat);omega
 unfold signed at f;simp only [zg,if_false,wn]at f;generalize ((M <<< (i - -1074).toNat:Nat):Int)=z at hc f;generalize ((2^52:Nat):Int)=y at hc f;simp only [compare,compareOfLessAndEq]at f;rw [oh hc]at f;split at f <;> cases f
end
namespace FT
theorem pow52:(2:Int)^(min (Int.toNat 52) (IntKind.bits .u64))=4503599627370496:=oz
theorem aUy {w F:Nat}{e:Int}(hw:w<2^64) (hF:w/2^52 % 2048=F) (he:-100000≤e∧e≤100000) :
 wrap .i64 ((wrap .i64 (e+0))+(wrap .i64 ((wrap .i64 (BitVec.toNat (BitVec.ofInt (IntKind.bits .i64) (wrap .i64 (Int.fdiv ((w:Nat):Int) (2^(min (Int.toNat 52) (IntKind.bits .u64))))) &&& BitVec.ofInt (IntKind.bits .i64) 2047)))-1023)))=e+F-1023:=by
 have hd:w/2^52<4096:=by
  have:w/2^52<2^12:=yj (by rw [←ot];exact hw);exact this
 have e1:Int.fdiv ((w:Nat):Int) 4503599627370496=((w/2^52:Nat):Int):=by
  rw [xz _ oz];rfl
 have e2:wrap .i64 ((w/2^52:Nat):Int)=((w/2^52:Nat):Int):=by
  generalize w/2^52=z at hd;rw [qa];omega
 rw [pow52,e1,e2,show IntKind.bits .i64=64 from rfl,field hw,hF];have hF2:F<2048:=by rw [←hF];exact qd _ oz
 rw [qa,qa,qa,qa];omega
theorem aEq {w a c F:Nat}(hw:w<2^64) (ha:a≤1) (hc:c<2^52) (hF:F<2^11) (h1:w/2^63=a) (h2:w % 2^52=c) :
 Int.toNat (wrap .u64 (BitVec.toNat (BitVec.ofInt (IntKind.bits .u64) (wrap .u64 (BitVec.toNat (BitVec.ofInt (IntKind.bits .u64) ((w:Nat):Int) &&& ~~~(BitVec.ofInt (IntKind.bits .u64) 9218868437227405312)))) ||| BitVec.ofInt (IntKind.bits .u64) (wrap .u64 ((F:Int)*2^(min (Int.toNat 52) (IntKind.bits .u64)))))))=a*2^63+(F*2^52+c):=by
 have h0:c<2^63:=ol hc (ob oz oz);have h3:a*2^63+c<2^64:=by
  have:=Nat.add_lt_add_of_le_of_lt (om (2^63) ha) h0
  rwa [jo,show (2:Nat)^63+2^63=2^64 from rfl]at this
 have h4:F*2^52+c<2^63:=by
  have g1:F*2^52+c<(F+1)*2^52:=by
   rw [jf,jo];exact Nat.add_lt_add_left hc _
  have g2:(F+1)*2^52≤2^11*2^52:=om _ hF;rw [←ot]at g2;exact ol g1 g2
 have h5:F*2^52<2^64:=qr (ww _ c) (xh h4 (vq oz oz));have h6:a*2^63+(F*2^52+c)<2^64:=by
  have:=Nat.add_lt_add_of_le_of_lt (om (2^63) ha) h4
  rwa [jo,show (2:Nat)^63+2^63=2^64 from rfl]at this
 have e1:((F:Int)*2^(min (Int.toNat 52) (IntKind.bits .u64)))=((F*2^52:Nat):Int):=by
  rw [pow52];rfl
 rw [e1,wrap64 h5,show IntKind.bits .u64=64 from rfl,struck hw,h1,h2,wrap64 h3,put ha hF hc,wrap64 h6,oa]
theorem parts {s:Bool}{m:Nat}{p:Int}(h:Has double m p) (hn:-1022≤p+m.log2):∃c,c<2^52∧(∀q,Has double m q→-1022≤q+m.log2→double.nearest s m q=(if s then 1 else 0)*2^63+((q+m.log2+1023).toNat*2^52+c))∧
 double.nearest s m p/2^63=(if s then 1 else 0)∧double.nearest s m p % 2^52=c∧double.nearest s m p/2^52 % 2048=(p+m.log2+1023).toNat∧(p+m.log2+1023).toNat<2^11:=by
 have htop:p+m.log2-52+1074+3≤2048:=h.top;obtain⟨e,h1,h2⟩:=qH (s:=s) h hn;have hc:m*2^(52-m.log2)-2^52<2^52:=by
  rw [show (2:Nat)^53=2^52+2^52 from rfl]at h2;omega
 have hF:(p+m.log2+1023).toNat<2^11:=by
  rw [show (2:Nat)^11=2048 from rfl];omega
 refine⟨_,hc,fun q hq hqn=>(qH (s:=s) hq hqn).1,?_⟩;rw [e];generalize m*2^(52-m.log2)-2^52=c at hc;generalize (p+m.log2+1023).toNat=F at hF;have h4:F*2^52+c<2^63:=by
  have g1:F*2^52+c<(F+1)*2^52:=by
   rw [jf,jo];exact Nat.add_lt_add_left hc _
  have g2:(F+1)*2^52≤2^11*2^52:=om _ hF;rw [←ot]at g2;exact ol g1 g2
 generalize ha:(if s then 1 else 0:Nat)=a;refine⟨?_,?_,?_,hF⟩
 ·rw [zr,Nat.add_mul_div_right _ _ (od 63),qo h4,jw]
 ·rw [show (2:Nat)^63=2^11*2^52 from rfl,←qu,←yu,←jf,zr,wh,oo hc]
 ·rw [show (2:Nat)^63=2^11*2^52 from rfl,←qu,←yu,←jf,zr,Nat.add_mul_div_right _ _ (od 52),qo hc,jw,show (2048:Nat)=2^11 from rfl,zr,wh,oo hF]
theorem aSk {z:Int}(h:-3000≤z∧z≤3000):wrap .i64 z=z:=by
 rw [qa];omega
theorem rT {z:Int}(h:-1023≤z∧z≤3000):wrap .u64 (wrap .i64 (z+1023))=((z+1023).toNat:Int):=by
 have e:z+1023=((z+1023).toNat:Int):=oq
 have e1:wrap .i64 (z+1023)=z+1023:=by
  rw [qa];omega
 rw [e1,e,oa];exact wrap64 (by rw [show (2:Nat)^64=18446744073709551616 from rfl];omega)
theorem Has.one {p:Int}(h1:-1074≤p) (h2:p≤1023):Has double 1 p:=⟨oz,oz,h1,by show p+((1:Nat).log2:Nat)-52 - -1074+3≤2048;rw [show (1:Nat).log2=0 from rfl];omega⟩
end FT
open FT
section
variable {k:World}{R:World→Value→Prop}{s:Bool}{m:Nat}{p e:Int}
theorem aVc (h:Has double m p) (hn:-1022≤p+m.log2) (h':Has double m (p+e)) (he:-100000≤e∧e≤100000) (C:∀k',Up k k'→R k' (.float .f64 (double.nearest s m (p+e)))) :
 Cl k 182 #[.float .f64 (double.nearest s m p),.int .i64 e] R:=by
 intro k0 u0;have hr:=h.read (neg:=s) bV;have hne:m*2^(p-last double m p).toNat≠0:=jn h.ne (by have:=od (p-last double m p).toNat;omega);have h0:double.read 0=.number false 0 (-1074):=by decide +kernel
 obtain⟨c,hc,hall,g1,g2,g3,g4⟩:=parts (s:=s) h hn;have hw:=(near64 s m p).1;have htop:(p+e)+m.log2-52+1074+3≤2048:=h'.top;have hlow:(-1074:Int)≤p+e:=h'.low;refine aEx ⟨fun f=>?_,fun _=>sM h fun k2 u2=>⟨_,rfl,(fun f=>by cases f),fun _=>sN h fun k5 u5=>⟨_,rfl,(fun f=>by cases f),fun _=>aEy h hn fun k8 u8=>⟨_,_,rfl,?_⟩⟩⟩⟩
 ·exfalso;rw [show FloatKind.format .f64=double from rfl,gT hr h0]at f;generalize m*2^(p-last double m p).toNat=M at *
  generalize last double m p=i at *
  have hz:signed s M (i-min i (-1074)).toNat≠0:=by
   unfold signed;rw [vj];have:=jn hne (show 2^(i-min i (-1074)).toNat≠0 by have:=od (i-min i (-1074)).toNat;omega);generalize M*2^(i-min i (-1074)).toNat=z at this;cases s <;> simp <;> omega
  have hz2:signed false 0 (-1074-min i (-1074)).toNat=0:=by unfold signed;simp
  rw [hz2]at f;generalize signed s M (i-min i (-1074)).toNat=z at hz f;simp only [compare,compareOfLessAndEq]at f;rw [oh hz]at f;split at f <;> cases f
 have hput:∀q,Has double m q→-1022≤q+m.log2→Int.toNat (wrap .u64 (BitVec.toNat (BitVec.ofInt (IntKind.bits .u64) (wrap .u64 (BitVec.toNat (BitVec.ofInt (IntKind.bits .u64) ((double.nearest s m p:Nat):Int) &&& ~~~(BitVec.ofInt (IntKind.bits .u64) 9218868437227405312)))) ||| BitVec.ofInt (IntKind.bits .u64) (wrap .u64 (((q+m.log2+1023).toNat:Int)*2^(min (Int.toNat 52) (IntKind.bits .u64)))))))=double.nearest s m q:=fun q hq hqn=>by
  have hF:(q+m.log2+1023).toNat<2^11:=by
   have:q+m.log2-52+1074+3≤2048:=hq.top;rw [show (2:Nat)^11=2048 from rfl];omega
  rw [aEq hw (by cases s <;> decide) hc hF g1 g2,hall q hq hqn]
 rw [aUy hw g3 he];have v8:=u0.trans (u2.trans (u5.trans u8));refine⟨fun f=>?_,fun _=>⟨fun f=>?_,fun _=>⟨fun f=>?_,fun f=>?_⟩⟩⟩
 ·have:=ow f;omega
 ·have:=ow f;omega
 ·have f:=ow f;have hs:Has double m (p+e+53):=⟨h.ne,h.bits,by show (-1074:Int)≤_;omega,by show (p+e+53)+m.log2-52+1074+3≤2048;omega⟩;have e1:e+((p+m.log2+1023).toNat:Nat)-1023+53=(p+e+53)+m.log2:=oq
  rw [e1,aSk (z:=p+e+53+m.log2) oq,rT (z:=p+e+53+m.log2) oq,hput _ hs oq];have hm:Sy.fltR .f64 .mul 4368491638549381120 (double.nearest s m (p+e+53))=some (double.nearest s m (p+e)):=by
   have h1:(4368491638549381120:Nat)=double.nearest false 1 (-53):=by decide +kernel
   have:=pK (s:=false) (t:=s) bV (Has.one (p:=-53) oz oz) hs;rw [jo,Bool.false_xor,show (-53+(p+e+53):Int)=p+e by omega,←h1]at this;exact this
  rw [hm];exact⟨rfl,fun k9 u9=>C k9 (v8.trans u9)⟩
 ·have f:=ov f;have e1:e+((p+m.log2+1023).toNat:Nat)-1023=(p+e)+m.log2:=oq
  rw [e1,rT (z:=p+e+m.log2) oq,hput _ h' oq];have hm:Sy.fltR .f64 .mul 4607182418800017408 (double.nearest s m (p+e))=some (double.nearest s m (p+e)):=by
   have h1:(4607182418800017408:Nat)=double.nearest false 1 0:=by decide +kernel
   have:=pK (s:=false) (t:=s) bV (Has.one (p:=0) oz oz) h';rw [jo,Bool.false_xor,Int.zero_add,←h1]at this;exact this
  rw [hm];exact⟨rfl,fun k9 u9=>C k9 (v8.trans u9)⟩
theorem aCf (h:Has double m p) (hn:-1022≤p+m.log2) (h':Has double m (p+e)) (he:-100000≤e∧e≤100000) (C:∀k',Up k k'→R k' (.float .f64 (double.nearest s m (p+e)))) :
 Cl k 93 #[.float .f64 (double.nearest s m p),.int .i64 e] R:=fun _ u0=>
 aEt (aVc h hn h' he fun _ u1=>⟨_,rfl,fun k2 u2=>C k2 (u0.trans (u1.trans u2))⟩)
end
theorem aBs {m n:Nat}(h:Len B64 m (n+1)):bl m=64*n+bl (wq m n):=by
 have hB:∀j,B64^j=2^(64*j):=fun j=>by rw [eF,←vn]
 have ht:wq m n≠0:=h.top aD oq;have hd:m/B64^n=wq m n:=by
  unfold wq wd;refine (oo ?_).symm;rw [qb (oi aD),oc,←ql];exact h.lt
 have hp:0<B64^n:=oi aD;have e1:=qi m (B64^n);have e2:=qd m hp;rw [hd]at e1
 have hu:bl m≤64*n+bl (wq m n):=dA.2 (by
  have h1:=eC (wq m n);rw [ot,←hB];have:B64^n*(wq m n+1)≤B64^n*2^bl (wq m n):=qk _ h1;rw [zu,jk]at this
  omega)
 have hl:64*n+bl (wq m n)-1<bl m:=by
  refine xu fun hle=>?_;have h1:=dA.1 hle;have h2:=dZ ht;have h3:bl (wq m n)≠0:=fun e=>by have h3:=eC (wq m n);rw [e]at h3;simp at h3;omega
  have e3:64*n+bl (wq m n)-1=64*n+(bl (wq m n)-1):=oq
  rw [e3,ot,←hB]at h1;have:B64^n*2^(bl (wq m n)-1)≤B64^n*wq m n:=qk _ h2;exact absurd h1 (Nat.not_lt.2 (qp this (by generalize B64^n*wq m n=y at e1;generalize m % B64^n=z at e1;omega)))
 omega
section
variable {k:World}{A A':Option Addr}{n n' c c' a b:Nat}{R:World→Value→Prop}
theorem aTd (h:LimR k A n c a) (h':LimR k A' n' c' b) (hn:n≤17179869184) (hn':n'≤17179869184) (C:∀k',Up k k'→R k' (.int .i64 (cX a b))) :
 Cl k 137 #[.slice A n c,.slice A' n' c'] R:=
 after (fun k0 u=>yK fun w hs=>(aEn ((h.up u).sees hs) ((h'.up u).sees hs) hn hn').mono fun e w' ⟨h1,m,h2⟩=>⟨h1,by rw [h2];exact aW (Below.refl _ _) m⟩) fun k' v u e=>e▸C k' u
theorem aQy {y:Nat}(hy:y<18446744073709551616) (C:∀k',Up k k'→R k' (.int .i64 (bl y))) :
 Cl k 235 #[.int .u64 y] R:=
 after (fun k0 u=>yK fun w hs=>(aHi y w hy).mono fun e w' ⟨h1,h2⟩=>⟨h1,by rw [←h2];exact Below.refl _ _⟩) fun k' v u e=>e▸C k' u
theorem uC (h:LimR k A n c a) (hn:n≤100000000) (C:∀k',Up k k'→R k' (.int .i64 (bl a))) :
 Cl k 169 #[.slice A n c] R:=by
 intro k0 u0;replace h:=h.up u0;replace C:=fun k' u=>C k' (u0.trans u);refine aOy ⟨rfl,fun f=>?_,fun f=>⟨rfl,rfl,?_⟩⟩
 ·have f:n=0:=by simpa using f
  have ha:a=0:=by rw [h.zero_iff]at f;exact f
  subst ha;exact C
 have f:n≠0:=by simpa using f
 have hl:=h.len;obtain⟨g,o,rfl,hb,hw⟩:=RW.at_ h.lr (by rw [←h.len];omega);have h0:=hw (n-1) (by rw [←h.len];omega);have e1:wrap .i64 (((n:Nat):Int)-1)=((n-1:Nat):Int):=by rw [qa];omega
 rw [e1];refine⟨⟨g,o,rfl⟩,⟨oq,oq⟩,((wq a (n-1):Nat):Int),⟨rfl,fun j u hu=>?_⟩,aQy (bI _ _) fun k2 u2=>⟨_,rfl,fun k3 u3=>?_⟩⟩
 ·cases j with
  | zero=>
   have e:u=.int .u64 ((wq a (n-1):Nat):Int):=by
    have h1:(#[Value.int .u64 ((wq a (n-1):Nat):Int)]:Array Value)[0]?=some u:=hu;simpa using h1.symm
   subst e;show Sy.cellAt _ _ _=_;unfold Sy.cellAt;have e2:o+(Int.toNat ((n-1:Nat):Int)*1+0+0)=o+(n-1):=by simp
   simp only [e2,h0];rfl
  | succ j=>
   have h1:(#[Value.int .u64 ((wq a (n-1):Nat):Int)]:Array Value)[j+1]?=some u:=hu;simp at h1
 ·have:=C k3 (u2.trans u3);have hw64:bl (wq a (n-1))≤64:=aUt (bI _ _);have hlen:Len B64 a (n-1+1):=by
   rw [show n-1+1=n by omega,h.len];exact bH a
  have e3:wrap .i64 (wrap .i64 (64*((n-1:Nat):Int))+((bl (wq a (n-1)):Nat):Int))=((bl a:Nat):Int):=by
   rw [aBs hlen,qa,qa];omega
  rwa [e3]
def aAv (a b:Nat) (e:Int):Nat:=FT.half (a*2^(-e).toNat) (b*2^e.toNat)
theorem aIq {e:Int}(h:LimR k A n c a) (h':LimR k A' n' c' b) (hb0:0<b) (hn:n≤1000000) (hn':n'≤1000000) (he:-1000000≤e∧e≤1000000)
 (C:∀k' B j d,Up k k'→LimR k' B j d (aAv a b e)→j≤2000002→R k' (.slice B j d)):Cl k 170 #[.slice A n c,.slice A' n' c',.int .i64 e] R:=by
 intro k0 u0;replace h:=h.up u0;replace h':=h'.up u0;replace C:=fun k' B j d u=>C k' B j d (u0.trans u);have e1:(if decide (e<0)=true then 0 else e)=((e.toNat:Nat):Int):=by
  by_cases g:e<0
  ·rw [og (decide_eq_true g)];omega
  ·rw [oh (by simp [g])];omega
 have e2:(if decide (wrap .i64 (0-e)<0)=true then 0 else wrap .i64 (0-e))=(((-e).toNat:Nat):Int):=by
  have ew:wrap .i64 (0-e)=-e:=by rw [qa];omega
  rw [ew]
  by_cases g:-e<0
  ·rw [og (decide_eq_true g)];omega
  ·rw [oh (by simp only [decide_eq_true_eq];exact g)];omega
 unfold aAv FT.half at C;refine aSv ?_;rw [e1,e2];refine eL h' oq oq fun k1 B1 j1 d1 u1 w1 l1=>⟨_,_,_,rfl,?_⟩;refine eL (h.up u1) oq oq fun k3 B3 j3 d3 u3 w3 l3=>⟨_,_,_,rfl,?_⟩;have hpos:0<b*2^e.toNat:=jy hb0 (od _);generalize a*2^(-e).toNat=x at *
 generalize b*2^e.toNat=y at *
 refine dB w3 (w1.up u3) hpos oq oq fun k5 B5 j5 d5 B6 j6 d6 u5 w5 w6 l5 l6=>⟨_,_,_,_,_,_,rfl,?_⟩;refine eL (s:=1) w6 oq oq fun k7 B7 j7 d7 u7 w7 l7=>⟨_,_,_,rfl,?_⟩;refine aTd w7 ((w1.up u3).up (u5.trans u7)) oq oq fun k9 u9=>⟨_,rfl,?_⟩;rw [ym,oc (x % y) 2]at *
 have v9:=u1.trans (u3.trans (u5.trans (u7.trans u9)));have w5':=w5.up (u7.trans u9);refine⟨fun f=>?_,fun f=>⟨fun f2=>?_,fun f2=>?_⟩⟩
 ·have f:=ow f;have hlt:y<2*(x % y):=by
   unfold cX at f;split at f
   ·omega
   ·split at f <;> omega
  refine kN oz fun k11 B11 j11 d11 u11 w11 l11=>⟨_,_,_,rfl,?_⟩;refine tJ (L:=2000001) (w5'.up u11) w11 oq oq oz fun k13 B13 j13 d13 u13 w13 l13=>⟨_,_,_,rfl,fun k14 u14=>C k14 _ _ _ (v9.trans (u11.trans (u13.trans u14))) ?_ oq⟩;have:=w13.up u14
  rwa [show x/y+1=x/y+(decide (y<2*(x % y)) || (y == 2*(x % y) && x/y % 2 == 1)).toNat by rw [decide_eq_true hlt];rfl]at this
 ·have f:=ov f;have f2:cX (2*(x % y)) y=0:=by simpa using f2
  have heq:y=2*(x % y):=by
   unfold cX at f2;split at f2
   ·omega
   ·split at f2
    ·omega
    ·omega
  refine aWw w5' fun k16 u16=>⟨_,rfl,fun f3=>?_,fun f3 k22 u22=>C k22 _ _ _ (v9.trans (u16.trans u22)) ?_ oq⟩
  ·have f3:x/y % 2=1:=by
    have:=eq_of_beq f3;omega
   refine kN oz fun k18 B18 j18 d18 u18 w18 l18=>⟨_,_,_,rfl,?_⟩;refine tJ (L:=2000001) (w5'.up (u16.trans u18)) w18 oq oq oz fun k20 B20 j20 d20 u20 w20 l20=>⟨_,_,_,rfl,fun k21 u21=>C k21 _ _ _ (v9.trans (u16.trans (u18.trans (u20.trans u21)))) ?_ oq⟩;have:=w20.up u21
   rwa [show x/y+1=x/y+(decide (y<2*(x % y)) || (y == 2*(x % y) && x/y % 2 == 1)).toNat by rw [decide_eq_false oq,beq_iff_eq.2 heq,beq_iff_eq.2 f3];rfl]at this
  ·have f3:¬ x/y % 2=1:=fun e=>by rw [e]at f3;cases f3
   have:=w5'.up (u16.trans u22)
   rwa [show x/y=x/y+(decide (y<2*(x % y)) || (y == 2*(x % y) && x/y % 2 == 1)).toNat by rw [decide_eq_false oq,beq_eq_false_iff_ne.2 f3];simp]at this
 ·intro u23;have f:=ov f;have f2:cX (2*(x % y)) y≠0:=by simpa using f2
  have hlt:2*(x % y)<y:=by
   unfold cX at f f2;split at f
   ·assumption
   ·rename_i g1;rw [oh g1]at f2;split at f
    ·rename_i g2;rw [og g2]at f2;exact absurd rfl f2
    ·omega
  intro v23;refine C u23 _ _ _ (v9.trans v23) ?_ oq;have:=w5'.up v23
  rwa [show x/y=x/y+(decide (y<2*(x % y)) || (y == 2*(x % y) && x/y % 2 == 1)).toNat by rw [decide_eq_false oq,beq_eq_false_iff_ne.2 oq];simp]at this
theorem aBc {s:Bool}{m:Nat}{p:Int}{D D':Option Addr}{l l' d d':Nat}(C:∀k',Up k k'→R k' (.float .f64 (double.nearest s m p))) :
 Cl k 171 #[.agg #[.bool s,.slice D l d,.slice D' l' d'],.float .f64 (double.nearest false m p)] R:=by
 intro k0 u0;refine aSx ⟨fun f k1 u1=>?_,fun f k1 u1=>?_⟩
 ·have:=C k1 (u0.trans u1);subst f;have e:Op.negFloat .f64 (double.nearest false m p)=double.nearest true m p:=FT.aAj
  rwa [e]
 ·have:=C k1 (u0.trans u1);subst f;exact this
end
def jC (a d bits:Nat) (least:Int):Int:=max ((bl a:Int)-bl d-bits) least
def nE (a d:Nat) (e:Int):Nat:=(a*2^(-e).toNat) / (d*2^e.toNat)
def pJ (a d bits:Nat) (least:Int):Int:=if bits<bl (nE a d (jC a d bits least)) then jC a d bits least+1 else jC a d bits least
def uP (a d bits:Nat) (least:Int):Nat:=aAv a d (pJ a d bits least)
def qG (s:Bool) (a d bits:Nat) (least beyond:Int):Nat:=
 if a=0 then 0 else if beyond<bl (uP a d bits least)+pJ a d bits least then double.nearest s 1 5000
 else if uP a d bits least=0 then 0 else double.nearest s (uP a d bits least) (pJ a d bits least)
theorem wH {a d bits:Nat}{e:Int}(hd:d≠0) (h:(bl a:Int)-bl d-bits≤e):nE a d e<2^(bits+1):=by
 unfold nE;refine yj ?_;have h1:=eC a;have h2:=dZ hd;have hb:1≤bl d:=by
  rcases jh (bl d) with g|g
  ·have:=eC d;rw [g]at this;omega
  ·exact g
 have g1:a*2^(-e).toNat<2^(bl a+(-e).toNat):=by
  rw [ot];exact jq h1 (od _)
 have g2:2^(bl d-1+e.toNat+(bits+1))≤d*2^e.toNat*2^(bits+1):=by
  rw [ot,ot];exact om _ (om _ h2)
 exact ol g1 (qp (ob oz oq) g2)
theorem aNd {a d:Nat}{e:Int}:nE a d (e+1)=nE a d e/2:=by
 unfold nE
 by_cases c:0≤e
 ·rw [show (-(e+1)).toNat=0 by omega,show (-e).toNat=0 by omega,show (e+1).toNat=e.toNat+1 by omega,jj,ql,qu]
 ·rw [show (e+1).toNat=0 by omega,show e.toNat=0 by omega,show (-e).toNat=(-(e+1)).toNat+1 by omega,jj,ql,za,jk,←qu,we _ _ oz]
theorem nY (x y:Nat):FT.half x y≤x/y+1:=by
 unfold FT.half;have:∀b:Bool,b.toNat≤1:=fun b=>by cases b <;> decide
 exact Nat.add_le_add_left (this _) _
theorem aVl {a d bits:Nat}{least:Int}(hd:d≠0):uP a d bits least≤2^bits:=by
 have hf:(bl a:Int)-bl d-bits≤jC a d bits least:=Int.le_max_left _ _;have hq:=wH hd hf;have key:nE a d (pJ a d bits least)<2^bits:=by
  unfold pJ;split
  ·rw [aNd];rw [ql]at hq;omega
  ·rename_i g;exact dA.1 oq
 have:=nY (a*2^(-(pJ a d bits least)).toNat) (d*2^(pJ a d bits least).toNat);unfold uP aAv;unfold nE at key;omega
theorem two53 {s:Bool}{e:Int}:double.nearest s (2^53) e=double.nearest s 1 (53+e):=by
 have:=FT.fY (f:=double) (neg:=s) (m:=1) (k:=53) (p:=53+e) oz;rw [jo,show (53+e-((53:Nat):Int))=e by omega]at this;exact this
section
variable {k:World}{A D:Option Addr}{n c d e:Nat}{R:World→Value→Prop}{cs:Array Value}{q:Rat}{K:Nat}
theorem aLn {m:Nat}{e:Int}(h0:m≠0) (hm:m≤2^53) (h1:-1074≤e) (h2:(bl m:Int)+e≤1024) (C:∀k',Up k k'→R k' (.float .f64 (double.nearest false m e))) :
 Cl k 93 #[.float .f64 (FloatKind.nearest .f64 (m:Int)),.int .i64 e] R:=by
 have e0:FloatKind.nearest .f64 (m:Int)=double.nearest false m 0:=by
  unfold FloatKind.nearest FloatKind.encode Format.write;simp only [];rw [show decide ((m:Int)<0)=false from decide_eq_false oq,vk];rfl
 have eb:bl m=m.log2+1:=by unfold bl;rw [oh h0]
 rw [e0];rcases zw m (2^53) with g|g
 ·have hl:m.log2<53:=(vp h0).2 g;have a1:FT.Has double m 0:=⟨h0,g,oz,by show (0:Int)+m.log2-52+1074+3≤2048;omega⟩;have a2:FT.Has double m (0+e):=⟨h0,g,by show (-1074:Int)≤_;omega,by show (0+e:Int)+m.log2-52+1074+3≤2048;omega⟩;have:=aCf (k:=k) (R:=R) (s:=false) (e:=e) a1 oq a2 oq;rw [Int.zero_add]at this;exact this C
 ·obtain rfl:m=2^53:=xw hm g;have el:(2^53:Nat).log2=53:=Nat.log2_two_pow;have a1:FT.Has double 1 53:=FT.Has.one oz oz;have a2:FT.Has double 1 (53+e):=FT.Has.one oq (by rw [eb,el]at h2;omega);have h3:(1:Nat).log2=0:=rfl;have:=aCf (k:=k) (R:=R) (s:=false) (e:=e) a1 (by rw [h3];decide) a2 (by rw [eb,el]at h2;omega);rw [two53]at C ⊢;exact this C
theorem vX {s:Bool}{a b bits:Nat}{least beyond:Int}{A4 A5 A6:Option Addr}{l4 l5 l6 c4 c5 c6:Nat}(h:LimR k A4 l4 c4 a) (h':LimR k A6 l6 c6 b) (ha:a≠0) (hb0:0<b) (hn:l4≤100000) (hn':l6≤100000)
 (hbits:bits≤53) (hleast:-1074≤least) (hbey:beyond≤1024) {e:Int}(he:e=pJ a b bits least) (he2:e≤10000000)
 (he3:-1000000≤e∧e≤1000000)
 (C:∀k',Up k k'→R k' (.float .f64 (qG s a b bits least beyond))) :
 (Cl k 170 #[Value.slice A4 l4 c4,Value.slice A6 l6 c6,Value.int .i64 e] fun k31 r30=>∃A14 l14 c14,some (Value.slice A14 l14 c14)=some r30∧
 Cl k31 169 #[Value.slice A14 l14 c14] fun k33 r32=>∃n15,some (Value.int .i64 n15)=some r32∧
 ((decide (((wrap .i64 (n15+e)):Int) > beyond))=true→
 (Cl k33 63 #[Value.int .i64 1] fun k35 r34=>∃n16:Nat,some (Value.float .f64 n16)=some r34∧
 Cl k35 171 #[Value.agg #[Value.bool s,Value.slice A4 l4 c4,Value.slice A5 l5 c5],Value.float .f64 n16] fun k37 r36=>∃n17:Nat,some (Value.float .f64 n17)=some r36∧
 ∀k38,Up k37 k38→R k38 (Value.float .f64 n17)))∧
 ((decide (((wrap .i64 (n15+e)):Int) > beyond))=false→
 (true=true∧(((((l14:Nat):Int) == 0)=true→
 (∀k39,Up k33 k39→R k39 (Value.float .f64 0)))∧
 ((((l14:Nat):Int) == 0)=false→
 ((∃b o,A14=some ⟨b,o,none⟩)∧((0:Int)≤0∧(0:Int)<(l14:Nat))∧
 ∃n16,Sy.ReadAt k33.cell? A14 (Int.toNat 0*1+0) 1 (Value.int .u64 n16)∧
 Cl k33 93 #[Value.float .f64 (FloatKind.nearest .f64 n16),Value.int .i64 e] fun k41 r40=>∃n17:Nat,some (Value.float .f64 n17)=some r40∧
 Cl k41 171 #[Value.agg #[Value.bool s,Value.slice A4 l4 c4,Value.slice A5 l5 c5],Value.float .f64 n17] fun k43 r42=>∃n18:Nat,some (Value.float .f64 n18)=some r42∧
 ∀k44,Up k43 k44→R k44 (Value.float .f64 n18))))))):=by
  intro k30 u30;have hlow:-1074≤e:=by
   have h1:least≤jC a b bits least:=Int.le_max_right _ _;rw [he];unfold pJ;split <;> omega
  have hm:=aVl (a:=a) (bits:=bits) (least:=least) (show b≠0 by omega);have hm53:uP a b bits least≤2^53:=qp hm (ob oz hbits);unfold qG at C;rw [oh ha,←he]at C;have em:aAv a b e=uP a b bits least:=by rw [he];rfl
  refine aIq (h.up u30) (h'.up u30) hb0 oq oq he3 (fun k31 B j d u31 w31 l31=>⟨_,_,_,rfl,?_⟩) k30 (Up.refl _);rw [em]at w31;generalize uP a b bits least=m at *
  have hbl:bl m≤54:=dA.2 (qr hm53 (vq oz oz));refine uC w31 oq fun k33 u33=>⟨_,rfl,fun f=>?_,fun f=>⟨rfl,fun f2 k39 u39=>?_,fun f2=>?_⟩⟩
  all_goals have ew:wrap .i64 ((bl m:Nat)+e)=(bl m:Nat)+e:=by rw [qa];omega
  all_goals rw [ew]at f
  ·have f:=ow f;rw [og oq]at C;refine fun k34 u34=>xG ⟨fun _ k35 u35=>⟨_,rfl,?_⟩,fun g=>absurd g oz⟩;have e1:(9218868437227405312:Nat)=double.nearest false 1 5000:=by decide +kernel
   rw [e1];exact aBc fun k37 u37=>⟨_,rfl,fun k38 u38=>C k38 (u30.trans (u31.trans (u33.trans (u34.trans (u35.trans (u37.trans u38))))))⟩
  ·have f:=ov f;have f2:j=0:=by simpa using f2
   have hm0:m=0:=by rw [w31.zero_iff]at f2;exact f2
   rw [oh oq,og hm0]at C;exact C k39 (u30.trans (u31.trans (u33.trans u39)))
  ·have f:=ov f;have f2:j≠0:=by simpa using f2
   have hm0:m≠0:=fun e=>f2 (by rw [w31.zero_iff];exact e);rw [oh oq,oh hm0]at C;have w33:=w31.up u33;obtain⟨g,o,rfl,hb,hw⟩:=RW.at_ w33.lr (by rw [←w33.len];omega);have h0:=hw 0 (by rw [←w33.len];omega);have hwq:wq m 0=m:=by
    unfold wq wd;rw [za,wk];exact oo (qr hm53 oz)
   rw [hwq]at h0;refine⟨⟨g,o,rfl⟩,⟨oz,oq⟩,(m:Int),⟨rfl,fun i u hu=>?_⟩,?_⟩
   ·cases i with
    | zero=>
     have e:u=.int .u64 (m:Int):=by
      have h1:(#[Value.int .u64 (m:Int)]:Array Value)[0]?=some u:=hu;simpa using h1.symm
     subst e;show Sy.cellAt _ _ _=_;unfold Sy.cellAt;have e2:o+(Int.toNat 0*1+0+0)=o+0:=by simp
     simp only [e2,h0];rfl
    | succ i=>
     have h1:(#[Value.int .u64 (m:Int)]:Array Value)[i+1]?=some u:=hu;simp at h1
   ·refine aLn hm0 hm53 hlow oq fun k41 u41=>⟨_,rfl,?_⟩;exact aBc fun k43 u43=>⟨_,rfl,fun k44 u44=>C k44 (u30.trans (u31.trans (u33.trans (u41.trans (u43.trans u44)))))⟩
theorem yQ {bits:Nat}{least beyond:Int}(h:RatV k cs q K) (hK:K≤10000) (hbits:bits≤53) (hleast:-1074≤least) (hl0:least≤1000) (hbey:beyond≤1024)
 (C:∀k',Up k k'→R k' (.float .f64 (qG (decide (q.num<0)) q.num.natAbs q.den bits least beyond))) :
 Cl k 86 #[.agg #[.int .i64 bits,.int .i64 least,.int .i64 beyond],.agg cs] R:=by
 intro k0 u0;replace h:=h.up u0;replace C:=fun k' u=>C k' (u0.trans u);obtain⟨g,A,n,c,D,d,e,rfl,hr,hn,hd⟩:=h;have hnum:=hr.num.lim;have hneg:=hr.num.neg;rw [←hneg]at C;refine aOw (aO (L:=10000) hr.den q.den_pos oq oz oz fun k1 B j d1 u1 w1 l1=>⟨_,_,_,rfl,rfl,fun f k2 u2=>?_,fun f=>?_⟩)
 ·have f:n=0:=by simpa using f
  have ha:q.num.natAbs=0:=by rw [hnum.zero_iff]at f;exact f
  have:=C k2 (u1.trans u2);unfold qG at this
  rwa [og ha]at this
 have f:n≠0:=by simpa using f
 have ha:q.num.natAbs≠0:=fun e=>f (by rw [hnum.zero_iff];exact e);have hd0:q.den≠0:=q.den_nz;generalize q.num.natAbs=a at *
 generalize q.den=b at *
 have ba:∀Z,n≤Z→bl a≤64*Z:=fun Z hz=>dA.2 (by
  have:=(bH a).lt;rw [eF,←vn]at this;refine ol this (ob oz (qk _ ?_));rw [←hnum.len]
  exact hz)
 replace ba:=ba 10000 oq
 have bb:∀Z,j≤Z→bl b≤64*Z:=fun Z hz=>dA.2 (by
  have:=(bH b).lt;rw [eF,←vn]at this;refine ol this (ob oz (qk _ ?_));rw [←w1.len]
  exact hz)
 replace bb:=bb 10000 oq;refine uC (hnum.up u1) oq fun k4 u4=>⟨_,rfl,?_⟩;refine uC (w1.up u4) oq fun k6 u6=>⟨_,rfl,?_⟩;have eE:(if (decide (((wrap .i64 ((wrap .i64 (((bl a:Nat):Int)-((bl b:Nat):Int)))-(bits:Int))):Int)<least))=true then least else (wrap .i64 ((wrap .i64 (((bl a:Nat):Int)-((bl b:Nat):Int)))-(bits:Int))))=jC a b bits least:=by
  have e1:wrap .i64 ((wrap .i64 (((bl a:Nat):Int)-((bl b:Nat):Int)))-(bits:Int))=(bl a:Int)-bl b-bits:=by
   rw [qa,qa];omega
  rw [e1];unfold jC;split
  ·rename_i g;have:=ow g;omega
  ·rename_i g;have:¬ ((bl a:Int)-bl b-bits<least):=fun h=>g (decide_eq_true h);omega
 try dsimp only
 rw [eE];have hE:-1074≤jC a b bits least∧jC a b bits least≤640000:=by
  unfold jC;omega
 have hlst:pJ a b bits least=if bits<bl (nE a b (jC a b bits least)) then jC a b bits least+1 else jC a b bits least:=rfl;have hquo:nE a b (jC a b bits least)=(a*2^(-jC a b bits least).toNat) / (b*2^(jC a b bits least).toNat):=rfl;generalize jC a b bits least=E at *
 have e1:(if decide (E<0)=true then 0 else E)=((E.toNat:Nat):Int):=by
  by_cases g:E<0
  ·rw [og (decide_eq_true g)];omega
  ·rw [oh (by simp [g])];omega
 have e2:(if decide (wrap .i64 (0-E)<0)=true then 0 else wrap .i64 (0-E))=(((-E).toNat:Nat):Int):=by
  have ew:wrap .i64 (0-E)=-E:=by rw [qa];omega
  rw [ew]
  by_cases g:-E<0
  ·rw [og (decide_eq_true g)];omega
  ·rw [oh (by simp only [decide_eq_true_eq];exact g)];omega
 have e3:wrap .i64 (E+1)=E+1:=by rw [qa];omega
 rw [e1,e2,e3];have v6:=u1.trans (u4.trans u6);refine eL (hnum.up v6) oq oq fun k8 B8 j8 d8 u8 w8 l8=>⟨_,_,_,rfl,?_⟩;refine eL ((w1.up (u4.trans u6)).up u8) oq oq fun k10 B10 j10 d10 u10 w10 l10=>⟨_,_,_,rfl,?_⟩;refine dB (w8.up u10) w10 (jy oq (od _)) oq oq fun k12 B12 j12 d12 B13 j13 d13 u12 w12 w13 l12 l13=>⟨_,_,_,_,_,_,rfl,?_⟩;rw [←hquo]at w12;have v12:=v6.trans (u8.trans (u10.trans u12));refine uC w12 oq fun k14 u14=>⟨_,rfl,fun f=>?_,fun f=>?_⟩
 ·have f:=ow f;rw [og oq]at hlst;exact vX ((hnum.up v12).up u14) (w1.up (u4.trans (u6.trans (u8.trans (u10.trans (u12.trans u14)))))) ha oq oq oq hbits hleast hbey hlst.symm oq oq fun k' u=>C k' (v12.trans (u14.trans u))
 ·have f:=ov f;rw [oh oq]at hlst;exact vX ((hnum.up v12).up u14) (w1.up (u4.trans (u6.trans (u8.trans (u10.trans (u12.trans u14)))))) ha oq oq oq hbits hleast hbey hlst.symm oq oq fun k' u=>C k' (v12.trans (u14.trans u))
end
def below2 (a d:Nat) (e:Int):Prop:=a*2^(-e).toNat<d*2^e.toNat
instance (a d:Nat) (e:Int):Decidable (below2 a d e):=by unfold below2;exact inferInstance
theorem aBr {a d:Nat}{e:Int}(h:below2 a d e) (_hd:d≠0):below2 a d (e+1):=by
 unfold below2 at *
 by_cases c:0≤e
 ·rw [show (-(e+1)).toNat=0 by omega,show (e+1).toNat=e.toNat+1 by omega,ql,←qu];rw [show (-e).toNat=0 by omega]at h;omega
 ·rw [show (e+1).toNat=0 by omega];rw [show e.toNat=0 by omega,show (-e).toNat=(-(e+1)).toNat+1 by omega,ql,←qu]at h;omega
theorem uV {a d:Nat}{e:Int}(hd:d≠0) (h:below2 a d e):∀n:Nat,below2 a d (e+n)
 | 0=>by simpa using h
 | n+1=>by
  have:=aBr (uV hd h n) hd
  rwa [show e+(n:Int)+1=e+((n+1:Nat):Int) by omega]at this
theorem kT {a d:Nat}{e f:Int}(hd:d≠0) (h:below2 a d e) (hf:e≤f):below2 a d f:=by
 have:=uV hd h (f-e).toNat
 rwa [show e+((f-e).toNat:Int)=f by omega]at this
theorem mB {a d bits:Nat}{f:Int}(hd:d≠0):bl (nE a d f)≤bits↔below2 a d (f+bits):=by
 rw [dA];unfold nE below2;rw [qb (jy oq (od _))]
 by_cases c:0≤f
 ·rw [show (-f).toNat=0 by omega,show (-(f+bits)).toNat=0 by omega,show (f+bits).toNat=f.toNat+bits by omega,ot];rw [show 2^bits*(d*2^f.toNat)=d*(2^f.toNat*2^bits) by ac_rfl]
 ·rw [show f.toNat=0 by omega,za,jk]
  by_cases g:0≤f+bits
  ·rw [show (-(f+bits)).toNat=0 by omega,za,jk];have e:2^bits*d=d*2^(f+bits).toNat*2^(-f).toNat:=by
    rw [qu,←ot,show (f+bits).toNat+(-f).toNat=bits by omega,oc]
   rw [e];exact Nat.mul_lt_mul_right (od _)
  ·rw [show (f+bits).toNat=0 by omega,za,jk];have e:a*2^(-f).toNat=a*2^(-(f+bits)).toNat*2^bits:=by
    rw [qu,←ot,show (-(f+bits)).toNat+bits=(-f).toNat by omega]
   rw [e,oc (2^bits) d];exact Nat.mul_lt_mul_right (od _)
theorem sA {a d:Nat}(hd:d≠0):below2 a d ((bl a:Int)-bl d+1):=by
 have:=(mB (a:=a) (bits:=1) (f:=(bl a:Int)-bl d) hd).1 (dA.2 (wH (bits:=0) hd oq));exact this
theorem aVk {a d bits:Nat}{least:Int}(hd:d≠0):pJ a d bits least=max ((if below2 a d ((bl a:Int)-bl d) then (bl a:Int)-bl d-1 else (bl a:Int)-bl d)-bits+1) least:=by
 have hn:=sA (a:=a) hd;unfold pJ;have hq:=mB (a:=a) (bits:=bits) (f:=jC a d bits least) hd;have hf:jC a d bits least=max ((bl a:Int)-bl d-bits) least:=rfl;generalize jC a d bits least=f at *
 generalize (bl a:Int)-bl d=e0 at *
 by_cases c:below2 a d e0
 ·rw [og c];have:below2 a d (f+bits):=kT hd c oq;have:=hq.2 this;rw [oh oq];omega
 ·rw [oh c]
  by_cases g:least≤e0-bits
  ·have hfe:f=e0-bits:=oq
   have:¬ below2 a d (f+bits):=by rw [hfe,show e0-(bits:Int)+bits=e0 by omega];exact c
   have:¬ bl (nE a d f)≤bits:=fun h=>this (hq.1 h);rw [og oq];omega
  ·have:below2 a d (f+bits):=kT hd hn oq;have:=hq.2 this;rw [oh oq];omega
def aBf (a d:Nat):Int:=if below2 a d ((bl a:Int)-bl d) then (bl a:Int)-bl d-1 else (bl a:Int)-bl d
theorem aIa {a d:Nat}(ha:a≠0) (_hd:d≠0):¬ below2 a d (aBf a d):=by
 unfold aBf;split
 ·have hba:1≤bl a:=by unfold bl;rw [oh ha];omega
  have h1:=dZ ha;have h2:=eC d;unfold below2;generalize he:(bl a:Int)-bl d-1=e;have g1:2^(bl a-1+(-e).toNat)≤a*2^(-e).toNat:=by
   rw [ot];exact om _ h1
  have g2:d*2^e.toNat<2^(bl d+e.toNat):=by
   rw [ot];exact jq h2 (od _)
  have g3:bl d+e.toNat=bl a-1+(-e).toNat:=oq
  rw [g3]at g2;omega
 ·assumption
theorem xL (x y:Nat):x/y≤FT.half x y:=by unfold FT.half;exact ww _ _
namespace FT
theorem aXr (k:FloatKind) (x:Nat):FloatKind.decode k x=k.format.read x:=rfl
end FT
open FT
theorem zZ {m:Nat}{e:Int}(h0:m≠0) (hm:m<2^53) (h1:-1074≤e) (h2:(bl m:Int)+e≤1024):Has double m e:=by
 have eb:bl m=m.log2+1:=by unfold bl;rw [oh h0]
 exact⟨h0,hm,h1,by show e+m.log2-52+1074+3≤2048;omega⟩
section
variable {k:World}{R:World→Value→Prop}{cs:Array Value}{q:Rat}{K:Nat}
end
open Value (agg slice int bool tuple)
open Sy (Up Sees CallsG Seg execFn_use)
set_option maxRecDepth 100000
variable {k:World}{R:World→Value→Prop}{cs0 cs1:Array Value}
theorem aVr (hcs0:Seg 3 cs0) (hcs1:Seg 3 cs1)
 (h:Cl k 168 #[agg cs0,agg cs1] fun k1 r0=>∃cs2,Seg 3 cs2∧∃n3,some (tuple #[agg cs2,int .i64 n3])=some r0∧
 Rt R k1 (agg cs2)) :
  CallsG Tryz.prog 83 #[agg cs0,agg cs1] k R:=
  qX { opq:=[34] } [.agg [.seg 0 3],.agg [.seg 1 3]] [agg cs0,agg cs1] [.seg 3,.seg 3] ⟨⟨cs0,rfl,hcs0⟩,⟨cs1,rfl,hcs1⟩,trivial⟩ h
end Go.Proofs.YtjgnlflbgmnfaaaGreat

namespace Go.Proofs.YtjgnlflbgmnfaaaGreat.W32
open Go.RowKit Num
open Sy (Up Sees CallsG Seg)
section
variable {k k':World}{cs cs':Array Value}{R:World→Value→Prop}{x y q q':Rat}{K L:Nat}{b:Bool}{A A':Option Addr}{l c l' c':Nat}
theorem aXq (hx:QV k cs x K) (hy:QV k cs' y L) (hK1:1≤K) (hL1:1≤L) (hK:K+L≤10000000000) (C:∀k' ds,Up k k'→QV k' ds (x/y) (K+L)→R k' (.agg ds)) :
 Cl k 83 #[.agg cs,.agg cs'] R:=
 fun _ u0=>aVr hx.seg hy.seg (aXc (hx.up u0) (hy.up u0) hK1 hL1 hK fun _k1 ds u1 hD=>⟨ds,hD.seg,_,rfl,fun k2 u2=>C k2 ds ((u0.trans u1).trans u2) (hD.up u2)⟩)
end
end Go.Proofs.YtjgnlflbgmnfaaaGreat.W32

namespace Go.Proofs.YtjgnlflbgmnfaaaGreat
open Go.RowKit
open Value (agg slice int bool tuple)
open Sy (Up Sees CallsG Seg execFn_use)
set_option maxRecDepth 100000
variable {k:World}{R:World→Value→Prop}{n0 n1:Int}
theorem aWs 
 (h:Br ((n1:Int) == 0) (Cl k 27 #[int .i64 n0] fun k1 r0=>Gt 3 r0 fun cs2=>
 Rt R k1 (agg cs2)) (Cl k 133 #[int .i64 n0,int .i64 n1] fun k4 r3=>∃cs2,Seg 3 cs2∧∃n3,some (tuple #[agg cs2,int .i64 n3])=some r3∧
 Rt R k4 (agg cs2))) :
  CallsG Tryz.prog 52 #[agg #[int .i64 n0,int .i64 n1]] k R:=
  qY { opq:=[31] } h
end Go.Proofs.YtjgnlflbgmnfaaaGreat

namespace Go.Proofs.YtjgnlflbgmnfaaaGreat
open Go.RowKit Num W32
open Sy (Up Sees CallsG)
section
variable {k k':World}{R:World→Value→Prop}{x y q:Rat}{K L:Nat}{cs cs':Array Value}{g:Bool}{A A':Option Addr}{l c l' c':Nat}
theorem aGh {n d:Int}(hn:In64 n) (hd:In64 d) (C:∀k' ds,Up k k'→RatV k' ds (ofQ n d) 1→R k' (.agg ds)):Cl k 52 #[.agg #[.int .i64 n,.int .i64 d]] R:=by
 intro k0 u0;refine aWs ⟨fun hb=>?_,fun hb=>?_⟩
 ·have e:d=0:=eq_of_beq hb;refine wV hn.1 hn.2 ?_;intro k1 c1 u1 h1;refine⟨c1,h1.seg,rfl,?_⟩;intro k2 u2;refine C k2 c1 (u0.trans (u1.trans u2)) ?_;unfold ofQ;rw [og e];exact h1.up u2
 ·have e:¬ d=0:=by simpa using hb
  refine aTp hn.1 hn.2 hd.1 hd.2 ?_;intro k1 c1 u1 h1;refine⟨c1,h1.seg,_,rfl,?_⟩;intro k2 u2;refine C k2 c1 (u0.trans (u1.trans u2)) ?_;unfold ofQ;rw [oh e];exact h1.up u2
end
end Go.Proofs.YtjgnlflbgmnfaaaGreat

namespace Go.Proofs.YtjgnlflbgmnfaaaGreat.W32
open Go.RowKit Num
open Sy (Up Sees CallsG Seg)
def p2 (e:Int):Rat:=if e<0 then 1/((2^(-e).toNat:Nat):Rat) else (((2^e.toNat:Nat):Int):Rat)
section
variable {k:World}{R:World→Value→Prop}{K:Nat}
end
end Go.Proofs.YtjgnlflbgmnfaaaGreat.W32

namespace Go.Proofs.YtjgnlflbgmnfaaaGreat
open Num W32
end Go.Proofs.YtjgnlflbgmnfaaaGreat

namespace Go.Proofs.YtjgnlflbgmnfaaaGreat.W32
open Go.RowKit Num Ieee FT
open Sy (Up Sees CallsG Seg)
section
variable {k:World}{R:World→Value→Prop}{K:Nat}
end
section
variable {k:World}{R:World→Value→Prop}{s:Bool}{m:Nat}{p e:Int}
end
open Sy (Up Sees CallsG cellAt ReadAt ReadIn RowAt RowC sizeOk)
section
variable {k k':World}{A A':Option Addr}{n c m n' c' m' a b l l':Nat}{R:World→Value→Prop}{x q:Rat}{g:Bool}
end
section
variable {k:World}{R:World→Value→Prop}{s:Bool}{e:Int}{K:Nat}
end
end Go.Proofs.YtjgnlflbgmnfaaaGreat.W32

namespace Go.Proofs.YtjgnlflbgmnfaaaGreat
open Num W32
end Go.Proofs.YtjgnlflbgmnfaaaGreat

namespace Go.Proofs.YtjgnlflbgmnfaaaGreat.W32
open Go.RowKit Num Ieee FT
open Sy (Up Sees CallsG Seg)
section
variable {k:World}{R:World→Value→Prop}{cs:Array Value}{q:Rat}{K:Nat}{s:Bool}{sw:Nat}
end
end Go.Proofs.YtjgnlflbgmnfaaaGreat.W32

namespace Go.Proofs.YtjgnlflbgmnfaaaGreat
open Go.RowKit Num W32
open Sy (Up Sees CallsG Seg)
section
variable {k k':World}{cs cs':Array Value}{R:World→Value→Prop}{x y q:Rat}{K L:Nat}
theorem RatV.fit (h:RatV k cs q K) (h1:q.num.natAbs<B64^L) (h2:q.den<B64^L):RatV k cs q L:=by
 obtain⟨b,A,n,c,D,d,e,rfl,hr,e1,e2⟩:=h;refine⟨b,A,n,c,D,d,e,rfl,hr,?_,?_⟩
 ·rw [hr.num.lim.len];exact aI h1
 ·rw [hr.den.len];split
  ·rw [nw_zero];exact zx _
  ·exact aI h2
def Pw (q:Rat) (j:Nat):Prop:=q.num.natAbs≤2^j∧q.den≤2^j
theorem Pw.half {j:Nat}(h:Pw q j):Pw (q/((2:Int):Rat)) (j+1):=by
 obtain⟨h1,h2⟩:=h;obtain⟨g1,g2⟩:=zX q;have e:q/((2:Int):Rat)=q/2:=rfl;rw [e];unfold Pw;rw [ql];omega
theorem tC {n d:Int}(hn:In64 n) (hd:In64 d):Pw (ofQ n d) 63:=by
 unfold In64 at hn hd;unfold Pw ofQ;have e:(2:Nat)^63=9223372036854775808:=rfl;rw [e]
 by_cases h:d=0
 ·rw [og h,yq,Rat.den_intCast];omega
 ·rw [oh h,←lE n d h,fP _ oq,iC _ oq,mG];have h1:=js n.natAbs (Nat.gcd n.natAbs d.natAbs);have h2:=js d.natAbs (Nat.gcd n.natAbs d.natAbs);omega
theorem aRw {j n:Nat}(h:j<64*n):2^j<B64^n:=by
 rw [eF,←vn];exact vq oz h
theorem aRv {j n:Nat}(h:j<32*n):2^j<W32.B^n:=by
 rw [W32.uL,←vn];exact vq oz h
theorem Pw.fit64 {j:Nat}(hq:Pw q j) (hj:j≤2463) (h:RatV k cs q K):RatV k cs q 39:=
 have hp:2^j<B64^39:=aRw oq
 h.fit (qr hq.1 hp) (qr hq.2 hp)
theorem Pw.fit32 {j:Nat}(hq:Pw q j) (hj:j≤2463) (h:QV k cs q K):QV k cs q 77:=by
 have hp:2^j<W32.B^77:=aRv oq;obtain⟨b,A,l,c,A',l',c',rfl,hr,e1,e2⟩:=h;refine⟨b,A,l,c,A',l',c',rfl,hr,?_,?_⟩
 ·rw [hr.n.2];exact W32.aI (qr hq.1 hp)
 ·rw [hr.d.2];exact W32.aI (qr hq.2 hp)
end
