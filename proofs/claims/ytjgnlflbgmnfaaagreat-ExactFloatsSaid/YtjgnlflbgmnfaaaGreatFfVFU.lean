/- Several texts in one. (Printed by prep.py.) -/
import Derived.Test.YtjgnlflbgmnfaaaGreatFfVS
namespace Go.Proofs.YtjgnlflbgmnfaaaGreat
open IntKind (wrap)
open Go.RowKit
open Value (agg slice int bool tuple)
open Sy (Up Sees CallsG Seg execFn_use)
set_option maxRecDepth 100000
variable {k:World}{R:World→Value→Prop}{A0 A1 A2 A4 A5:Option Addr}{c0 c1 c2 c4 c5 l0 l1 l2 l4 l5:Nat}{n0 n1 n2:Int}{b0 b3:Bool}
theorem aKt 
 (h:Tt∧(Br (((l0:Nat):Int) == 0) (Rt R k (int .i64 0)) (Tt∧(Tt∧(Ad A0∧((0:Int)≤(wrap .i64 ((l0:Nat)-1))∧((wrap .i64 ((l0:Nat)-1)):Int)<(l0:Nat))∧
 ∃n1,Sy.ReadAt k.cell? A0 (Int.toNat (wrap .i64 ((l0:Nat)-1))*1+0) 1 (int .u64 n1)∧
 Cl k 235 #[int .u64 n1] fun k2 r1=>Gi r1 fun n2=>
 Rt R k2 (int .i64 (wrap .i64 ((wrap .i64 (64*(wrap .i64 ((l0:Nat)-1))))+n2)))))))) :
  CallsG Tryz.prog 169 #[slice A0 l0 c0] k R:=
  qY { opq:=[] } h
theorem aLy {n0:Nat}
 (h:Rt R k (Value.float .f64 (Int.toNat (wrap .u64 (BitVec.toNat (BitVec.ofInt (IntKind.bits .u64) ((n0:Nat):Int) &&& ~~~(BitVec.ofInt (IntKind.bits .u64) 9223372036854775808))))))) :
 CallsG Tryz.prog 178 #[Value.float .f64 n0] k R:=
 qX { opq:=[] } [.one (.var 0)] [Value.float .f64 n0] [.flt .f64] ⟨⟨_,rfl⟩,trivial⟩ h
theorem oF {n0:Nat} 
 (h:Br ((n1:Int) == 0) (Cl k 178 #[Value.float .f64 n0] fun k1 r0=>∃n2:Nat,some (Value.float .f64 n2)=some r0∧
 Rt R k1 (bool (Ieee.Format.order (FloatKind.format .f64) n2 9218868437227405311 == some Ordering.gt))) (Br (decide ((n1:Int)<0)) (Rt R k (bool (Ieee.Format.order (FloatKind.format .f64) (Op.negFloat .f64 n0) 9218868437227405311 == some Ordering.gt))) (Rt R k (bool (Ieee.Format.order (FloatKind.format .f64) n0 9218868437227405311 == some Ordering.gt))))) :
  CallsG Tryz.prog 90 #[Value.float .f64 n0,int .i64 n1] k R:=
  qX { opq:=[] } [.one (.var 0),.one (.var 1)] [Value.float .f64 n0,int .i64 n1] [.flt .f64,.int .i64] ⟨⟨_,rfl⟩,⟨_,rfl⟩,trivial⟩ h
theorem kN {n0:Nat}
 (h:Rt R k (bool (Ieee.Format.order (FloatKind.format .f64) n0 n0 != some Ordering.eq))) :
 CallsG Tryz.prog 89 #[Value.float .f64 n0] k R:=
 qX { opq:=[] } [.one (.var 0)] [Value.float .f64 n0] [.flt .f64] ⟨⟨_,rfl⟩,trivial⟩ h
theorem aLz 
 (h:Br (decide ((n0:Int) ≥ 0)) (Rt R k (Value.float .f64 9218868437227405312)) (Rt R k (Value.float .f64 18442240474082181120))) :
 CallsG Tryz.prog 63 #[int .i64 n0] k R:=
 qY { opq:=[] } h
theorem aHj {n0:Nat}
 (h:Rt R k (bool (decide (((wrap .i64 ((n0:Nat):Int)):Int)<0)))) :
 CallsG Tryz.prog 23 #[Value.float .f64 n0] k R:=
 qX { opq:=[] } [.one (.var 0)] [Value.float .f64 n0] [.flt .f64] ⟨⟨_,rfl⟩,trivial⟩ h
theorem xF {n0:Nat}
 (h:Cl k 178 #[Value.float .f64 n0] fun k1 r0=>∃n1:Nat,some (Value.float .f64 n1)=some r0∧
 Br (Ieee.Format.order (FloatKind.format .f64) n1 4503599627370496 == some Ordering.lt) ((Sy.fltR .f64 .mul n0 4841369599423283200).isSome=true∧
 (Rt R k1 (tuple #[Value.float .f64 ((Sy.fltR .f64 .mul n0 4841369599423283200).getD 0),int .i64 (-52)]))) (Rt R k1 (tuple #[Value.float .f64 n0,int .i64 0]))) :
   CallsG Tryz.prog 240 #[Value.float .f64 n0] k R:=
  qX { opq:=[] } [.one (.var 0)] [Value.float .f64 n0] [.flt .f64] ⟨⟨_,rfl⟩,trivial⟩ h
theorem aCd {n0:Nat} 
 (h:Br (Ieee.Format.order (FloatKind.format .f64) n0 0 == some Ordering.eq) (Rt R k (Value.float .f64 n0)) (Cl k 90 #[Value.float .f64 n0,int .i64 0] fun k2 r1=>Gb r1 fun b2=>
 Br b2 (Rt R k2 (Value.float .f64 n0)) (Cl k2 89 #[Value.float .f64 n0] fun k5 r4=>Gb r4 fun b3=>
 Br b3 (Rt R k5 (Value.float .f64 n0)) (Cl k5 240 #[Value.float .f64 n0] fun k8 r7=>∃n4:Nat,∃n5,some (tuple #[Value.float .f64 n4,int .i64 n5])=some r7∧
 Br (decide (((wrap .i64 ((wrap .i64 (n1+n5))+(wrap .i64 ((wrap .i64 (BitVec.toNat (BitVec.ofInt (IntKind.bits .i64) (wrap .i64 (Int.fdiv ((n4:Nat):Int) (2^(min (Int.toNat 52) (IntKind.bits .u64))))) &&& BitVec.ofInt (IntKind.bits .i64) 2047)))-1023)))):Int)<(-1075))) (Cl k8 139 #[Value.float .f64 0,Value.float .f64 n4] fun k10 r9=>∃n6:Nat,some (Value.float .f64 n6)=some r9∧
 Rt R k10 (Value.float .f64 n6)) (Br (decide (((wrap .i64 ((wrap .i64 (n1+n5))+(wrap .i64 ((wrap .i64 (BitVec.toNat (BitVec.ofInt (IntKind.bits .i64) (wrap .i64 (Int.fdiv ((n4:Nat):Int) (2^(min (Int.toNat 52) (IntKind.bits .u64))))) &&& BitVec.ofInt (IntKind.bits .i64) 2047)))-1023)))):Int) > 1023)) (Br (Ieee.Format.order (FloatKind.format .f64) n4 0 == some Ordering.lt) (Cl k8 63 #[int .i64 (-1)] fun k13 r12=>∃n6:Nat,some (Value.float .f64 n6)=some r12∧
 Rt R k13 (Value.float .f64 n6)) (Cl k8 63 #[int .i64 1] fun k16 r15=>∃n6:Nat,some (Value.float .f64 n6)=some r15∧
 Rt R k16 (Value.float .f64 n6))) (Br (decide (((wrap .i64 ((wrap .i64 (n1+n5))+(wrap .i64 ((wrap .i64 (BitVec.toNat (BitVec.ofInt (IntKind.bits .i64) (wrap .i64 (Int.fdiv ((n4:Nat):Int) (2^(min (Int.toNat 52) (IntKind.bits .u64))))) &&& BitVec.ofInt (IntKind.bits .i64) 2047)))-1023)))):Int)<(-1022))) ((Sy.fltR .f64 .mul 4368491638549381120 (Int.toNat (wrap .u64 (BitVec.toNat (BitVec.ofInt (IntKind.bits .u64) (wrap .u64 (BitVec.toNat (BitVec.ofInt (IntKind.bits .u64) ((n4:Nat):Int) &&& ~~~(BitVec.ofInt (IntKind.bits .u64) 9218868437227405312)))) ||| BitVec.ofInt (IntKind.bits .u64) (wrap .u64 ((wrap .u64 (wrap .i64 ((wrap .i64 ((wrap .i64 ((wrap .i64 (n1+n5))+(wrap .i64 ((wrap .i64 (BitVec.toNat (BitVec.ofInt (IntKind.bits .i64) (wrap .i64 (Int.fdiv ((n4:Nat):Int) (2^(min (Int.toNat 52) (IntKind.bits .u64))))) &&& BitVec.ofInt (IntKind.bits .i64) 2047)))-1023))))+53))+1023)))*2^(min (Int.toNat 52) (IntKind.bits .u64))))))))).isSome=true∧
 (Rt R k8 (Value.float .f64 ((Sy.fltR .f64 .mul 4368491638549381120 (Int.toNat (wrap .u64 (BitVec.toNat (BitVec.ofInt (IntKind.bits .u64) (wrap .u64 (BitVec.toNat (BitVec.ofInt (IntKind.bits .u64) ((n4:Nat):Int) &&& ~~~(BitVec.ofInt (IntKind.bits .u64) 9218868437227405312)))) ||| BitVec.ofInt (IntKind.bits .u64) (wrap .u64 ((wrap .u64 (wrap .i64 ((wrap .i64 ((wrap .i64 ((wrap .i64 (n1+n5))+(wrap .i64 ((wrap .i64 (BitVec.toNat (BitVec.ofInt (IntKind.bits .i64) (wrap .i64 (Int.fdiv ((n4:Nat):Int) (2^(min (Int.toNat 52) (IntKind.bits .u64))))) &&& BitVec.ofInt (IntKind.bits .i64) 2047)))-1023))))+53))+1023)))*2^(min (Int.toNat 52) (IntKind.bits .u64))))))))).getD 0)))) ((Sy.fltR .f64 .mul 4607182418800017408 (Int.toNat (wrap .u64 (BitVec.toNat (BitVec.ofInt (IntKind.bits .u64) (wrap .u64 (BitVec.toNat (BitVec.ofInt (IntKind.bits .u64) ((n4:Nat):Int) &&& ~~~(BitVec.ofInt (IntKind.bits .u64) 9218868437227405312)))) ||| BitVec.ofInt (IntKind.bits .u64) (wrap .u64 ((wrap .u64 (wrap .i64 ((wrap .i64 ((wrap .i64 (n1+n5))+(wrap .i64 ((wrap .i64 (BitVec.toNat (BitVec.ofInt (IntKind.bits .i64) (wrap .i64 (Int.fdiv ((n4:Nat):Int) (2^(min (Int.toNat 52) (IntKind.bits .u64))))) &&& BitVec.ofInt (IntKind.bits .i64) 2047)))-1023))))+1023)))*2^(min (Int.toNat 52) (IntKind.bits .u64))))))))).isSome=true∧
 (Rt R k8 (Value.float .f64 ((Sy.fltR .f64 .mul 4607182418800017408 (Int.toNat (wrap .u64 (BitVec.toNat (BitVec.ofInt (IntKind.bits .u64) (wrap .u64 (BitVec.toNat (BitVec.ofInt (IntKind.bits .u64) ((n4:Nat):Int) &&& ~~~(BitVec.ofInt (IntKind.bits .u64) 9218868437227405312)))) ||| BitVec.ofInt (IntKind.bits .u64) (wrap .u64 ((wrap .u64 (wrap .i64 ((wrap .i64 ((wrap .i64 (n1+n5))+(wrap .i64 ((wrap .i64 (BitVec.toNat (BitVec.ofInt (IntKind.bits .i64) (wrap .i64 (Int.fdiv ((n4:Nat):Int) (2^(min (Int.toNat 52) (IntKind.bits .u64))))) &&& BitVec.ofInt (IntKind.bits .i64) 2047)))-1023))))+1023)))*2^(min (Int.toNat 52) (IntKind.bits .u64))))))))).getD 0)))))))))) :
   CallsG Tryz.prog 182 #[Value.float .f64 n0,int .i64 n1] k R:=
  qX { opq:=[] } [.one (.var 0),.one (.var 1)] [Value.float .f64 n0,int .i64 n1] [.flt .f64,.int .i64] ⟨⟨_,rfl⟩,⟨_,rfl⟩,trivial⟩ h
theorem aCa {n0:Nat} 
 (h:Cl k 182 #[Value.float .f64 n0,int .i64 n1] fun k1 r0=>∃n2:Nat,some (Value.float .f64 n2)=some r0∧
 Rt R k1 (Value.float .f64 n2)) :
  CallsG Tryz.prog 93 #[Value.float .f64 n0,int .i64 n1] k R:=
  qX { opq:=[] } [.one (.var 0),.one (.var 1)] [Value.float .f64 n0,int .i64 n1] [.flt .f64,.int .i64] ⟨⟨_,rfl⟩,⟨_,rfl⟩,trivial⟩ h
theorem aCb {n0:Nat}
 (h:Br (Ieee.Format.order (FloatKind.format .f64) n0 0 == some Ordering.eq) (Rt R k (tuple #[Value.float .f64 n0,int .i64 0])) (Cl k 90 #[Value.float .f64 n0,int .i64 0] fun k2 r1=>Gb r1 fun b1=>
 Br b1 (Rt R k2 (tuple #[Value.float .f64 n0,int .i64 0])) (Cl k2 89 #[Value.float .f64 n0] fun k5 r4=>Gb r4 fun b2=>
 Br b2 (Rt R k5 (tuple #[Value.float .f64 n0,int .i64 0])) (Cl k5 240 #[Value.float .f64 n0] fun k8 r7=>∃n3:Nat,∃n4,some (tuple #[Value.float .f64 n3,int .i64 n4])=some r7∧
 Rt R k8 (tuple #[Value.float .f64 (Int.toNat (wrap .u64 (BitVec.toNat (BitVec.ofInt (IntKind.bits .u64) (wrap .u64 (BitVec.toNat (BitVec.ofInt (IntKind.bits .u64) ((n3:Nat):Int) &&& ~~~(BitVec.ofInt (IntKind.bits .u64) 9218868437227405312)))) ||| BitVec.ofInt (IntKind.bits .u64) 4602678819172646912)))),int .i64 (wrap .i64 (n4+(wrap .i64 ((wrap .i64 ((wrap .i64 (wrap .u64 (BitVec.toNat (BitVec.ofInt (IntKind.bits .u64) (Int.fdiv ((n3:Nat):Int) (2^(min (Int.toNat 52) (IntKind.bits .u64)))) &&& BitVec.ofInt (IntKind.bits .u64) 2047))))-1023))+1))))]))))) :
  CallsG Tryz.prog 180 #[Value.float .f64 n0] k R:=
  qX { opq:=[] } [.one (.var 0)] [Value.float .f64 n0] [.flt .f64] ⟨⟨_,rfl⟩,trivial⟩ h
theorem aBz {n0:Nat}
 (h:Cl k 180 #[Value.float .f64 n0] fun k1 r0=>∃n1:Nat,∃n2,some (tuple #[Value.float .f64 n1,int .i64 n2])=some r0∧
 Rt R k1 (tuple #[Value.float .f64 n1,int .i64 n2])) :
  CallsG Tryz.prog 91 #[Value.float .f64 n0] k R:=
  qX { opq:=[] } [.one (.var 0)] [Value.float .f64 n0] [.flt .f64] ⟨⟨_,rfl⟩,trivial⟩ h
theorem aNq {n3:Nat}
 (h:Br b0 (Rt R k (Value.float .f64 (Op.negFloat .f64 n3))) (Rt R k (Value.float .f64 n3))) :
 CallsG Tryz.prog 171 #[agg #[bool b0,slice A1 l1 c1,slice A2 l2 c2],Value.float .f64 n3] k R:=
 qX { opq:=[] } [.agg (qV 0 3),.one (.var 3)] [bool b0,slice A1 l1 c1,slice A2 l2 c2,Value.float .f64 n3] [.bool,.slice,.slice,.flt .f64] ⟨⟨_,rfl⟩,qS,qS,⟨_,rfl⟩,trivial⟩ h
theorem aNp 
 (h:Cl k 95 #[slice A1 l1 c1,int .i64 (if (decide ((n2:Int)<0))=true then 0 else n2)] fun k1 r0=>∃A3 l3 c3,some (slice A3 l3 c3)=some r0∧
 Cl k1 95 #[slice A0 l0 c0,int .i64 (if (decide (((wrap .i64 (0-n2)):Int)<0))=true then 0 else (wrap .i64 (0-n2)))] fun k3 r2=>∃A4 l4 c4,some (slice A4 l4 c4)=some r2∧
 Cl k3 105 #[slice A4 l4 c4,slice A3 l3 c3] fun k5 r4=>∃A5 l5 c5,∃A6 l6 c6,some (tuple #[slice A5 l5 c5,slice A6 l6 c6])=some r4∧
 Cl k5 95 #[slice A6 l6 c6,int .i64 1] fun k7 r6=>∃A7 l7 c7,some (slice A7 l7 c7)=some r6∧
 Cl k7 137 #[slice A7 l7 c7,slice A3 l3 c3] fun k9 r8=>Gi r8 fun n8=>
 Br (decide ((n8:Int) > 0)) (Cl k9 97 #[int .u64 1] fun k11 r10=>∃A9 l9 c9,some (slice A9 l9 c9)=some r10∧
 Cl k11 204 #[slice A5 l5 c5,slice A9 l9 c9] fun k13 r12=>∃A10 l10 c10,some (slice A10 l10 c10)=some r12∧
 Rt R k13 (slice A10 l10 c10)) (Br ((n8:Int) == 0) (Cl k9 236 #[slice A5 l5 c5,int .i64 0] fun k16 r15=>∃n9,some (int .u64 n9)=some r15∧
 Br ((n9:Int) == 1) (Cl k16 97 #[int .u64 1] fun k18 r17=>∃A10 l10 c10,some (slice A10 l10 c10)=some r17∧
 Cl k18 204 #[slice A5 l5 c5,slice A10 l10 c10] fun k20 r19=>∃A11 l11 c11,some (slice A11 l11 c11)=some r19∧
 Rt R k20 (slice A11 l11 c11)) (Rt R k16 (slice A5 l5 c5))) (Rt R k9 (slice A5 l5 c5)))) :
  CallsG Tryz.prog 170 #[slice A0 l0 c0,slice A1 l1 c1,int .i64 n2] k R:=
  qY { opq:=[] } h
theorem aKs 
 (h:Cl k 104 #[slice A5 l5 c5] fun k1 r0=>∃A6 l6 c6,some (slice A6 l6 c6)=some r0∧
 Tt∧(Br (((l4:Nat):Int) == 0) (Rt R k1 (Value.float .f64 0)) (Cl k1 169 #[slice A4 l4 c4] fun k4 r3=>Gi r3 fun n7=>
 Cl k4 169 #[slice A6 l6 c6] fun k6 r5=>Gi r5 fun n8=>
 Cl k6 95 #[slice A4 l4 c4,int .i64 (if (decide (((wrap .i64 (0-(if (decide (((wrap .i64 ((wrap .i64 (n7-n8))-n0)):Int)<n1))=true then n1 else (wrap .i64 ((wrap .i64 (n7-n8))-n0))))):Int)<0))=true then 0 else (wrap .i64 (0-(if (decide (((wrap .i64 ((wrap .i64 (n7-n8))-n0)):Int)<n1))=true then n1 else (wrap .i64 ((wrap .i64 (n7-n8))-n0))))))] fun k8 r7=>∃A9 l9 c9,some (slice A9 l9 c9)=some r7∧
 Cl k8 95 #[slice A6 l6 c6,int .i64 (if (decide (((if (decide (((wrap .i64 ((wrap .i64 (n7-n8))-n0)):Int)<n1))=true then n1 else (wrap .i64 ((wrap .i64 (n7-n8))-n0))):Int)<0))=true then 0 else (if (decide (((wrap .i64 ((wrap .i64 (n7-n8))-n0)):Int)<n1))=true then n1 else (wrap .i64 ((wrap .i64 (n7-n8))-n0))))] fun k10 r9=>∃A10 l10 c10,some (slice A10 l10 c10)=some r9∧
 Cl k10 105 #[slice A9 l9 c9,slice A10 l10 c10] fun k12 r11=>∃A11 l11 c11,∃A12 l12 c12,some (tuple #[slice A11 l11 c11,slice A12 l12 c12])=some r11∧
 Cl k12 169 #[slice A11 l11 c11] fun k14 r13=>Gi r13 fun n13=>
 Br (decide ((n13:Int) > n0)) (Cl k14 170 #[slice A4 l4 c4,slice A6 l6 c6,int .i64 (wrap .i64 ((if (decide (((wrap .i64 ((wrap .i64 (n7-n8))-n0)):Int)<n1))=true then n1 else (wrap .i64 ((wrap .i64 (n7-n8))-n0)))+1))] fun k16 r15=>∃A14 l14 c14,some (slice A14 l14 c14)=some r15∧
 Cl k16 169 #[slice A14 l14 c14] fun k18 r17=>Gi r17 fun n15=>
 Br (decide (((wrap .i64 (n15+(wrap .i64 ((if (decide (((wrap .i64 ((wrap .i64 (n7-n8))-n0)):Int)<n1))=true then n1 else (wrap .i64 ((wrap .i64 (n7-n8))-n0)))+1)))):Int) > n2)) (Cl k18 63 #[int .i64 1] fun k20 r19=>∃n16:Nat,some (Value.float .f64 n16)=some r19∧
 Cl k20 171 #[agg #[bool b3,slice A4 l4 c4,slice A5 l5 c5],Value.float .f64 n16] fun k22 r21=>∃n17:Nat,some (Value.float .f64 n17)=some r21∧
 Rt R k22 (Value.float .f64 n17)) (Tt∧(Br (((l14:Nat):Int) == 0) (Rt R k18 (Value.float .f64 0)) (Ad A14∧((0:Int)≤0∧(0:Int)<(l14:Nat))∧
 ∃n16,Sy.ReadAt k18.cell? A14 (Int.toNat 0*1+0) 1 (int .u64 n16)∧
 Cl k18 93 #[Value.float .f64 (FloatKind.nearest .f64 n16),int .i64 (wrap .i64 ((if (decide (((wrap .i64 ((wrap .i64 (n7-n8))-n0)):Int)<n1))=true then n1 else (wrap .i64 ((wrap .i64 (n7-n8))-n0)))+1))] fun k26 r25=>∃n17:Nat,some (Value.float .f64 n17)=some r25∧
 Cl k26 171 #[agg #[bool b3,slice A4 l4 c4,slice A5 l5 c5],Value.float .f64 n17] fun k28 r27=>∃n18:Nat,some (Value.float .f64 n18)=some r27∧
 Rt R k28 (Value.float .f64 n18))))) (Cl k14 170 #[slice A4 l4 c4,slice A6 l6 c6,int .i64 (if (decide (((wrap .i64 ((wrap .i64 (n7-n8))-n0)):Int)<n1))=true then n1 else (wrap .i64 ((wrap .i64 (n7-n8))-n0)))] fun k31 r30=>∃A14 l14 c14,some (slice A14 l14 c14)=some r30∧
 Cl k31 169 #[slice A14 l14 c14] fun k33 r32=>Gi r32 fun n15=>
 Br (decide (((wrap .i64 (n15+(if (decide (((wrap .i64 ((wrap .i64 (n7-n8))-n0)):Int)<n1))=true then n1 else (wrap .i64 ((wrap .i64 (n7-n8))-n0))))):Int) > n2)) (Cl k33 63 #[int .i64 1] fun k35 r34=>∃n16:Nat,some (Value.float .f64 n16)=some r34∧
 Cl k35 171 #[agg #[bool b3,slice A4 l4 c4,slice A5 l5 c5],Value.float .f64 n16] fun k37 r36=>∃n17:Nat,some (Value.float .f64 n17)=some r36∧
 Rt R k37 (Value.float .f64 n17)) (Tt∧(Br (((l14:Nat):Int) == 0) (Rt R k33 (Value.float .f64 0)) (Ad A14∧((0:Int)≤0∧(0:Int)<(l14:Nat))∧
 ∃n16,Sy.ReadAt k33.cell? A14 (Int.toNat 0*1+0) 1 (int .u64 n16)∧
 Cl k33 93 #[Value.float .f64 (FloatKind.nearest .f64 n16),int .i64 (if (decide (((wrap .i64 ((wrap .i64 (n7-n8))-n0)):Int)<n1))=true then n1 else (wrap .i64 ((wrap .i64 (n7-n8))-n0)))] fun k41 r40=>∃n17:Nat,some (Value.float .f64 n17)=some r40∧
 Cl k41 171 #[agg #[bool b3,slice A4 l4 c4,slice A5 l5 c5],Value.float .f64 n17] fun k43 r42=>∃n18:Nat,some (Value.float .f64 n18)=some r42∧
 Rt R k43 (Value.float .f64 n18)))))))) :
  CallsG Tryz.prog 86 #[agg #[int .i64 n0,int .i64 n1,int .i64 n2],agg #[bool b3,slice A4 l4 c4,slice A5 l5 c5]] k R:=
  qY { opq:=[] } h
theorem aKq 
 (h:Cl k 85 #[] fun k1 r0=>∃n3,∃n4,∃n5,some (agg #[int .i64 n3,int .i64 n4,int .i64 n5])=some r0∧
 Cl k1 86 #[agg #[int .i64 n3,int .i64 n4,int .i64 n5],agg #[bool b0,slice A1 l1 c1,slice A2 l2 c2]] fun k3 r2=>∃n6:Nat,some (Value.float .f64 n6)=some r2∧
 Rt R k3 (Value.float .f64 n6)) :
  CallsG Tryz.prog 13 #[agg #[bool b0,slice A1 l1 c1,slice A2 l2 c2]] k R:=
  qY { opq:=[] } h
theorem aBl 
 (h:Cl k 88 #[] fun k1 r0=>∃n3,∃n4,∃n5,some (agg #[int .i64 n3,int .i64 n4,int .i64 n5])=some r0∧
 Cl k1 86 #[agg #[int .i64 n3,int .i64 n4,int .i64 n5],agg #[bool b0,slice A1 l1 c1,slice A2 l2 c2]] fun k3 r2=>∃n6:Nat,some (Value.float .f64 n6)=some r2∧
 (Sy.f2fOk .f64 .f32 n6)=true∧
 (Rt R k3 (Value.float .f32 (Sy.f2f .f64 .f32 n6)))) :
   CallsG Tryz.prog 15 #[agg #[bool b0,slice A1 l1 c1,slice A2 l2 c2]] k R:=
  qY { opq:=[] } h
theorem aKr
 (h:Rt R k (agg #[int .i64 53,int .i64 (-1074),int .i64 1024])) :
 CallsG Tryz.prog 85 #[] k R:=
 qX { opq:=[] } [] [] [] trivial h
theorem aGg
 (h:Rt R k (agg #[int .i64 24,int .i64 (-149),int .i64 128])) :
 CallsG Tryz.prog 88 #[] k R:=
 qX { opq:=[] } [] [] [] trivial h
theorem lB {n0:Nat}
 (h:Cl k 89 #[Value.float .f64 n0] fun k1 r0=>Gb r0 fun b1=>
 Br b1 (Rt R k1 (tuple #[agg #[bool false,slice none 0 0,slice none 0 0],int .i64 1])) (Cl k1 90 #[Value.float .f64 n0,int .i64 0] fun k4 r3=>Gb r3 fun b2=>
 Br b2 (Rt R k4 (tuple #[agg #[bool false,slice none 0 0,slice none 0 0],int .i64 1])) (Cl k4 91 #[Value.float .f64 n0] fun k7 r6=>∃n3:Nat,∃n4,some (tuple #[Value.float .f64 n3,int .i64 n4])=some r6∧
 Cl k7 93 #[Value.float .f64 n3,int .i64 53] fun k9 r8=>∃n5:Nat,some (Value.float .f64 n5)=some r8∧
 (Sy.f2iOk .f64 .i64 n5)=true∧
 (Cl k9 92 #[int .i64 (Sy.f2i .f64 n5)] fun k11 r10=>∃b6,∃A7 l7 c7,some (agg #[bool b6,slice A7 l7 c7])=some r10∧
 Br (decide (((wrap .i64 (n4-53)):Int) ≥ 0)) (Cl k11 95 #[slice A7 l7 c7,int .i64 (wrap .i64 (n4-53))] fun k13 r12=>∃A8 l8 c8,some (slice A8 l8 c8)=some r12∧
 Cl k13 94 #[bool b6,slice A8 l8 c8] fun k15 r14=>∃b9,∃A10 l10 c10,some (agg #[bool b9,slice A10 l10 c10])=some r14∧
 Rt R k15 (tuple #[agg #[bool b9,slice A10 l10 c10,slice none 0 0],int .i64 0])) (Cl k11 97 #[int .u64 1] fun k18 r17=>∃A8 l8 c8,some (slice A8 l8 c8)=some r17∧
 Cl k18 95 #[slice A8 l8 c8,int .i64 (wrap .i64 (0-(wrap .i64 (n4-53))))] fun k20 r19=>∃A9 l9 c9,some (slice A9 l9 c9)=some r19∧
 Cl k20 96 #[agg #[bool b6,slice A7 l7 c7],slice A9 l9 c9] fun k22 r21=>∃b10,∃A11 l11 c11,∃A12 l12 c12,some (agg #[bool b10,slice A11 l11 c11,slice A12 l12 c12])=some r21∧
 Rt R k22 (tuple #[agg #[bool b10,slice A11 l11 c11,slice A12 l12 c12],int .i64 0])))))) :
  CallsG Tryz.prog 19 #[Value.float .f64 n0] k R:=
  qX { opq:=[] } [.one (.var 0)] [Value.float .f64 n0] [.flt .f64] ⟨⟨_,rfl⟩,trivial⟩ h
end Go.Proofs.YtjgnlflbgmnfaaaGreat

namespace Go.Proofs.YtjgnlflbgmnfaaaGreat
open IntKind (wrap)
open Go.RowKit
open Value (agg slice int bool tuple)
open Sy (Up Sees CallsG Seg execFn_use)
set_option maxRecDepth 100000
variable {k:World}{R:World→Value→Prop}{n0 n1:Int}
theorem aFe {n0:Nat}
 (h:Br (((wrap .i64 (wrap .u64 (BitVec.toNat (BitVec.ofInt (IntKind.bits .u64) (Int.fdiv ((n0:Nat):Int) (2^(min (Int.toNat 52) (IntKind.bits .u64)))) &&& BitVec.ofInt (IntKind.bits .u64) 2047)))):Int) == 2047) (Cl k 29 #[int .i64 0] fun k1 r0=>Gt 3 r0 fun cs1=>
 Rt R k1 (tuple #[agg cs1,int .i64 1])) (Br (decide (((wrap .i64 (wrap .u64 (BitVec.toNat (BitVec.ofInt (IntKind.bits .u64) (Int.fdiv ((n0:Nat):Int) (2^(min (Int.toNat 52) (IntKind.bits .u64)))) &&& BitVec.ofInt (IntKind.bits .u64) 2047)))):Int) > 0)) (Br (decide (((wrap .i64 (wrap .u64 (BitVec.toNat (BitVec.ofInt (IntKind.bits .u64) (Int.fdiv ((n0:Nat):Int) (2^(min (Int.toNat 52) (IntKind.bits .u64)))) &&& BitVec.ofInt (IntKind.bits .u64) 2047)))):Int) ≥ 1075)) (Cl k 100 #[int .u64 (wrap .u64 ((wrap .u64 (BitVec.toNat (BitVec.ofInt (IntKind.bits .u64) ((n0:Nat):Int) &&& BitVec.ofInt (IntKind.bits .u64) 4503599627370495)))+4503599627370496))] fun k4 r3=>∃A1 l1 c1,some (slice A1 l1 c1)=some r3∧
 Cl k4 99 #[slice A1 l1 c1,int .i64 (wrap .i64 ((wrap .i64 (wrap .u64 (BitVec.toNat (BitVec.ofInt (IntKind.bits .u64) (Int.fdiv ((n0:Nat):Int) (2^(min (Int.toNat 52) (IntKind.bits .u64)))) &&& BitVec.ofInt (IntKind.bits .u64) 2047))))-1075))] fun k6 r5=>∃A2 l2 c2,some (slice A2 l2 c2)=some r5∧
 ∀p3 k7,Up k6 k7→Sy.Blk k7 p3 46 #[int .u32 1]→
 Cl k7 98 #[bool (((Int.fdiv ((n0:Nat):Int) (2^(min (Int.toNat 63) (IntKind.bits .u64)))):Int) == 1),slice A2 l2 c2,slice (some ⟨p3,0,none⟩) 1 1] fun k9 r8=>Gt 3 r8 fun cs4=>
 Rt R k9 (tuple #[agg cs4,int .i64 0])) (Cl k 100 #[int .u64 (wrap .u64 ((wrap .u64 (BitVec.toNat (BitVec.ofInt (IntKind.bits .u64) ((n0:Nat):Int) &&& BitVec.ofInt (IntKind.bits .u64) 4503599627370495)))+4503599627370496))] fun k12 r11=>∃A1 l1 c1,some (slice A1 l1 c1)=some r11∧
 ∀p2 k13,Up k12 k13→Sy.Blk k13 p2 46 #[int .u32 1]→
 Cl k13 99 #[slice (some ⟨p2,0,none⟩) 1 1,int .i64 (wrap .i64 (1075-(wrap .i64 (wrap .u64 (BitVec.toNat (BitVec.ofInt (IntKind.bits .u64) (Int.fdiv ((n0:Nat):Int) (2^(min (Int.toNat 52) (IntKind.bits .u64)))) &&& BitVec.ofInt (IntKind.bits .u64) 2047))))))] fun k15 r14=>∃A3 l3 c3,some (slice A3 l3 c3)=some r14∧
 Cl k15 98 #[bool (((Int.fdiv ((n0:Nat):Int) (2^(min (Int.toNat 63) (IntKind.bits .u64)))):Int) == 1),slice A1 l1 c1,slice A3 l3 c3] fun k17 r16=>Gt 3 r16 fun cs4=>
 Rt R k17 (tuple #[agg cs4,int .i64 0]))) (Cl k 100 #[int .u64 (wrap .u64 (BitVec.toNat (BitVec.ofInt (IntKind.bits .u64) ((n0:Nat):Int) &&& BitVec.ofInt (IntKind.bits .u64) 4503599627370495)))] fun k20 r19=>∃A1 l1 c1,some (slice A1 l1 c1)=some r19∧
 ∀p2 k21,Up k20 k21→Sy.Blk k21 p2 46 #[int .u32 1]→
 Cl k21 99 #[slice (some ⟨p2,0,none⟩) 1 1,int .i64 1074] fun k23 r22=>∃A3 l3 c3,some (slice A3 l3 c3)=some r22∧
 Cl k23 98 #[bool (((Int.fdiv ((n0:Nat):Int) (2^(min (Int.toNat 63) (IntKind.bits .u64)))):Int) == 1),slice A1 l1 c1,slice A3 l3 c3] fun k25 r24=>Gt 3 r24 fun cs4=>
 Rt R k25 (tuple #[agg cs4,int .i64 0])))) :
  CallsG Tryz.prog 20 #[Value.float .f64 n0] k R:=
  qX { opq:=[34] } [.one (.var 0)] [Value.float .f64 n0] [.flt .f64] ⟨⟨_,rfl⟩,trivial⟩ h
theorem wK {n0:Nat}
 (h:∀n1,Sy.F2F .f32 .f64 n0 n1→
 Cl k 19 #[Value.float .f64 n1] fun k1 r0=>∃b2,∃A3 l3 c3,∃A4 l4 c4,∃n5,some (tuple #[agg #[bool b2,slice A3 l3 c3,slice A4 l4 c4],int .i64 n5])=some r0∧
 Rt R k1 (tuple #[agg #[bool b2,slice A3 l3 c3,slice A4 l4 c4],int .i64 n5])) :
  CallsG Tryz.prog 21 #[Value.float .f32 n0] k R:=
  qX { opq:=[],nanc:=true } [.one (.var 0)] [Value.float .f32 n0] [.flt .f32] ⟨⟨_,rfl⟩,trivial⟩ h
theorem zX 
 (h:Cl k 10 #[] fun k1 r0=>Gb r0 fun b2=>
 Br (!b2) (Rt R k1 (bool false)) (Cl k1 19 #[Value.float .f64 (Int.toNat n0)] fun k4 r3=>∃cs3,Seg 3 cs3∧∃n4,some (tuple #[agg cs3,int .i64 n4])=some r3∧
 Cl k4 20 #[Value.float .f64 (Int.toNat n0)] fun k6 r5=>∃cs5,Seg 3 cs5∧∃n6,some (tuple #[agg cs5,int .i64 n6])=some r5∧
 Cl k6 21 #[Value.float .f32 (Int.toNat n1)] fun k8 r7=>∃cs7,Seg 3 cs7∧∃n8,some (tuple #[agg cs7,int .i64 n8])=some r7∧
 ∀n9,Sy.F2F .f32 .f64 (Int.toNat n1) n9→
 Cl k8 20 #[Value.float .f64 n9] fun k10 r9=>∃cs10,Seg 3 cs10∧∃n11,some (tuple #[agg cs10,int .i64 n11])=some r9∧
 Br ((n4:Int) != n6) (Rt R k10 (bool false)) (Br ((n8:Int) != n11) (Rt R k10 (bool false)) (Cl k10 22 #[agg cs3,agg cs5] fun k14 r13=>Gb r13 fun b12=>
 Br (!b12) (Rt R k14 (bool false)) (Cl k14 22 #[agg cs7,agg cs10] fun k17 r16=>Gb r16 fun b13=>
 Br (!b13) (Rt R k17 (bool false)) (Cl k17 13 #[agg cs3] fun k20 r19=>∃n14:Nat,some (Value.float .f64 n14)=some r19∧
 Cl k20 15 #[agg cs7] fun k22 r21=>∃n15:Nat,some (Value.float .f32 n15)=some r21∧
 Br ((n4:Int) == 0) (Br (Ieee.Format.order (FloatKind.format .f64) n14 (Int.toNat n0) != some Ordering.eq) (Rt R k22 (bool false)) (Cl k22 23 #[Value.float .f64 n14] fun k25 r24=>Gb r24 fun b16=>
 Br (!(b16 == (Ieee.Format.order (FloatKind.format .f64) (Int.toNat n0) 0 == some Ordering.lt))) (Rt R k25 (bool false)) (Br ((n8:Int) != 0) (Rt R k25 (bool true)) (Br (Ieee.Format.order (FloatKind.format .f32) n15 (Int.toNat n1) == some Ordering.eq) (∀n17,Sy.F2F .f32 .f64 n15 n17→
 Cl k25 23 #[Value.float .f64 n17] fun k29 r28=>Gb r28 fun b18=>
 Rt R k29 (bool (b18 == (Ieee.Format.order (FloatKind.format .f32) (Int.toNat n1) 0 == some Ordering.lt)))) (Rt R k25 (bool false)))))) (Br ((n8:Int) != 0) (Rt R k22 (bool true)) (Br (Ieee.Format.order (FloatKind.format .f32) n15 (Int.toNat n1) == some Ordering.eq) (∀n16,Sy.F2F .f32 .f64 n15 n16→
 Cl k22 23 #[Value.float .f64 n16] fun k34 r33=>Gb r33 fun b17=>
 Rt R k34 (bool (b17 == (Ieee.Format.order (FloatKind.format .f32) (Int.toNat n1) 0 == some Ordering.lt)))) (Rt R k22 (bool false)))))))))) :
  CallsG Tryz.prog 4 #[int .u64 n0,int .u32 n1] k R:=
  qY { opq:=[31,34],nanc:=true } h
