/- Several texts in one. (Printed by prep.py.) -/
import Derived.Test.YtifcjpacobpdmaaGreatTtVS
namespace Go.Proofs.YtifcjpacobpdmaaGreat
open IntKind (wrap)
open Go.RowKit
open Value (agg slice int bool tuple)
open Sy (Up Sees CallsG Seg execFn_use)
set_option maxRecDepth 100000
variable {k:World}{R:World→Value→Prop}{n1:Int}
theorem aDb {n0:Nat}
 (h:Rt R k (Value.float .f64 (Int.toNat (wrap .u64 (BitVec.toNat (BitVec.ofInt (IntKind.bits .u64) ((n0:Nat):Int) &&& ~~~(BitVec.ofInt (IntKind.bits .u64) 9223372036854775808))))))) :
 CallsG Tryz.prog 215 #[Value.float .f64 n0] k R:=
 qX { opq:=[] } [.one (.var 0)] [Value.float .f64 n0] [.flt .f64] ⟨⟨_,rfl⟩,trivial⟩ h
theorem fY {n0:Nat} 
 (h:Br ((n1:Int) == 0) (Cl k 215 #[Value.float .f64 n0] fun k1 r0=>∃n2:Nat,some (Value.float .f64 n2)=some r0∧
 Rt R k1 (bool (Ieee.Format.order (FloatKind.format .f64) n2 9218868437227405311 == some Ordering.gt))) (Br (decide ((n1:Int)<0)) (Rt R k (bool (Ieee.Format.order (FloatKind.format .f64) (Op.negFloat .f64 n0) 9218868437227405311 == some Ordering.gt))) (Rt R k (bool (Ieee.Format.order (FloatKind.format .f64) n0 9218868437227405311 == some Ordering.gt))))) :
  CallsG Tryz.prog 127 #[Value.float .f64 n0,int .i64 n1] k R:=
  qX { opq:=[] } [.one (.var 0),.one (.var 1)] [Value.float .f64 n0,int .i64 n1] [.flt .f64,.int .i64] ⟨⟨_,rfl⟩,⟨_,rfl⟩,trivial⟩ h
theorem iD {n0:Nat}
 (h:Rt R k (bool (Ieee.Format.order (FloatKind.format .f64) n0 n0 != some Ordering.eq))) :
 CallsG Tryz.prog 128 #[Value.float .f64 n0] k R:=
 qX { opq:=[] } [.one (.var 0)] [Value.float .f64 n0] [.flt .f64] ⟨⟨_,rfl⟩,trivial⟩ h
theorem xT {n0:Nat}
 (h:Cl k 215 #[Value.float .f64 n0] fun k1 r0=>∃n1:Nat,some (Value.float .f64 n1)=some r0∧
 Br (Ieee.Format.order (FloatKind.format .f64) n1 4503599627370496 == some Ordering.lt) ((Sy.fltR .f64 .mul n0 4841369599423283200).isSome=true∧
 (Rt R k1 (tuple #[Value.float .f64 ((Sy.fltR .f64 .mul n0 4841369599423283200).getD 0),int .i64 (-52)]))) (Rt R k1 (tuple #[Value.float .f64 n0,int .i64 0]))) :
   CallsG Tryz.prog 328 #[Value.float .f64 n0] k R:=
  qX { opq:=[] } [.one (.var 0)] [Value.float .f64 n0] [.flt .f64] ⟨⟨_,rfl⟩,trivial⟩ h
theorem aDd {n0:Nat} 
 (h:Br (Ieee.Format.order (FloatKind.format .f64) n0 0 == some Ordering.eq) (Rt R k (Value.float .f64 n0)) (Cl k 127 #[Value.float .f64 n0,int .i64 0] fun k2 r1=>Gb r1 fun b2=>
 Br b2 (Rt R k2 (Value.float .f64 n0)) (Cl k2 128 #[Value.float .f64 n0] fun k5 r4=>Gb r4 fun b3=>
 Br b3 (Rt R k5 (Value.float .f64 n0)) (Cl k5 328 #[Value.float .f64 n0] fun k8 r7=>∃n4:Nat,∃n5,some (tuple #[Value.float .f64 n4,int .i64 n5])=some r7∧
 Br (decide (((wrap .i64 ((wrap .i64 (n1+n5))+(wrap .i64 ((wrap .i64 (BitVec.toNat (BitVec.ofInt (IntKind.bits .i64) (wrap .i64 (Int.fdiv ((n4:Nat):Int) (2^(min (Int.toNat 52) (IntKind.bits .u64))))) &&& BitVec.ofInt (IntKind.bits .i64) 2047)))-1023)))):Int)<(-1075))) (Cl k8 329 #[Value.float .f64 0,Value.float .f64 n4] fun k10 r9=>∃n6:Nat,some (Value.float .f64 n6)=some r9∧
 Rt R k10 (Value.float .f64 n6)) (Br (decide (((wrap .i64 ((wrap .i64 (n1+n5))+(wrap .i64 ((wrap .i64 (BitVec.toNat (BitVec.ofInt (IntKind.bits .i64) (wrap .i64 (Int.fdiv ((n4:Nat):Int) (2^(min (Int.toNat 52) (IntKind.bits .u64))))) &&& BitVec.ofInt (IntKind.bits .i64) 2047)))-1023)))):Int) > 1023)) (Br (Ieee.Format.order (FloatKind.format .f64) n4 0 == some Ordering.lt) (Cl k8 233 #[int .i64 (-1)] fun k13 r12=>∃n6:Nat,some (Value.float .f64 n6)=some r12∧
 Rt R k13 (Value.float .f64 n6)) (Cl k8 233 #[int .i64 1] fun k16 r15=>∃n6:Nat,some (Value.float .f64 n6)=some r15∧
 Rt R k16 (Value.float .f64 n6))) (Br (decide (((wrap .i64 ((wrap .i64 (n1+n5))+(wrap .i64 ((wrap .i64 (BitVec.toNat (BitVec.ofInt (IntKind.bits .i64) (wrap .i64 (Int.fdiv ((n4:Nat):Int) (2^(min (Int.toNat 52) (IntKind.bits .u64))))) &&& BitVec.ofInt (IntKind.bits .i64) 2047)))-1023)))):Int)<(-1022))) ((Sy.fltR .f64 .mul 4368491638549381120 (Int.toNat (wrap .u64 (BitVec.toNat (BitVec.ofInt (IntKind.bits .u64) (wrap .u64 (BitVec.toNat (BitVec.ofInt (IntKind.bits .u64) ((n4:Nat):Int) &&& ~~~(BitVec.ofInt (IntKind.bits .u64) 9218868437227405312)))) ||| BitVec.ofInt (IntKind.bits .u64) (wrap .u64 ((wrap .u64 (wrap .i64 ((wrap .i64 ((wrap .i64 ((wrap .i64 (n1+n5))+(wrap .i64 ((wrap .i64 (BitVec.toNat (BitVec.ofInt (IntKind.bits .i64) (wrap .i64 (Int.fdiv ((n4:Nat):Int) (2^(min (Int.toNat 52) (IntKind.bits .u64))))) &&& BitVec.ofInt (IntKind.bits .i64) 2047)))-1023))))+53))+1023)))*2^(min (Int.toNat 52) (IntKind.bits .u64))))))))).isSome=true∧
 (Rt R k8 (Value.float .f64 ((Sy.fltR .f64 .mul 4368491638549381120 (Int.toNat (wrap .u64 (BitVec.toNat (BitVec.ofInt (IntKind.bits .u64) (wrap .u64 (BitVec.toNat (BitVec.ofInt (IntKind.bits .u64) ((n4:Nat):Int) &&& ~~~(BitVec.ofInt (IntKind.bits .u64) 9218868437227405312)))) ||| BitVec.ofInt (IntKind.bits .u64) (wrap .u64 ((wrap .u64 (wrap .i64 ((wrap .i64 ((wrap .i64 ((wrap .i64 (n1+n5))+(wrap .i64 ((wrap .i64 (BitVec.toNat (BitVec.ofInt (IntKind.bits .i64) (wrap .i64 (Int.fdiv ((n4:Nat):Int) (2^(min (Int.toNat 52) (IntKind.bits .u64))))) &&& BitVec.ofInt (IntKind.bits .i64) 2047)))-1023))))+53))+1023)))*2^(min (Int.toNat 52) (IntKind.bits .u64))))))))).getD 0)))) ((Sy.fltR .f64 .mul 4607182418800017408 (Int.toNat (wrap .u64 (BitVec.toNat (BitVec.ofInt (IntKind.bits .u64) (wrap .u64 (BitVec.toNat (BitVec.ofInt (IntKind.bits .u64) ((n4:Nat):Int) &&& ~~~(BitVec.ofInt (IntKind.bits .u64) 9218868437227405312)))) ||| BitVec.ofInt (IntKind.bits .u64) (wrap .u64 ((wrap .u64 (wrap .i64 ((wrap .i64 ((wrap .i64 (n1+n5))+(wrap .i64 ((wrap .i64 (BitVec.toNat (BitVec.ofInt (IntKind.bits .i64) (wrap .i64 (Int.fdiv ((n4:Nat):Int) (2^(min (Int.toNat 52) (IntKind.bits .u64))))) &&& BitVec.ofInt (IntKind.bits .i64) 2047)))-1023))))+1023)))*2^(min (Int.toNat 52) (IntKind.bits .u64))))))))).isSome=true∧
 (Rt R k8 (Value.float .f64 ((Sy.fltR .f64 .mul 4607182418800017408 (Int.toNat (wrap .u64 (BitVec.toNat (BitVec.ofInt (IntKind.bits .u64) (wrap .u64 (BitVec.toNat (BitVec.ofInt (IntKind.bits .u64) ((n4:Nat):Int) &&& ~~~(BitVec.ofInt (IntKind.bits .u64) 9218868437227405312)))) ||| BitVec.ofInt (IntKind.bits .u64) (wrap .u64 ((wrap .u64 (wrap .i64 ((wrap .i64 ((wrap .i64 (n1+n5))+(wrap .i64 ((wrap .i64 (BitVec.toNat (BitVec.ofInt (IntKind.bits .i64) (wrap .i64 (Int.fdiv ((n4:Nat):Int) (2^(min (Int.toNat 52) (IntKind.bits .u64))))) &&& BitVec.ofInt (IntKind.bits .i64) 2047)))-1023))))+1023)))*2^(min (Int.toNat 52) (IntKind.bits .u64))))))))).getD 0)))))))))) :
   CallsG Tryz.prog 300 #[Value.float .f64 n0,int .i64 n1] k R:=
  qX { opq:=[] } [.one (.var 0),.one (.var 1)] [Value.float .f64 n0,int .i64 n1] [.flt .f64,.int .i64] ⟨⟨_,rfl⟩,⟨_,rfl⟩,trivial⟩ h
theorem aDa {n0:Nat} 
 (h:Cl k 300 #[Value.float .f64 n0,int .i64 n1] fun k1 r0=>∃n2:Nat,some (Value.float .f64 n2)=some r0∧
 Rt R k1 (Value.float .f64 n2)) :
  CallsG Tryz.prog 234 #[Value.float .f64 n0,int .i64 n1] k R:=
  qX { opq:=[] } [.one (.var 0),.one (.var 1)] [Value.float .f64 n0,int .i64 n1] [.flt .f64,.int .i64] ⟨⟨_,rfl⟩,⟨_,rfl⟩,trivial⟩ h
theorem aDc {n0:Nat}
 (h:Br (Ieee.Format.order (FloatKind.format .f64) n0 0 == some Ordering.eq) (Rt R k (tuple #[Value.float .f64 n0,int .i64 0])) (Cl k 127 #[Value.float .f64 n0,int .i64 0] fun k2 r1=>Gb r1 fun b1=>
 Br b1 (Rt R k2 (tuple #[Value.float .f64 n0,int .i64 0])) (Cl k2 128 #[Value.float .f64 n0] fun k5 r4=>Gb r4 fun b2=>
 Br b2 (Rt R k5 (tuple #[Value.float .f64 n0,int .i64 0])) (Cl k5 328 #[Value.float .f64 n0] fun k8 r7=>∃n3:Nat,∃n4,some (tuple #[Value.float .f64 n3,int .i64 n4])=some r7∧
 Rt R k8 (tuple #[Value.float .f64 (Int.toNat (wrap .u64 (BitVec.toNat (BitVec.ofInt (IntKind.bits .u64) (wrap .u64 (BitVec.toNat (BitVec.ofInt (IntKind.bits .u64) ((n3:Nat):Int) &&& ~~~(BitVec.ofInt (IntKind.bits .u64) 9218868437227405312)))) ||| BitVec.ofInt (IntKind.bits .u64) 4602678819172646912)))),int .i64 (wrap .i64 (n4+(wrap .i64 ((wrap .i64 ((wrap .i64 (wrap .u64 (BitVec.toNat (BitVec.ofInt (IntKind.bits .u64) (Int.fdiv ((n3:Nat):Int) (2^(min (Int.toNat 52) (IntKind.bits .u64)))) &&& BitVec.ofInt (IntKind.bits .u64) 2047))))-1023))+1))))]))))) :
  CallsG Tryz.prog 302 #[Value.float .f64 n0] k R:=
  qX { opq:=[] } [.one (.var 0)] [Value.float .f64 n0] [.flt .f64] ⟨⟨_,rfl⟩,trivial⟩ h
theorem aCz {n0:Nat}
 (h:Cl k 302 #[Value.float .f64 n0] fun k1 r0=>∃n1:Nat,∃n2,some (tuple #[Value.float .f64 n1,int .i64 n2])=some r0∧
 Rt R k1 (tuple #[Value.float .f64 n1,int .i64 n2])) :
  CallsG Tryz.prog 235 #[Value.float .f64 n0] k R:=
  qX { opq:=[] } [.one (.var 0)] [Value.float .f64 n0] [.flt .f64] ⟨⟨_,rfl⟩,trivial⟩ h
theorem kR {n0:Nat}
 (h:Cl k 128 #[Value.float .f64 n0] fun k1 r0=>Gb r0 fun b1=>
 Br b1 (Rt R k1 (tuple #[agg #[bool false,slice none 0 0,slice none 0 0],int .i64 1])) (Cl k1 127 #[Value.float .f64 n0,int .i64 0] fun k4 r3=>Gb r3 fun b2=>
 Br b2 (Rt R k4 (tuple #[agg #[bool false,slice none 0 0,slice none 0 0],int .i64 1])) (Cl k4 235 #[Value.float .f64 n0] fun k7 r6=>∃n3:Nat,∃n4,some (tuple #[Value.float .f64 n3,int .i64 n4])=some r6∧
 Cl k7 234 #[Value.float .f64 n3,int .i64 53] fun k9 r8=>∃n5:Nat,some (Value.float .f64 n5)=some r8∧
 (Sy.f2iOk .f64 .i64 n5)=true∧
 (Cl k9 148 #[int .i64 (Sy.f2i .f64 n5)] fun k11 r10=>∃b6,∃A7 l7 c7,some (agg #[bool b6,slice A7 l7 c7])=some r10∧
 Br (decide (((wrap .i64 (n4-53)):Int) ≥ 0)) (Cl k11 230 #[slice A7 l7 c7,int .i64 (wrap .i64 (n4-53))] fun k13 r12=>∃A8 l8 c8,some (slice A8 l8 c8)=some r12∧
 Cl k13 171 #[bool b6,slice A8 l8 c8] fun k15 r14=>∃b9,∃A10 l10 c10,some (agg #[bool b9,slice A10 l10 c10])=some r14∧
 Rt R k15 (tuple #[agg #[bool b9,slice A10 l10 c10,slice none 0 0],int .i64 0])) (Cl k11 189 #[int .u64 1] fun k18 r17=>∃A8 l8 c8,some (slice A8 l8 c8)=some r17∧
 Cl k18 230 #[slice A8 l8 c8,int .i64 (wrap .i64 (0-(wrap .i64 (n4-53))))] fun k20 r19=>∃A9 l9 c9,some (slice A9 l9 c9)=some r19∧
 Cl k20 146 #[agg #[bool b6,slice A7 l7 c7],slice A9 l9 c9] fun k22 r21=>∃b10,∃A11 l11 c11,∃A12 l12 c12,some (agg #[bool b10,slice A11 l11 c11,slice A12 l12 c12])=some r21∧
 Rt R k22 (tuple #[agg #[bool b10,slice A11 l11 c11,slice A12 l12 c12],int .i64 0])))))) :
  CallsG Tryz.prog 149 #[Value.float .f64 n0] k R:=
  qX { opq:=[] } [.one (.var 0)] [Value.float .f64 n0] [.flt .f64] ⟨⟨_,rfl⟩,trivial⟩ h
end Go.Proofs.YtifcjpacobpdmaaGreat

namespace Go.Proofs.YtifcjpacobpdmaaGreat
open Go.RowKit
open Value (agg slice int bool tuple)
open Sy (Up Sees CallsG Seg execFn_use)
set_option maxRecDepth 100000
variable {k:World}{R:World→Value→Prop}
theorem wQ {n0:Nat}
 (h:∀n1,Sy.F2F .f32 .f64 n0 n1→
 Cl k 149 #[Value.float .f64 n1] fun k1 r0=>∃b2,∃A3 l3 c3,∃A4 l4 c4,∃n5,some (tuple #[agg #[bool b2,slice A3 l3 c3,slice A4 l4 c4],int .i64 n5])=some r0∧
 Rt R k1 (tuple #[agg #[bool b2,slice A3 l3 c3,slice A4 l4 c4],int .i64 n5])) :
  CallsG Tryz.prog 61 #[Value.float .f32 n0] k R:=
  qX { opq:=[],nanc:=true } [.one (.var 0)] [Value.float .f32 n0] [.flt .f32] ⟨⟨_,rfl⟩,trivial⟩ h
