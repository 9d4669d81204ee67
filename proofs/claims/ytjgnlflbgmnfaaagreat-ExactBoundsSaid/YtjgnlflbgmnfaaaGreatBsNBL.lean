/- Several texts in one. (Printed by prep.py.) -/
import Derived.Test.YtjgnlflbgmnfaaaGreatBsNO
namespace Go.Proofs.YtjgnlflbgmnfaaaGreat
open IntKind (wrap)
open Go.RowKit
open Value (agg slice int bool tuple)
open Sy (Up Sees CallsG Seg execFn_use)
set_option maxRecDepth 100000
variable {k:World}{R:World→Value→Prop}{cs1:Array Value}{p2:Nat}{n0 n1 n2 n3 n4 n5 n6 n7 n8:Int}
theorem zP {n0:Nat}{n1:Nat}
 (h:Cl k 89 #[Value.float .f64 n0] fun k1 r0=>Gb r0 fun b2=>
 Br b2 (Cl k1 138 #[] fun k3 r2=>∃n3:Nat,some (Value.float .f64 n3)=some r2∧
 Rt R k3 (Value.float .f64 n3)) (Cl k1 89 #[Value.float .f64 n1] fun k6 r5=>Gb r5 fun b3=>
 Br b3 (Cl k6 138 #[] fun k8 r7=>∃n4:Nat,some (Value.float .f64 n4)=some r7∧
 Rt R k8 (Value.float .f64 n4)) (Br (Ieee.Format.order (FloatKind.format .f64) n0 n1 == some Ordering.eq) (Rt R k6 (Value.float .f64 n0)) (Br (Ieee.Format.order (FloatKind.format .f64) n0 0 == some Ordering.eq) (Cl k6 139 #[Value.float .f64 1,Value.float .f64 n1] fun k12 r11=>∃n4:Nat,some (Value.float .f64 n4)=some r11∧
 Rt R k12 (Value.float .f64 n4)) (Br ((Ieee.Format.order (FloatKind.format .f64) n1 n0 == some Ordering.gt) == (Ieee.Format.order (FloatKind.format .f64) n0 0 == some Ordering.gt)) (Rt R k6 (Value.float .f64 (Int.toNat (wrap .u64 (((n0:Nat):Int)+1))))) (Rt R k6 (Value.float .f64 (Int.toNat (wrap .u64 (((n0:Nat):Int)-1)))))))))) :
  CallsG Tryz.prog 62 #[Value.float .f64 n0,Value.float .f64 n1] k R:=
  qX { opq:=[] } [.one (.var 0),.one (.var 1)] [Value.float .f64 n0,Value.float .f64 n1] [.flt .f64,.flt .f64] ⟨⟨_,rfl⟩,⟨_,rfl⟩,trivial⟩ h
theorem aQz {n0:Nat}(hcs1:Seg 9 cs1) (hB2:Sy.Blk k p2 63 (cs1.toList++([])).toArray)
 (h:Cl k 19 #[Value.float .f64 n0] fun k1 r0=>∃cs3,Seg 3 cs3∧∃n4,some (tuple #[agg cs3,int .i64 n4])=some r0∧
 Cl k1 60 #[agg cs1,agg cs3] fun k3 r2=>Gt 9 r2 fun cs5=>
 Cl k3 34 #[agg cs1,agg cs5] fun k5 r4=>Gt 9 r4 fun cs6=>
 Cl k5 30 #[agg cs6,agg cs6] fun k7 r6=>Gt 9 r6 fun cs7=>
 Rt R k7 (agg cs7)) :
  CallsG Tryz.prog 59 #[Value.float .f64 n0,Value.pointer (some ⟨p2,0,none⟩)] k R:=
  Sy.execFn_use_heap (cfg:={ opq:=[31,63] }) (args:=[.one (.var 0),.one (.ptr 0 0)]) (vals:=[Value.float .f64 n0,agg cs1,(Value.pointer (some ⟨p2,0,none⟩))]) (kinds:=[.flt .f64,.seg 9,.any]) (blks:=[p2]) (heap:=[{ ty:=63,cells:=[.seg 1 9],pub:=true,pv:=2 }]) ox ⟨⟨_,rfl⟩,⟨cs1,rfl,hcs1⟩,⟨rfl,rfl⟩,trivial⟩ ox ⟨⟨rfl,⟨cs1.toList++([]),by kernel_rfl,hB2⟩,by kernel_rfl⟩,trivial⟩ ox h
theorem aCl 
 (h:Cl k 10 #[] fun k1 r0=>Gb r0 fun b9=>
 Br (!b9) (Cl k1 10 #[] fun k3 r2=>Gb r2 fun b10=>
 Rt R k3 (bool b10)) (Cl k1 25 #[agg #[int .i64 n0,int .i64 n1,int .i64 n2,int .i64 n3,int .i64 n4,int .i64 n5,int .i64 n6,int .i64 n7]] fun k6 r5=>Gb r5 fun b10=>
 Br (!b10) (Cl k6 10 #[] fun k8 r7=>Gb r7 fun b11=>
 Rt R k8 (bool b11)) (Cl k6 52 #[agg #[int .i64 n0,int .i64 n1]] fun k11 r10=>Gt 3 r10 fun cs11=>
 Cl k11 53 #[agg cs11,int .i64 (wrap .i64 n8)] fun k13 r12=>Gt 3 r12 fun cs12=>
 Cl k13 54 #[agg cs11,int .i64 (wrap .i64 n8)] fun k15 r14=>Gt 3 r14 fun cs13=>
 Cl k15 11 #[agg #[int .i64 1,int .i64 0],int .i64 (wrap .i64 (0-(wrap .i64 n8)))] fun k17 r16=>∃cs14,Seg 3 cs14∧∃cs15,Seg 3 cs15∧some (tuple #[agg cs14,agg cs15])=some r16∧
 Cl k17 55 #[agg cs12,agg cs11] fun k19 r18=>Gi r18 fun n16=>
 Br (decide ((n16:Int) > 0)) (Rt R k19 (bool false)) (Cl k19 55 #[agg cs13,agg cs11] fun k22 r21=>Gi r21 fun n17=>
 Br (decide ((n17:Int)<0)) (Rt R k22 (bool false)) (Cl k22 56 #[agg cs13,agg cs12] fun k25 r24=>Gt 3 r24 fun cs18=>
 Cl k25 57 #[agg cs18] fun k27 r26=>Gb r26 fun b19=>
 Br (!b19) (Cl k27 56 #[agg cs13,agg cs12] fun k29 r28=>Gt 3 r28 fun cs20=>
 Cl k29 58 #[agg cs20,agg cs14] fun k31 r30=>Gb r30 fun b21=>
 Br (!b21) (Rt R k31 (bool false)) (Cl k31 31 #[agg #[int .i64 n0,int .i64 n1,int .i64 n2,int .i64 n3,int .i64 n4,int .i64 n5,int .i64 n6,int .i64 n7]] fun k34 r33=>Gt 9 r33 fun cs22=>
 Cl k34 39 #[agg cs22] fun k36 r35=>∃n23:Nat,some (Value.float .f64 n23)=some r35∧
 ∀p24 k37,Up k36 k37→Sy.Blk k37 p24 63 (cs22.toList++([])).toArray→
 Cl k37 59 #[Value.float .f64 n23,(Value.pointer (some ⟨p24,0,none⟩))] fun k39 r38=>Gt 9 r38 fun cs25=>
 Cl k39 63 #[int .i64 1] fun k41 r40=>∃n26:Nat,some (Value.float .f64 n26)=some r40∧
 Cl k41 62 #[Value.float .f64 n23,Value.float .f64 n26] fun k43 r42=>∃n27:Nat,some (Value.float .f64 n27)=some r42∧
 Cl k43 59 #[Value.float .f64 n27,(Value.pointer (some ⟨p24,0,none⟩))] fun k45 r44=>Gt 9 r44 fun cs28=>
 Cl k45 61 #[agg cs25,agg cs28] fun k47 r46=>Gi r46 fun n29=>
 Br (decide ((n29:Int)≤0)) (Cl k47 59 #[Value.float .f64 n23,(Value.pointer (some ⟨p24,0,none⟩))] fun k49 r48=>Gt 9 r48 fun cs30=>
 Cl k49 63 #[int .i64 (-1)] fun k51 r50=>∃n31:Nat,some (Value.float .f64 n31)=some r50∧
 Cl k51 62 #[Value.float .f64 n23,Value.float .f64 n31] fun k53 r52=>∃n32:Nat,some (Value.float .f64 n32)=some r52∧
 Cl k53 59 #[Value.float .f64 n32,(Value.pointer (some ⟨p24,0,none⟩))] fun k55 r54=>Gt 9 r54 fun cs33=>
 Cl k55 61 #[agg cs30,agg cs33] fun k57 r56=>Gi r56 fun n34=>
 Rt R k57 (bool (decide ((n34:Int)≤0)))) (Rt R k47 (bool false)))) (Cl k27 31 #[agg #[int .i64 n0,int .i64 n1,int .i64 n2,int .i64 n3,int .i64 n4,int .i64 n5,int .i64 n6,int .i64 n7]] fun k61 r60=>Gt 9 r60 fun cs20=>
 Cl k61 39 #[agg cs20] fun k63 r62=>∃n21:Nat,some (Value.float .f64 n21)=some r62∧
 ∀p22 k64,Up k63 k64→Sy.Blk k64 p22 63 (cs20.toList++([])).toArray→
 Cl k64 59 #[Value.float .f64 n21,(Value.pointer (some ⟨p22,0,none⟩))] fun k66 r65=>Gt 9 r65 fun cs23=>
 Cl k66 63 #[int .i64 1] fun k68 r67=>∃n24:Nat,some (Value.float .f64 n24)=some r67∧
 Cl k68 62 #[Value.float .f64 n21,Value.float .f64 n24] fun k70 r69=>∃n25:Nat,some (Value.float .f64 n25)=some r69∧
 Cl k70 59 #[Value.float .f64 n25,(Value.pointer (some ⟨p22,0,none⟩))] fun k72 r71=>Gt 9 r71 fun cs26=>
 Cl k72 61 #[agg cs23,agg cs26] fun k74 r73=>Gi r73 fun n27=>
 Br (decide ((n27:Int)≤0)) (Cl k74 59 #[Value.float .f64 n21,(Value.pointer (some ⟨p22,0,none⟩))] fun k76 r75=>Gt 9 r75 fun cs28=>
 Cl k76 63 #[int .i64 (-1)] fun k78 r77=>∃n29:Nat,some (Value.float .f64 n29)=some r77∧
 Cl k78 62 #[Value.float .f64 n21,Value.float .f64 n29] fun k80 r79=>∃n30:Nat,some (Value.float .f64 n30)=some r79∧
 Cl k80 59 #[Value.float .f64 n30,(Value.pointer (some ⟨p22,0,none⟩))] fun k82 r81=>Gt 9 r81 fun cs31=>
 Cl k82 61 #[agg cs28,agg cs31] fun k84 r83=>Gi r83 fun n32=>
 Rt R k84 (bool (decide ((n32:Int)≤0)))) (Rt R k74 (bool false)))))))) :
  CallsG Tryz.prog 7 #[agg #[int .i64 n0,int .i64 n1,int .i64 n2,int .i64 n3,int .i64 n4,int .i64 n5,int .i64 n6,int .i64 n7],int .u8 n8] k R:=
  qY { opq:=[31,34,63] } h
end Go.Proofs.YtjgnlflbgmnfaaaGreat

namespace Go.Proofs.YtjgnlflbgmnfaaaGreat
open IntKind (wrap)
open Go.RowKit Num Ieee FT Plain
open Sy (Up Sees CallsG Seg)
section
variable {k k':World}{R:World→Value→Prop}{q:Rat}{w:Nat}
theorem jI (h:Nb q w):double.read w=.number (cC w) (cY w) (iK w):=by rw [nG h.lt.1,og h.fin.1]
theorem aAo (h:Nb q w):(double.order w w == some Ordering.eq)=true:=tF (by rw [jI h];intro _ _ c;cases c)
theorem wJ:double.read 9218868437227405312=.infinity false:=by decide +kernel
theorem wI:double.read 18442240474082181120=.infinity true:=by decide +kernel
theorem aMp (h:Nb q w):double.order w 9218868437227405312=some .lt:=by unfold Format.order;rw [jI h,wJ];rfl
theorem wA (h:Nb q w):double.order 9218868437227405312 w=some .gt:=by unfold Format.order;rw [jI h,wJ];rfl
theorem aMn (h:Nb q w):double.order w 18442240474082181120=some .gt:=by unfold Format.order;rw [jI h,wI];rfl
theorem vZ (h:Nb q w):double.order 18442240474082181120 w=some .lt:=by unfold Format.order;rw [jI h,wI];rfl
theorem jF (h:Nb q w) (hm:cY w≠0):double.order w 0=some (if cC w then .lt else .gt):=by
 unfold Format.order;rw [jI h,dD];unfold Datum.order;simp only [];have hp:0<cY w <<< (iK w-min (iK w) (-1074)).toNat:=by rw [vj];exact jy (zj hm) (od _)
 generalize (iK w-min (iK w) (-1074)).toNat=e at *
 unfold signed;generalize cY w <<< e=M at *
 rw [Nat.zero_shiftLeft];have c1:compare ((M:Nat):Int) 0=Ordering.gt:=by simp only [compare,compareOfLessAndEq];rw [oh oq,oh oq]
 have c2:compare (-((M:Nat):Int)) 0=Ordering.lt:=by simp only [compare,compareOfLessAndEq];rw [og oq]
 cases cC w
 ·exact congrArg some c1
 ·exact congrArg some c2
theorem yO (h:Nb q w) (hm:cY w≠0):Int.toNat (wrap .u64 (((w:Nat):Int)+1))=w+1∧Int.toNat (wrap .u64 (((w:Nat):Int)-1))=w-1:=by
 have h1:=h.lt.1;have h2:=h.fin.1;have hr:=mD w;have hf:=jS w;have hw0:w≠0:=fun e=>hm (by rw [e];rfl);have p52:(2:Nat)^52=4503599627370496:=rfl;have p64:(2:Nat)^64=18446744073709551616:=rfl;have hlt:w+1<2^64:=by
  unfold bF at *
  omega
 constructor
 ·rw [show ((w:Nat):Int)+1=((w+1:Nat):Int) by omega,wrap64 hlt,oa]
 ·rw [show ((w:Nat):Int)-1=((w-1:Nat):Int) by omega,wrap64 oq,oa]
theorem aLa (h:Nb q w) (C:∀k',Up k k'→R k' (.float .f64 (upW w))):Cl k 62 #[.float .f64 w,.float .f64 9218868437227405312] R:=by
 intro k0 u0;have ek:FloatKind.format .f64=double:=rfl;refine zP fun k1 u1=>eR fun k2 u2=>⟨_,rfl,fun g=>?_,fun _=>?_⟩
 ·rw [ek,bne,aAo h]at g;cases g
 refine fun k5 u5=>eR fun k6 u6=>⟨_,rfl,fun g=>absurd g (by decide +kernel),fun _=>⟨fun g=>?_,fun _=>⟨fun g=>?_,fun g=>⟨fun g2 k14 u14=>?_,fun g2 k15 u15=>?_⟩⟩⟩⟩
 ·rw [ek,aMp h]at g;cases g
 ·have hw:w=0:=by
   rcases h.nz with e|e
   ·exact e
   ·rw [ek,jF h e]at g;cases hs:cC w <;> rw [hs]at g <;> cases g
  subst hw;refine fun k11 u11=>zM fun k12 u12=>⟨_,rfl,fun k13 u13=>?_⟩;have key:∀z,z=upW 0→R k13 (.float .f64 z):=fun z e=>e▸C k13 (u0.trans (u1.trans (u2.trans (u5.trans (u6.trans (u11.trans (u12.trans u13)))))));exact key _ (by decide +kernel)
 ·have hm:cY w≠0:=by
   rcases h.nz with e|e
   ·subst e;exact absurd g (by decide +kernel)
   ·exact e
  rw [ek,wA h,jF h hm]at g2;have hs:cC w=false:=by
   cases hs:cC w
   ·rfl
   ·rw [hs]at g2;cases g2
  have hw0:w≠0:=fun e=>hm (by rw [e];rfl);rw [(yO h hm).1];have:=C k14 (u0.trans (u1.trans (u2.trans (u5.trans (u6.trans u14)))));unfold upW at this
  rwa [oh hw0,hs]at this
 ·have hm:cY w≠0:=by
   rcases h.nz with e|e
   ·subst e;exact absurd g (by decide +kernel)
   ·exact e
  rw [ek,wA h,jF h hm]at g2;have hs:cC w=true:=by
   cases hs:cC w
   ·rw [hs]at g2;cases g2
   ·rfl
  have hw0:w≠0:=fun e=>hm (by rw [e];rfl);rw [(yO h hm).2];have:=C k15 (u0.trans (u1.trans (u2.trans (u5.trans (u6.trans u15)))));unfold upW at this
  rwa [oh hw0,hs]at this
theorem aKz (h:Nb q w) (C:∀k',Up k k'→R k' (.float .f64 (dnW w))):Cl k 62 #[.float .f64 w,.float .f64 18442240474082181120] R:=by
 intro k0 u0;have ek:FloatKind.format .f64=double:=rfl;refine zP fun k1 u1=>eR fun k2 u2=>⟨_,rfl,fun g=>?_,fun _=>?_⟩
 ·rw [ek,bne,aAo h]at g;cases g
 refine fun k5 u5=>eR fun k6 u6=>⟨_,rfl,fun g=>absurd g (by decide +kernel),fun _=>⟨fun g=>?_,fun _=>⟨fun g=>?_,fun g=>⟨fun g2 k14 u14=>?_,fun g2 k15 u15=>?_⟩⟩⟩⟩
 ·rw [ek,aMn h]at g;cases g
 ·have hw:w=0:=by
   rcases h.nz with e|e
   ·exact e
   ·rw [ek,jF h e]at g;cases hs:cC w <;> rw [hs]at g <;> cases g
  subst hw;refine fun k11 u11=>zM fun k12 u12=>⟨_,rfl,fun k13 u13=>?_⟩;have key:∀z,z=dnW 0→R k13 (.float .f64 z):=fun z e=>e▸C k13 (u0.trans (u1.trans (u2.trans (u5.trans (u6.trans (u11.trans (u12.trans u13)))))));exact key _ (by decide +kernel)
 ·have hm:cY w≠0:=by
   rcases h.nz with e|e
   ·subst e;exact absurd g (by decide +kernel)
   ·exact e
  rw [ek,vZ h,jF h hm]at g2;have hs:cC w=true:=by
   cases hs:cC w
   ·rw [hs]at g2;cases g2
   ·rfl
  have hw0:w≠0:=fun e=>hm (by rw [e];rfl);rw [(yO h hm).1];have:=C k14 (u0.trans (u1.trans (u2.trans (u5.trans (u6.trans u14)))));unfold dnW at this
  rwa [oh hw0,hs]at this
 ·have hm:cY w≠0:=by
   rcases h.nz with e|e
   ·subst e;exact absurd g (by decide +kernel)
   ·exact e
  rw [ek,vZ h,jF h hm]at g2;have hs:cC w=false:=by
   cases hs:cC w
   ·rfl
   ·rw [hs]at g2;cases g2
  have hw0:w≠0:=fun e=>hm (by rw [e];rfl);rw [(yO h hm).2];have:=C k15 (u0.trans (u1.trans (u2.trans (u5.trans (u6.trans u15)))));unfold dnW at this
  rwa [oh hw0,hs]at this
end
open Go.RowKit Num Ieee FT Plain W32
theorem aCg (q:Rat) (k:Nat):gZ q k≤q∧q≤-gZ (-q) k∧(-gZ (-q) k-gZ q k=0∨-gZ (-q) k-gZ q k=1/((2^k:Nat):Rat)):=by
 unfold gZ;rw [Rat.neg_num,Rat.neg_den];have hP:(0:Rat)<((2^k:Nat):Rat):=ji.2 (od k);have hd:(0:Rat)<(q.den:Rat):=ji.2 q.den_pos;have hdI:(0:Int)<(q.den:Int):=by have:=q.den_pos;omega
 have hq:=dV q;rw [vz,vz];have a1:=Int.ediv_mul_le (q.num*((2^k:Nat):Int)) (Int.ne_of_gt hdI);have a2:=Int.lt_ediv_add_one_mul_self (q.num*((2^k:Nat):Int)) hdI;have b1:=Int.ediv_mul_le (-q.num*((2^k:Nat):Int)) (Int.ne_of_gt hdI);have b2:=Int.lt_ediv_add_one_mul_self (-q.num*((2^k:Nat):Int)) hdI;generalize q.num*((2^k:Nat):Int) / (q.den:Int)=f at *
 generalize -q.num*((2^k:Nat):Int) / (q.den:Int)=g at *
 have s1:(f+g)*(q.den:Int)≤0:=by rw [Int.add_mul];rw [wv]at b1;omega
 have s2:0<(f+g+2)*(q.den:Int):=by
  rw [wv]at b2;have e:(f+g+2)*(q.den:Int)=(f+1)*(q.den:Int)+(g+1)*(q.den:Int):=by rw [←Int.add_mul];congr 1;omega
  rw [e];omega
 have t1:f+g≤0:=Int.not_lt.1 fun c=>by
  have:=Int.mul_pos c hdI;omega
 have t2:0<f+g+2:=Int.pos_of_mul_pos_left s2 hdI |> fun h=>h;have A1:(f:Rat)*(q.den:Rat)≤(q.num:Rat)*((2^k:Nat):Rat):=by
  have:((f*(q.den:Int):Int):Rat)≤((q.num*((2^k:Nat):Int):Int):Rat):=zz.2 a1;rw [jc,jc]at this;exact this
 have B1:(g:Rat)*(q.den:Rat)≤-((q.num:Rat)*((2^k:Nat):Rat)):=by
  have:((g*(q.den:Int):Int):Rat)≤((-q.num*((2^k:Nat):Int):Int):Rat):=zz.2 b1;rw [jc,jc,jx,Rat.neg_mul]at this;exact this
 have hfg:f+g=0∨f+g=-1:=oq
 have hfgR:(f:Rat)+(g:Rat)=0∨(f:Rat)+(g:Rat)=-1:=by
  rcases hfg with h|h
  ·left
   have:=congrArg (fun z:Int=>(z:Rat)) h;simp only [zk]at this;exact this
  ·right
   have:=congrArg (fun z:Int=>(z:Rat)) h;simp only [zk]at this;exact this
 generalize ((2^k:Nat):Rat)=P at *
 have d1:(f:Rat) / P*P=f:=jm (by grind);have d2:(g:Rat) / P*P=g:=jm (by grind);have d3:1/P*P=1:=jm (by grind);generalize (f:Rat) / P=x at *
 generalize (g:Rat) / P=y at *
 generalize 1/P=i at *
 refine⟨?_,?_,?_⟩
 ·refine uq.1 fun c=>?_;have c:=(vm (kn hP hd)).2 c;have e1:x*(P*(q.den:Rat))=(f:Rat)*(q.den:Rat):=by rw [←d1];grind
  have e2:q*(P*(q.den:Rat))=(q.num:Rat)*P:=by rw [←hq];grind
  rw [e1,e2]at c;exact uy.2 c A1
 ·refine uq.1 fun c=>?_;have c:=(vm (kn hP hd)).2 c;have e1:-y*(P*(q.den:Rat))=-((g:Rat)*(q.den:Rat)):=by rw [←d2];grind
  have e2:q*(P*(q.den:Rat))=(q.num:Rat)*P:=by rw [←hq];grind
  rw [e1,e2]at c
  grind
 ·have z1:(-y-x)*P=-((f:Rat)+g):=by rw [←d1,←d2];grind
  rcases hfgR with h|h
  ·left
   rw [h]at z1;have:(-y-x)*P=0:=by grind
   rcases ke.1 this with h|h <;> grind
  ·right
   rw [h]at z1;have:(-y-x-i)*P=0:=by grind
   rcases ke.1 this with h|h <;> grind
section
variable {k k':World}{R:World→Value→Prop}{q:Rat}{w K:Nat}{cs cs':Array Value}{v:Q4}
theorem aEu {p:Nat}(hs:SurdV k cs v 6) (hb:Sy.Blk k p 63 (cs.toList++([])).toArray) (hn:w<2^64) (C:∀k' ds,Up k k'→SurdV k' ds (dist v (gF w)) 2415→R k' (.agg ds)) :
 Cl k 59 #[.float .f64 w,.pointer (some ⟨p,0,none⟩)] R:=by
 intro k0 u0;refine aQz hs.seg (hb.up u0) ?_;refine aOt hn fun k1 d1 u1 h1=>⟨d1,h1.seg,_,rfl,?_⟩;refine aTa (hs.up (u0.trans u1)) h1 fun k3 d3 u3 h3=>⟨d3,h3.seg,rfl,?_⟩;refine aTx (K:=6) (L:=1200) (hs.up (u0.trans (u1.trans u3))) h3 oz oz oz oz fun k5 d5 u5 h5=>⟨d5,h5.seg,rfl,?_⟩;refine aTu h5 h5 oz oz oz oz fun k7 d7 u7 h7=>⟨d7,h7.seg,rfl,fun k8 u8=>?_⟩;exact C k8 d7 (u0.trans (u1.trans (u3.trans (u5.trans (u7.trans u8))))) (h7.up u8)
theorem aVb (C:∀k',Up k k'→R k' (.float .f64 9218868437227405312)):Cl k 63 #[.int .i64 1] R:=
 fun _ u0=>xG ⟨fun _ k1 u1=>C k1 (u0.trans u1),fun g=>absurd g oz⟩
theorem aQs (C:∀k',Up k k'→R k' (.float .f64 18442240474082181120)):Cl k 63 #[.int .i64 (-1)] R:=
 fun _ u0=>xG ⟨fun g=>absurd g oz,fun _ k1 u1=>C k1 (u0.trans u1)⟩
theorem aDg {a b c d:Rat}{j:Nat}(h0:Pw a j) (h1:Pw b j) (h2:Pw c j) (h3:Pw d j) (hj:j=63) :
 nn ((⟨a,b,c,d⟩:Q4).sub (Q4.real (-((2^66:Nat):Rat))))∧nn ((Q4.real ((2^66:Nat):Rat)).sub (⟨a,b,c,d⟩:Q4)):=by
 have e0:=xU a h0.1;have e1:=xU b h1.1;have e2:=xU c h2.1;have e3:=xU d h3.1;have h:=kR (x:=⟨a,b,c,d⟩) e0.1 e0.2 e1.1 e1.2 e2.1 e2.2 e3.1 e3.2;have e:8*((2^j:Nat):Rat)=((2^66:Nat):Rat):=by
  rw [hj];decide +kernel
 rw [e]at h;refine⟨bZ h.2 ?_,h.1⟩;refine Q4.ext' ?_ ?_ ?_ ?_ <;> simp only [Q4.sub,Q4.add,Q4.neg,Q4.real] <;> grind
theorem aEk {n0 n1 n2 n3 n4 n5 n6 n7:Int}(i0:In64 n0) (i1:In64 n1) (i2:In64 n2) (i3:In64 n3) (i4:In64 n4) (i5:In64 n5) (i6:In64 n6) (i7:In64 n7) (C:∀k',Up k k'→R k' (.bool true)) :
 ∀k0,Up k k0→(Cl k0 31 #[Value.agg #[Value.int .i64 n0,Value.int .i64 n1,Value.int .i64 n2,Value.int .i64 n3,Value.int .i64 n4,Value.int .i64 n5,Value.int .i64 n6,Value.int .i64 n7]] fun k34 r33=>Gt 9 r33 fun cs22=>
 Cl k34 39 #[Value.agg cs22] fun k36 r35=>∃n23:Nat,some (Value.float .f64 n23)=some r35∧
 ∀p24 k37,Up k36 k37→Sy.Blk k37 p24 63 (cs22.toList++([])).toArray→
 Cl k37 59 #[Value.float .f64 n23,(Value.pointer (some ⟨p24,0,none⟩))] fun k39 r38=>Gt 9 r38 fun cs25=>
 Cl k39 63 #[Value.int .i64 1] fun k41 r40=>∃n26:Nat,some (Value.float .f64 n26)=some r40∧
 Cl k41 62 #[Value.float .f64 n23,Value.float .f64 n26] fun k43 r42=>∃n27:Nat,some (Value.float .f64 n27)=some r42∧
 Cl k43 59 #[Value.float .f64 n27,(Value.pointer (some ⟨p24,0,none⟩))] fun k45 r44=>Gt 9 r44 fun cs28=>
 Cl k45 61 #[Value.agg cs25,Value.agg cs28] fun k47 r46=>∃n29,some (Value.int .i64 n29)=some r46∧
 ((decide ((n29:Int)≤0))=true→
 (Cl k47 59 #[Value.float .f64 n23,(Value.pointer (some ⟨p24,0,none⟩))] fun k49 r48=>Gt 9 r48 fun cs30=>
 Cl k49 63 #[Value.int .i64 (-1)] fun k51 r50=>∃n31:Nat,some (Value.float .f64 n31)=some r50∧
 Cl k51 62 #[Value.float .f64 n23,Value.float .f64 n31] fun k53 r52=>∃n32:Nat,some (Value.float .f64 n32)=some r52∧
 Cl k53 59 #[Value.float .f64 n32,(Value.pointer (some ⟨p24,0,none⟩))] fun k55 r54=>Gt 9 r54 fun cs33=>
 Cl k55 61 #[Value.agg cs30,Value.agg cs33] fun k57 r56=>∃n34,some (Value.int .i64 n34)=some r56∧
 ∀k58,Up k57 k58→R k58 (Value.bool (decide ((n34:Int)≤0)))))∧
 ((decide ((n29:Int)≤0))=false→
 (∀k59,Up k47 k59→R k59 (Value.bool false)))):=by
  intro k0 u0;refine fun k33 u33=>aJs i0 i1 i2 i3 i4 i5 i6 i7 (k:=k33) (fun k34 d34 u34 h34=>⟨d34,h34.seg,rfl,?_⟩) k33 (Up.refl _);refine aOu h34 oz oz fun k36 W u36 hW=>⟨_,rfl,?_⟩;intro p24 k37 u37 hB;have hq:=aDg (tC i0 i1) (tC i2 i3) (tC i4 i5) (tC i6 i7) rfl;obtain⟨_,_,_,_,hN,_⟩:=hW.beside hq.1 hq.2;obtain⟨f1,f2⟩:=hW.far hq.1 hq.2;have hS:=(h34.up u36).up u37;generalize (⟨ofQ n0 n1,ofQ n2 n3,ofQ n4 n5,ofQ n6 n7⟩:Q4)=v at *
  refine aEu hS hB hN.lt.1 fun k39 d39 u39 h39=>⟨d39,h39.seg,rfl,?_⟩;refine aVb fun k41 u41=>⟨_,rfl,?_⟩;refine aLa hN fun k43 u43=>⟨_,rfl,?_⟩;have v43:=u39.trans (u41.trans u43);refine aEu (hS.up v43) (hB.up v43) hN.lt.2.1 fun k45 d45 u45 h45=>⟨d45,h45.seg,rfl,?_⟩;have v45:=v43.trans u45;refine aJx (h39.up (u41.trans (u43.trans u45))) h45 oz oz fun k47 u47=>⟨_,rfl,fun _=>?_,fun g=>?_⟩
  ·have v47:=v45.trans u47;refine aEu (hS.up v47) (hB.up v47) hN.lt.1 fun k49 d49 u49 h49=>⟨d49,h49.seg,rfl,?_⟩;refine aQs fun k51 u51=>⟨_,rfl,?_⟩;refine aKz hN fun k53 u53=>⟨_,rfl,?_⟩;have v53:=v47.trans (u49.trans (u51.trans u53));refine aEu (hS.up v53) (hB.up v53) hN.lt.2.2 fun k55 d55 u55 h55=>⟨d55,h55.seg,rfl,?_⟩;refine aJx (h49.up (u51.trans (u53.trans u55))) h55 oz oz fun k57 u57=>⟨_,rfl,fun k58 u58=>?_⟩;rw [decide_eq_true f2];exact C k58 (u0.trans (u33.trans (u34.trans (u36.trans (u37.trans (v53.trans (u55.trans (u57.trans u58))))))))
  ·exact absurd f1 (ov g)
theorem aLg (i:Nat):1/((2^i:Nat):Rat) / ((2:Int):Rat)=1/((2^(i+1):Nat):Rat):=by
 have hP:(0:Rat)<((2^i:Nat):Rat):=ji.2 (od i);rw [ql,ja];have h2:((2:Nat):Rat)=2:=rfl;have h3:((2:Int):Rat)=2:=rfl;rw [h2,h3];generalize ((2^i:Nat):Rat)=P at *
 have e1:1/P/2*(P*2)=1:=by
  have a:1/P/2*2=1/P:=jm (by grind);have b:1/P*P=1:=jm (by grind)
  grind
 have e2:1/(P*2)*(P*2)=1:=jm (by grind);have:(1/P/2-1/(P*2))*(P*2)=0:=by grind
 rcases ke.1 this with h|h <;> grind
theorem aNp {e:Int}{m0:Nat}(he:e=-(m0:Int)) (hm0:m0≤1200) (C:∀k' ds ds' q,Up k k'→RatV k' ds (1/((2^m0:Nat):Rat)) 39→QV k' ds' q 77→R k' (.tuple #[.agg ds,.agg ds'])) :
 Cl k 11 #[.agg #[.int .i64 1,.int .i64 0],.int .i64 e] R:=by
 intro k0 u0;replace C:=fun k' ds ds' q u=>C k' ds ds' q (u0.trans u);clear u0;have hn:In64 1:=⟨oz,oz⟩;have hd:In64 0:=⟨oz,oz⟩;have hw:=tC hn hd;refine aJb (aGh hn hd fun k1 d1 u1 hx=>⟨d1,hx.seg,rfl,?_⟩);refine aXv hn hd fun k2 d2 u2 hp=>⟨d2,hp.seg,rfl,?_⟩;refine wV (z:=2) oz oz fun k3 d3 u3 ht=>⟨d3,ht.seg,rfl,?_⟩;refine aSs (z:=2) oz oz fun k4 d4 u4 hu=>⟨d4,hu.seg,rfl,?_⟩;replace hx:=((hx.up u2).up u3).up u4;replace hp:=(hp.up u3).up u4;replace ht:=ht.up u4;replace C:=fun k' ds ds' q u=>C k' ds ds' q ((((u1.trans u2).trans u3).trans u4).trans u);clear u1 u2 u3 u4;have e1:ofQ 1 0=1/((2^0:Nat):Rat):=by decide +kernel
 rw [e1]at hx hp hw;refine⟨fun m k' vs=>m=0∧vs=[.agg d1,.agg d2,.int .i64 e],⟨0,fun k' _=>⟨rfl,rfl⟩⟩,?_⟩;rintro m k8 vs u8 ⟨rfl,rfl⟩;refine⟨d1,hx.seg,d2,hp.seg,_,rfl,fun h=>?_,fun _=>?_⟩
 ·have:=ow h;omega
 replace hx:=hx.up u8;replace hp:=hp.up u8;replace ht:=ht.up u8;replace hu:=hu.up u8;replace C:=fun k' ds ds' q u=>C k' ds ds' q (u8.trans u);clear u8;refine⟨fun m k' vs=>∃c c' q,∃i:Nat,i≤m0∧Pw (1/((2^i:Nat):Rat)) (63+i)∧m=m0-i∧vs=[.agg c,.agg c',.int .i64 (-((m0-i:Nat):Int))]∧RatV k' c (1/((2^i:Nat):Rat)) 39∧QV k' c' q 77∧Pw q (63+i),⟨m0,fun k' u=>⟨d1,d2,_,0,oq,hw,oq,by rw [he,Nat.sub_zero],(hx.up u).mono oz,(hp.up u).mono oz,hw⟩⟩,?_⟩;rintro m k14 vs u14 ⟨c10,c11,q,i,hi,hq,hm,rfl,hx,hp,hq2⟩;refine⟨c10,hx.seg,c11,hp.seg,_,rfl,fun h=>?_,fun h=>fun k20 u20=>?_⟩
 ·have hlt:=ow h;refine aTo hx ((ht.up u14).mono oz) oz oz fun k16 d16 u16 h16=>⟨d16,h16.seg,_,rfl,?_⟩;refine aXq (hp.up u16) ((hu.up u14).up u16) oz oz oz fun k18 d18 u18 h18=>⟨d18,h18.seg,rfl,fun k19 u19=>?_⟩;have hq':=hq.half;have hq2':=hq2.half;rw [aLg]at h16 hq';have ew:wrap .i64 (-((m0-i:Nat):Int)+1)=-((m0-(i+1):Nat):Int):=by rw [qa];omega
  rw [ew];exact⟨m-1,oq,d16,d18,_,i+1,oq,hq',oq,rfl,hq'.fit64 oq ((h16.up u18).up u19),hq2'.fit32 oq (h18.up u19),hq2'⟩
 ·have h:=ov h;have ei:i=m0:=oq
  rw [ei]at hx;exact C k20 _ _ q (u14.trans u20) (hx.up u20) (hp.up u20)
theorem aKi {n0 n1 n2 n3 n4 n5 n6 n7 n8:Int}(i0:In64 n0) (i1:In64 n1) (i2:In64 n2) (i3:In64 n3) (i4:In64 n4) (i5:In64 n5) (i6:In64 n6) (i7:In64 n7) (i8:0≤n8∧n8≤255) (C:∀k',Up k k'→R k' (.bool true)) :
 Cl k 7 #[.agg #[.int .i64 n0,.int .i64 n1,.int .i64 n2,.int .i64 n3,.int .i64 n4,.int .i64 n5,.int .i64 n6,.int .i64 n7],.int .u8 n8] R:=by
 intro k0 u0;replace C:=fun k' u=>C k' (u0.trans u);clear u0;refine aCl (aEf fun k1 u1=>⟨_,rfl,fun h=>(nomatch h),fun _=>?_⟩)
 refine aSl fun k6 b6 u6=>⟨_,rfl,fun _=>?_,fun _=>?_⟩
 ·exact aEf fun k8 u8=>⟨_,rfl,fun k9 u9=>C k9 (u1.trans (u6.trans (u8.trans u9)))⟩
 have w1:wrap .i64 n8=n8:=by rw [qa];omega
 have w2:wrap .i64 (0-n8)=0-n8:=by rw [qa];omega
 rw [w1,w2];refine aGh i0 i1 fun k11 d11 u11 q11=>⟨d11,q11.seg,rfl,?_⟩;generalize ofQ n0 n1=x at q11;refine yR q11 oz oz fun k13 d13 u13 q13=>⟨d13,q13.seg,rfl,?_⟩;refine aPc (q11.up u13) oz oz fun k15 d15 u15 q15=>⟨d15,q15.seg,rfl,?_⟩;have hk:jQ n8=n8.toNat:=by unfold jQ;omega
 rw [hk]at q13 q15;refine aNp (m0:=n8.toNat) oq oq fun k17 d17 e17 q u17 q17 r17=>⟨d17,q17.seg,e17,r17.seg,rfl,?_⟩;obtain⟨f1,f2,f3⟩:=aCg x n8.toNat;generalize gZ x n8.toNat=lo at *
 generalize -gZ (-x) n8.toNat=hi at *
 have hlo:¬ ((lo-x).num.sign > 0):=fun c=>by
  have:=aWb.1 c
  grind
 have hhi:¬ ((hi-x).num.sign<0):=fun c=>by
  have:=aWc.1 c
  grind
 replace q13:=q13.up (u15.trans u17);replace q15:=q15.up u17;replace q11:=q11.up (u13.trans (u15.trans u17));refine aJu (K:=1002) (q13.mono oz) (q11.mono oz) oz oz fun k19 u19=>⟨_,rfl,fun g=>absurd (ow g) hlo,fun _=>?_⟩;refine aJu (K:=1002) ((q15.mono oz).up u19) ((q11.mono oz).up u19) oz oz fun k22 u22=>⟨_,rfl,fun g=>absurd (ow g) hhi,fun _=>?_⟩;have v22:=u19.trans u22;refine aJw (q15.up v22) (q13.up v22) oz oz fun k25 d25 u25 q25=>⟨d25,q25.seg,rfl,?_⟩;have v17:=u1.trans (u6.trans (u11.trans (u13.trans (u15.trans u17))));refine nJ q25 oz fun k27 u27=>⟨_,rfl,fun g=>?_,fun _=>?_⟩
 ·have v27:=v22.trans (u25.trans u27);refine aJw (q15.up v27) (q13.up v27) oz oz fun k29 d29 u29 q29=>⟨d29,q29.seg,rfl,?_⟩;refine aPd (K:=2005) (q29.mono oz) ((q17.up (v27.trans u29)).mono oz) oz oz fun k31 u31=>⟨_,rfl,fun g2=>?_,fun _=>?_⟩
  ·exfalso;rcases f3 with f3|f3
   ·rw [f3]at g;exact absurd g oz
   ·rw [decide_eq_true f3]at g2;cases g2
  ·exact aEk i0 i1 i2 i3 i4 i5 i6 i7 (fun k' u=>C k' (v17.trans (v27.trans (u29.trans (u31.trans u))))) k31 (Up.refl _)
 ·exact aEk i0 i1 i2 i3 i4 i5 i6 i7 (fun k' u=>C k' (v17.trans (v22.trans (u25.trans (u27.trans u))))) k27 (Up.refl _)
end
