/- Several texts in one. (Printed by prep.py.) -/
import Derived.Test.YtmifbgccpdmjpaaGreatTbPO
import Derived.Test.YtmifbgccpdmjpaaGreatTbR2
namespace Go.Proofs.YtmifbgccpdmjpaaGreat
open IntKind (wrap)
open Go.RowKit
open Value (agg slice int bool tuple)
open Sy (Up Sees CallsG Seg execFn_use)
set_option maxRecDepth 100000
variable {k:World}{R:World→Value→Prop}{cs0 cs1:Array Value}
theorem aRl (hcs0:Seg 9 cs0) (hcs1:Seg 9 cs1)
 (h:∃I0:Nat→World→List Value→Prop,(∃m0,∀k0,Up k k0→I0 m0 k0 [int .i64 0,int .i64 1,agg cs0])∧
 ∀m0 k0 vs0,Up k k0→I0 m0 k0 vs0→∃n2,∃n3,∃cs4,Seg 9 cs4∧some [int .i64 n2,int .i64 n3,agg cs4]=some vs0∧
 Br (decide ((n3:Int)<24)) (Cl k0 177 #[int .i64 (wrap .i64 (0-n3))] fun k2 r1=>∃cs5,Seg 9 cs5∧∃cs6,Seg 9 cs6∧some (agg (cs5.toList++(cs6.toList++([]))).toArray)=some r1∧
 Cl k2 175 #[agg (cs0.toList++(cs1.toList++([]))).toArray,agg (cs5.toList++(cs6.toList++([]))).toArray] fun k4 r3=>∃cs7,Seg 9 cs7∧∃cs8,Seg 9 cs8∧some (agg (cs7.toList++(cs8.toList++([]))).toArray)=some r3∧
 Cl k4 73 #[agg cs7,agg cs4] fun k6 r5=>Gi r5 fun n9=>
 Br (decide ((n9:Int) > 0)) (∀k7,Up k6 k7→∃m,m<m0∧I0 m k7 [int .i64 n3,int .i64 (wrap .i64 (n3+1)),agg cs7]) (∀k8,Up k6 k8→∃m,m<m0∧I0 m k8 [int .i64 n2,int .i64 (wrap .i64 (n3+1)),agg cs4])) (Rt R k0 (tuple #[int .i64 n2,agg cs4]))) :
  CallsG Tryz.prog 179 #[agg (cs0.toList++(cs1.toList++([]))).toArray] k R:=
  qX { opq:=[36],loops:=[(0,[.tmp 5 false [.int .i64],.tmp 6 false [.int .i64],.blk 2 [.seg 9]])] } [.agg [.seg 0 9,.seg 1 9]] [agg cs0,agg cs1] [.seg 9,.seg 9] ⟨⟨cs0,rfl,hcs0⟩,⟨cs1,rfl,hcs1⟩,trivial⟩ h
end Go.Proofs.YtmifbgccpdmjpaaGreat

namespace Go.Proofs.YtmifbgccpdmjpaaGreat
open IntKind (wrap)
open Go.RowKit Num Plain
open Sy (Up Sees CallsG Seg)
section
variable {k k':World}{R:World→Value→Prop}{K L:Nat}{cs cs':Array Value}{x y:W4}{v v':Q4}
theorem aNw {j:Nat}(hj:j<24):plc (wrap .i64 (0-(j:Int)))=(24-j) % 24:=by
 have hw:wrap .i64 (0-(j:Int))=0-(j:Int):=by rw [je];omega
 rw [hw];unfold plc;omega
theorem lY {j:Nat}(hj:j<100):wrap .i64 ((j:Int)+1)=((j+1:Nat):Int):=by rw [je];omega
theorem aMh (hx:WaveV k cs x K) (hK1:1≤K) (hK:K≤1000000) (C:∀k' ds,Up k k'→SurdV k' ds (hi x 23).2 (4*K+9)→R k' (.tuple #[.int .i64 ((hi x 23).1:Int),.agg ds])) :
 Cl k 179 #[.agg cs] R:=by
 intro k0 u0;replace hx:=hx.up u0;replace C:=fun k' ds u=>C k' ds (u0.trans u);have hx':=hx;obtain⟨a,b,rfl,a0,b0⟩:=hx';refine aRl a0.seg b0.seg ⟨fun m k' vs=>∃j c,j≤23∧m=23-j∧vs=[.int .i64 ((hi x j).1:Int),.int .i64 ((j+1:Nat):Int),.agg c]∧SurdV k' c (hi x j).2 (4*K+9),⟨23,fun k' u=>⟨0,a,oq,rfl,rfl,(a0.up u).mono oq⟩⟩,?_⟩;rintro m k1 vs u1 ⟨j,c,hj,rfl,rfl,hb⟩;refine⟨_,_,c,hb.seg,rfl,fun hlt=>?_,fun hge k9 u9=>?_⟩
 ·have hlt:=ow hlt;refine yP fun k2 d2 u2 hT=>?_;rw [aNw (j:=j+1) oq]at hT;have hT':=hT;obtain⟨p,q,rfl,p0,q0⟩:=hT';refine⟨p,p0.seg,q,q0.seg,rfl,?_⟩;refine aCa ((hx.up u1).up u2) (hT.mono hK1) hK1 oq fun k4 d4 u4 hM=>?_;obtain⟨r,s,rfl,r0,s0⟩:=hM;refine⟨r,r0.seg,s,s0.seg,rfl,?_⟩;refine aLb r0 ((hb.up u2).up u4) oq oq fun k6 u6=>⟨_,rfl,fun hc=>?_,fun hc=>?_⟩
  ·have hc:0<sgd (fAt x (j+1)) (hi x j).2:=ow hc;have e:hi x (j+1)=(j+1,fAt x (j+1)):=by show (if _ then _ else _)=_;rw [od hc]
   intro k7 u7;refine⟨23-(j+1),oq,j+1,r,oq,rfl,?_,?_⟩
   ·rw [e,lY oq]
   ·rw [e];exact (r0.up u6).up u7
  ·have hc:¬ 0<sgd (fAt x (j+1)) (hi x j).2:=ov hc;have e:hi x (j+1)=hi x j:=by show (if _ then _ else _)=_;rw [oh hc]
   intro k7 u7;refine⟨23-(j+1),oq,j+1,c,oq,rfl,?_,?_⟩
   ·rw [e,lY oq]
   ·rw [e];exact (((hb.up u2).up u4).up u6).up u7
 ·have hge:=ov hge;have e:j=23:=oq
  subst e;exact C k9 c (u1.trans u9) (hb.up u9)
end
open Value (agg slice int bool tuple)
open Sy (Up Sees CallsG Seg execFn_use)
set_option maxRecDepth 100000
variable {k:World}{R:World→Value→Prop}{cs0 cs1 cs2 cs3:Array Value}{n0 n1 n2 n3 n4 n5:Int}
theorem aUc (hcs0:Seg 18 cs0) (hcs1:Seg 18 cs1)
 (h:Cl k 177 #[int .i64 n2] fun k1 r0=>Gt 18 r0 fun cs3=>
 Cl k1 175 #[agg cs1,agg cs3] fun k3 r2=>Gt 18 r2 fun cs4=>
 Cl k3 287 #[agg cs0,agg cs4] fun k5 r4=>Gt 18 r4 fun cs5=>
 Rt R k5 (agg cs5)) :
  CallsG Tryz.prog 178 #[agg cs0,agg cs1,int .i64 n2] k R:=
  qX { opq:=[89] } [.agg [.seg 0 18],.agg [.seg 1 18],.one (.var 2)] [agg cs0,agg cs1,int .i64 n2] [.seg 18,.seg 18,.int .i64] ⟨⟨cs0,rfl,hcs0⟩,⟨cs1,rfl,hcs1⟩,⟨_,rfl⟩,trivial⟩ h
theorem aMu (hcs0:Seg 18 cs0) (hcs1:Seg 18 cs1)
 (h:Cl k 174 #[agg cs0] fun k1 r0=>Gt 18 r0 fun cs2=>
 Cl k1 175 #[agg cs2,agg cs1] fun k3 r2=>Gt 18 r2 fun cs3=>
 Cl k3 117 #[agg cs3] fun k5 r4=>Gt 9 r4 fun cs4=>
 Cl k5 176 #[agg cs3] fun k7 r6=>Gt 9 r6 fun cs5=>
 ∃I8:Nat→World→List Value→Prop,(∃m8,∀k8,Up k7 k8→I8 m8 k8 [int .i64 0,int .i64 1,agg cs4])∧
 ∀m8 k8 vs8,Up k7 k8→I8 m8 k8 vs8→∃n6,∃n7,∃cs8,Seg 9 cs8∧some [int .i64 n6,int .i64 n7,agg cs8]=some vs8∧
 Br (decide ((n7:Int)<24)) (Cl k8 177 #[int .i64 n7] fun k10 r9=>Gt 18 r9 fun cs9=>
 Cl k10 117 #[agg cs9] fun k12 r11=>Gt 9 r11 fun cs10=>
 Cl k12 91 #[agg cs4,agg cs10] fun k14 r13=>Gt 9 r13 fun cs11=>
 Cl k14 176 #[agg cs9] fun k16 r15=>Gt 9 r15 fun cs12=>
 Cl k16 91 #[agg cs5,agg cs12] fun k18 r17=>Gt 9 r17 fun cs13=>
 Cl k18 113 #[agg cs11,agg cs13] fun k20 r19=>Gt 9 r19 fun cs14=>
 Cl k20 73 #[agg cs14,agg cs8] fun k22 r21=>Gi r21 fun n15=>
 Br (decide ((n15:Int)<0)) (∀k23,Up k22 k23→∃m,m<m8∧I8 m k23 [int .i64 n7,int .i64 (wrap .i64 (n7+1)),agg cs14]) (∀k24,Up k22 k24→∃m,m<m8∧I8 m k24 [int .i64 n6,int .i64 (wrap .i64 (n7+1)),agg cs8])) (Cl k8 178 #[agg cs0,agg cs1,int .i64 n6] fun k26 r25=>Gt 18 r25 fun cs9=>
 Cl k26 33 #[agg cs9] fun k28 r27=>Gt 9 r27 fun cs10=>
 Rt R k28 (agg ((int .i64 n6) :: (cs10.toList++([]))).toArray))) :
  CallsG Tryz.prog 70 #[agg cs0,agg cs1] k R:=
  qX { opq:=[89,36],loops:=[(0,[.tmp 8 false [.int .i64],.tmp 10 false [.int .i64],.blk 6 [.seg 9]])] } [.agg [.seg 0 18],.agg [.seg 1 18]] [agg cs0,agg cs1] [.seg 18,.seg 18] ⟨⟨cs0,rfl,hcs0⟩,⟨cs1,rfl,hcs1⟩,trivial⟩ h
theorem aUb (hcs0:Seg 18 cs0) (hcs1:Seg 18 cs1)
 (h:Cl k 179 #[agg cs0] fun k1 r0=>∃n2,∃cs3,Seg 9 cs3∧some (tuple #[int .i64 n2,agg cs3])=some r0∧
 Cl k1 179 #[agg cs1] fun k3 r2=>∃n4,∃cs5,Seg 9 cs5∧some (tuple #[int .i64 n4,agg cs5])=some r2∧
 Rt R k3 (int .i64 (Int.tmod (wrap .i64 ((wrap .i64 ((wrap .i64 (n2+12))-n4))+24)) 24))) :
  CallsG Tryz.prog 71 #[agg cs0,agg cs1] k R:=
  qX { opq:=[89,36] } [.agg [.seg 0 18],.agg [.seg 1 18]] [agg cs0,agg cs1] [.seg 18,.seg 18] ⟨⟨cs0,rfl,hcs0⟩,⟨cs1,rfl,hcs1⟩,trivial⟩ h
theorem aVe 
 (h:Rt R k (agg #[int .i64 (wrap .i64 n0),int .i64 4,int .i64 (wrap .i64 n1),int .i64 4,int .i64 (wrap .i64 n2),int .i64 4,int .i64 0,int .i64 0])) :
 CallsG Tryz.prog 171 #[agg #[int .i8 n0,int .i8 n1,int .i8 n2]] k R:=
 qY { opq:=[] } h
theorem aZb 
 (h:Cl k 171 #[agg #[int .i8 n0,int .i8 n1,int .i8 n2]] fun k1 r0=>∃n6,∃n7,∃n8,∃n9,∃n10,∃n11,∃n12,∃n13,some (agg #[int .i64 n6,int .i64 n7,int .i64 n8,int .i64 n9,int .i64 n10,int .i64 n11,int .i64 n12,int .i64 n13])=some r0∧
 Cl k1 171 #[agg #[int .i8 n3,int .i8 n4,int .i8 n5]] fun k3 r2=>∃n14,∃n15,∃n16,∃n17,∃n18,∃n19,∃n20,∃n21,some (agg #[int .i64 n14,int .i64 n15,int .i64 n16,int .i64 n17,int .i64 n18,int .i64 n19,int .i64 n20,int .i64 n21])=some r2∧
 Cl k3 172 #[agg #[int .i64 n6,int .i64 n7,int .i64 n8,int .i64 n9,int .i64 n10,int .i64 n11,int .i64 n12,int .i64 n13,int .i64 n14,int .i64 n15,int .i64 n16,int .i64 n17,int .i64 n18,int .i64 n19,int .i64 n20,int .i64 n21]] fun k5 r4=>Gt 18 r4 fun cs22=>
 Cl k5 173 #[agg #[int .i64 n6,int .i64 n7,int .i64 n8,int .i64 n9,int .i64 n10,int .i64 n11,int .i64 n12,int .i64 n13,int .i64 n14,int .i64 n15,int .i64 n16,int .i64 n17,int .i64 n18,int .i64 n19,int .i64 n20,int .i64 n21]] fun k7 r6=>Gt 24 r6 fun cs23=>
 Rt R k7 (tuple #[agg cs22,agg cs23])) :
  CallsG Tryz.prog 69 #[agg #[int .i8 n0,int .i8 n1,int .i8 n2,int .i8 n3,int .i8 n4,int .i8 n5]] k R:=
  qY { opq:=[89,56] } h
theorem aIc
 (h:Cl k 69 #[agg #[int .i8 12,int .i8 0,int .i8 0,int .i8 0,int .i8 0,int .i8 0]] fun k1 r0=>∃cs0,Seg 18 cs0∧∃cs1,Seg 24 cs1∧some (tuple #[agg cs0,agg cs1])=some r0∧
 Cl k1 69 #[agg #[int .i8 0,int .i8 0,int .i8 0,int .i8 8,int .i8 0,int .i8 0]] fun k3 r2=>∃cs2,Seg 18 cs2∧∃cs3,Seg 24 cs3∧some (tuple #[agg cs2,agg cs3])=some r2∧
 Cl k3 70 #[agg cs0,agg cs2] fun k5 r4=>∃n4,∃cs5,Seg 9 cs5∧some (agg ((int .i64 n4) :: (cs5.toList++([]))).toArray)=some r4∧
 Cl k5 71 #[agg cs0,agg cs2] fun k7 r6=>Gi r6 fun n6=>
 Br ((n6:Int) == 6) (Br ((n4:Int) == 6) (Cl k7 40 #[agg cs5] fun k9 r8=>∃s7,some (Value.string s7)=some r8∧
 Rt R k9 (bool (ByteArray.toList s7 == ByteArray.toList ⟨#[49]⟩))) (Rt R k7 (bool false))) (Rt R k7 (bool false))) :
  CallsG Tryz.prog 12 #[] k R:=
  qX { opq:=[89,36,56] } [] [] [] trivial h
theorem aVf (hcs0:Seg 24 cs0) (hcs1:Seg 24 cs1)
 (h:Cl k 84 #[int .i64 n2] fun k1 r0=>Gt 24 r0 fun cs3=>
 Cl k1 83 #[agg cs1,agg cs3] fun k3 r2=>Gt 24 r2 fun cs4=>
 Cl k3 82 #[agg cs0,agg cs4] fun k5 r4=>Gt 24 r4 fun cs5=>
 Rt R k5 (agg cs5)) :
  CallsG Tryz.prog 24 #[agg cs0,agg cs1,int .i64 n2] k R:=
  qX { opq:=[56] } [.agg [.seg 0 24],.agg [.seg 1 24],.one (.var 2)] [agg cs0,agg cs1,int .i64 n2] [.seg 24,.seg 24,.int .i64] ⟨⟨cs0,rfl,hcs0⟩,⟨cs1,rfl,hcs1⟩,⟨_,rfl⟩,trivial⟩ h
theorem aOj (hcs0:Seg 12 cs0) (hcs1:Seg 12 cs1) (hcs2:Seg 12 cs2) (hcs3:Seg 12 cs3)
 (h:∃I0:Nat→World→List Value→Prop,(∃m0,∀k0,Up k k0→I0 m0 k0 [int .i64 0,int .i64 0,agg #[bool false,slice none 0 0,slice none 0 0,bool false,slice none 0 0,slice none 0 0,bool false,slice none 0 0,slice none 0 0,bool false,slice none 0 0,slice none 0 0]])∧
 ∀m0 k0 vs0,Up k k0→I0 m0 k0 vs0→∃n4,∃n5,∃cs6,Seg 12 cs6∧some [int .i64 n4,int .i64 n5,agg cs6]=some vs0∧
 Br (decide ((n5:Int)<24)) (Cl k0 194 #[agg (cs0.toList++(cs1.toList++([]))).toArray] fun k2 r1=>∃cs7,Seg 12 cs7∧∃cs8,Seg 12 cs8∧some (agg (cs7.toList++(cs8.toList++([]))).toArray)=some r1∧
 Cl k2 84 #[int .i64 n5] fun k4 r3=>∃cs9,Seg 12 cs9∧∃cs10,Seg 12 cs10∧some (agg (cs9.toList++(cs10.toList++([]))).toArray)=some r3∧
 Cl k4 83 #[agg (cs2.toList++(cs3.toList++([]))).toArray,agg (cs9.toList++(cs10.toList++([]))).toArray] fun k6 r5=>∃cs11,Seg 12 cs11∧∃cs12,Seg 12 cs12∧some (agg (cs11.toList++(cs12.toList++([]))).toArray)=some r5∧
 Cl k6 83 #[agg (cs7.toList++(cs8.toList++([]))).toArray,agg (cs11.toList++(cs12.toList++([]))).toArray] fun k8 r7=>∃cs13,Seg 12 cs13∧∃cs14,Seg 12 cs14∧some (agg (cs13.toList++(cs14.toList++([]))).toArray)=some r7∧
 Br ((n5:Int) == 0) (∀k9,Up k8 k9→∃m,m<m0∧I0 m k9 [int .i64 n5,int .i64 (wrap .i64 (n5+1)),agg cs13]) (Cl k8 77 #[agg cs13,agg cs6] fun k11 r10=>Gi r10 fun n15=>
 Br (decide ((n15:Int)<0)) (∀k12,Up k11 k12→∃m,m<m0∧I0 m k12 [int .i64 n5,int .i64 (wrap .i64 (n5+1)),agg cs13]) (∀k13,Up k11 k13→∃m,m<m0∧I0 m k13 [int .i64 n4,int .i64 (wrap .i64 (n5+1)),agg cs6]))) (Cl k0 24 #[agg (cs0.toList++(cs1.toList++([]))).toArray,agg (cs2.toList++(cs3.toList++([]))).toArray,int .i64 n4] fun k15 r14=>∃cs7,Seg 12 cs7∧∃cs8,Seg 12 cs8∧some (agg (cs7.toList++(cs8.toList++([]))).toArray)=some r14∧
 Cl k15 34 #[agg (cs7.toList++(cs8.toList++([]))).toArray] fun k17 r16=>Gt 12 r16 fun cs9=>
 Rt R k17 (agg ((int .i64 n4) :: (cs9.toList++([]))).toArray))) :
  CallsG Tryz.prog 87 #[agg (cs0.toList++(cs1.toList++([]))).toArray,agg (cs2.toList++(cs3.toList++([]))).toArray] k R:=
  qX { opq:=[51],loops:=[(0,[.tmp 5 false [.int .i64],.tmp 7 false [.int .i64],.blk 3 [.seg 12]])] } [.agg [.seg 0 12,.seg 1 12],.agg [.seg 2 12,.seg 3 12]] [agg cs0,agg cs1,agg cs2,agg cs3] [.seg 12,.seg 12,.seg 12,.seg 12] ⟨⟨cs0,rfl,hcs0⟩,⟨cs1,rfl,hcs1⟩,⟨cs2,rfl,hcs2⟩,⟨cs3,rfl,hcs3⟩,trivial⟩ h
end Go.Proofs.YtmifbgccpdmjpaaGreat

namespace Go.Proofs.YtmifbgccpdmjpaaGreat
open Go.RowKit Num Plain W32
open Sy (Up Sees CallsG Seg)
section
variable {k k':World}{R:World→Value→Prop}{K L:Nat}{cs cs':Array Value}{x y:W4}{v v':Q4}
end
