/- Several texts in one. (Printed by prep.py.) -/
import Derived.Test.YthiaclljcnincaaGreatApPM
namespace Go.Proofs.YthiaclljcnincaaGreat
open IntKind (wrap)
open Go.RowKit
open Value (agg slice int bool tuple)
open Sy (Up Sees CallsG Seg execFn_use)
set_option maxRecDepth 100000
variable {k:World}{R:World→Value→Prop}{cs0 cs1 cs2:Array Value}{n0 n1:Int}
theorem aIv (hcs0:Seg 9 cs0) (hcs1:Seg 18 cs1)
 (h:Cl k 13 #[agg cs1] fun k1 r0=>Gt 9 r0 fun cs2=>
 Cl k1 25 #[agg cs0,agg cs2] fun k3 r2=>Gt 9 r2 fun cs3=>
 Cl k3 73 #[agg cs1] fun k5 r4=>Gt 9 r4 fun cs4=>
 Cl k5 25 #[agg cs0,agg cs4] fun k7 r6=>Gt 9 r6 fun cs5=>
 Cl k7 72 #[agg cs3,agg cs5] fun k9 r8=>Gt 18 r8 fun cs6=>
 Rt R k9 (agg cs6)) :
  CallsG Tryz.prog 48 #[agg cs0,agg cs1] k R:=
  qX { opq:=[36,44] } [.agg [.seg 0 9],.agg [.seg 1 18]] [agg cs0,agg cs1] [.seg 9,.seg 18] ⟨⟨cs0,rfl,hcs0⟩,⟨cs1,rfl,hcs1⟩,trivial⟩ h
theorem aNt 
 (h:Cl k 50 #[int .i64 1,int .i64 n0] fun k1 r0=>∃cs1,Seg 3 cs1∧∃n2,some (tuple #[agg cs1,int .i64 n2])=some r0∧
 Cl k1 7 #[agg #[bool false,slice none 0 0,bool false,slice none 0 0,bool false,slice none 0 0,bool false,slice none 0 0,slice none 0 0],agg cs1] fun k3 r2=>Gt 9 r2 fun cs3=>
 Rt R k3 (agg cs3)) :
  CallsG Tryz.prog 24 #[int .i64 n0] k R:=
  qY { opq:=[36,41] } h
theorem aIx 
 (h:Cl k 8 #[int .i64 n0] fun k1 r0=>Gt 3 r0 fun cs1=>
 Cl k1 7 #[agg #[bool false,slice none 0 0,bool false,slice none 0 0,bool false,slice none 0 0,bool false,slice none 0 0,slice none 0 0],agg cs1] fun k3 r2=>Gt 9 r2 fun cs2=>
 Rt R k3 (agg cs2)) :
  CallsG Tryz.prog 58 #[int .i64 n0] k R:=
  qY { opq:=[36,41] } h
theorem aIs (hcs0:Seg 216 cs0)
 (h:∃I0:Nat→World→List Value→Prop,(∃m0,∀k0,Up k k0→I0 m0 k0 [int .i64 0,agg #[bool false,slice none 0 0,bool false,slice none 0 0,bool false,slice none 0 0,bool false,slice none 0 0,slice none 0 0,bool false,slice none 0 0,bool false,slice none 0 0,bool false,slice none 0 0,bool false,slice none 0 0,slice none 0 0]])∧
 ∀m0 k0 vs0,Up k k0→I0 m0 k0 vs0→∃n2,∃cs3,Seg 18 cs3∧some [int .i64 n2,agg cs3]=some vs0∧
 Br (decide ((n2:Int)<24)) ((decide ((0:Int)≤n2∧(n2:Int)<24))=true∧
 (Cl k0 49 #[int .i64 (wrap .i64 ((wrap .i64 (0-n1))*n2))] fun k2 r1=>Gt 18 r1 fun cs4=>
 Cl k2 48 #[agg (Sy.pickL cs0 (Int.toNat n2*9+0) 9).toArray,agg cs4] fun k4 r3=>Gt 18 r3 fun cs5=>
 Cl k4 47 #[agg cs3,agg cs5] fun k6 r5=>Gt 18 r5 fun cs6=>
 ∀k7,Up k6 k7→∃m,m<m0∧I0 m k7 [int .i64 (wrap .i64 (n2+1)),agg cs6])) (Cl k0 24 #[int .i64 24] fun k9 r8=>Gt 9 r8 fun cs4=>
 Cl k9 48 #[agg cs4,agg cs3] fun k11 r10=>Gt 18 r10 fun cs5=>
 Rt R k11 (agg cs5))) :
  CallsG Tryz.prog 22 #[agg cs0,int .i64 n1] k R:=
  qX { opq:=[38,36,44],loops:=[(0,[.tmp 9 false [.int .i64],.blk 2 [.seg 18]])] } [.agg [.seg 0 216],.one (.var 1)] [agg cs0,int .i64 n1] [.seg 216,.int .i64] ⟨⟨cs0,rfl,hcs0⟩,⟨_,rfl⟩,trivial⟩ h
theorem aAr (hcs0:Seg 216 cs0)
 (h:∃I0:Nat→World→List Value→Prop,(∃m0,∀k0,Up k k0→I0 m0 k0 [int .i64 0,agg (pV 13 (zS++zS))])∧
 ∀m0 k0 vs0,Up k k0→I0 m0 k0 vs0→∃n1,∃cs2,Seg 234 cs2∧some [int .i64 n1,agg cs2]=some vs0∧
 Br (decide ((n1:Int)<13)) (Cl k0 22 #[agg cs0,int .i64 n1] fun k2 r1=>Gt 18 r1 fun cs3=>
 (decide ((0:Int)≤n1∧(n1:Int)<13))=true∧
 (∀k3,Up k2 k3→∃m,m<m0∧I0 m k3 [int .i64 (wrap .i64 (n1+1)),agg (Sy.over cs2 (Int.toNat n1*18+0) cs3.toList)])) (Rt R k0 (agg cs2))) :
   CallsG Tryz.prog 9 #[agg cs0] k R:=
  qX { opq:=[38,46,36,44],loops:=[(0,[.tmp 5 false [.int .i64],.blk 2 [.seg 234]])] } [.agg [.seg 0 216]] [agg cs0] [.seg 216] ⟨⟨cs0,rfl,hcs0⟩,trivial⟩ h
theorem aDi 
 (h:Br ((n0:Int) == 0) (Cl k 58 #[int .i64 1] fun k1 r0=>Gt 9 r0 fun cs1=>
 Rt R k1 (agg cs1)) (Br ((n0:Int) == 12) (Cl k 58 #[int .i64 1] fun k4 r3=>Gt 9 r3 fun cs1=>
 Rt R k4 (agg cs1)) (Cl k 58 #[int .i64 2] fun k7 r6=>Gt 9 r6 fun cs1=>
 Rt R k7 (agg cs1)))) :
  CallsG Tryz.prog 28 #[int .i64 n0] k R:=
  qY { opq:=[36] } h
theorem aDf (hcs0:Seg 234 cs0)
 (h:∃I0:Nat→World→List Value→Prop,(∃m0,∀k0,Up k k0→I0 m0 k0 [int .i64 0,agg #[bool false,slice none 0 0,bool false,slice none 0 0,bool false,slice none 0 0,bool false,slice none 0 0,slice none 0 0]])∧
 ∀m0 k0 vs0,Up k k0→I0 m0 k0 vs0→∃n1,∃cs2,Seg 9 cs2∧some [int .i64 n1,agg cs2]=some vs0∧
 Br (decide ((n1:Int)<13)) ((decide ((0:Int)≤n1∧(n1:Int)<13))=true∧
 (Cl k0 28 #[int .i64 n1] fun k2 r1=>Gt 9 r1 fun cs3=>
 Cl k2 29 #[agg (Sy.pickL cs0 (Int.toNat n1*18+0) 18).toArray] fun k4 r3=>Gt 9 r3 fun cs4=>
 Cl k4 25 #[agg cs3,agg cs4] fun k6 r5=>Gt 9 r5 fun cs5=>
 Cl k6 26 #[agg cs2,agg cs5] fun k8 r7=>Gt 9 r7 fun cs6=>
 ∀k9,Up k8 k9→∃m,m<m0∧I0 m k9 [int .i64 (wrap .i64 (n1+1)),agg cs6])) (Rt R k0 (agg cs2))) :
  CallsG Tryz.prog 11 #[agg cs0] k R:=
  qX { opq:=[46,36,44],loops:=[(0,[.tmp 7 false [.int .i64],.blk 2 [.seg 9]])] } [.agg [.seg 0 234]] [agg cs0] [.seg 234] ⟨⟨cs0,rfl,hcs0⟩,trivial⟩ h
theorem aNq (hcs0:Seg 216 cs0)
 (h:Cl k 22 #[agg cs0,int .i64 0] fun k1 r0=>Gt 18 r0 fun cs1=>
 Cl k1 13 #[agg cs1] fun k3 r2=>Gt 9 r2 fun cs2=>
 Rt R k3 (agg cs2)) :
  CallsG Tryz.prog 23 #[agg cs0] k R:=
  qX { opq:=[38,36,44] } [.agg [.seg 0 216]] [agg cs0] [.seg 216] ⟨⟨cs0,rfl,hcs0⟩,trivial⟩ h
theorem aIn (hcs0:Seg 216 cs0) (hcs1:Seg 216 cs1) (hcs2:Seg 216 cs2)
 (h:Cl k 23 #[agg cs1] fun k1 r0=>Gt 9 r0 fun cs3=>
 Cl k1 23 #[agg cs2] fun k3 r2=>Gt 9 r2 fun cs4=>
 Cl k3 24 #[int .i64 2] fun k5 r4=>Gt 9 r4 fun cs5=>
 Cl k5 26 #[agg cs3,agg cs4] fun k7 r6=>Gt 9 r6 fun cs6=>
 Cl k7 25 #[agg cs5,agg cs6] fun k9 r8=>Gt 9 r8 fun cs7=>
 Cl k9 24 #[int .i64 2] fun k11 r10=>Gt 9 r10 fun cs8=>
 Cl k11 27 #[agg cs3,agg cs4] fun k13 r12=>Gt 9 r12 fun cs9=>
 Cl k13 25 #[agg cs8,agg cs9] fun k15 r14=>Gt 9 r14 fun cs10=>
 Rt R k15 (tuple #[agg cs7,agg cs10])) :
  CallsG Tryz.prog 10 #[agg (cs0.toList++(cs1.toList++(cs2.toList++([])))).toArray] k R:=
  qX { opq:=[38,36] } [.agg [.seg 0 216,.seg 1 216,.seg 2 216]] [agg cs0,agg cs1,agg cs2] [.seg 216,.seg 216,.seg 216] ⟨⟨cs0,rfl,hcs0⟩,⟨cs1,rfl,hcs1⟩,⟨cs2,rfl,hcs2⟩,trivial⟩ h
theorem aHx
 (h:Cl k 8 #[int .i64 1] fun k1 r0=>Gt 3 r0 fun cs0=>
 Cl k1 7 #[agg #[bool false,slice none 0 0,bool false,slice none 0 0,bool false,slice none 0 0,bool false,slice none 0 0,slice none 0 0],agg cs0] fun k3 r2=>Gt 9 r2 fun cs1=>
 Cl k3 9 #[agg (cs1.toList++(List.replicate 23 zS).flatten).toArray] fun k5 r4=>Gt 234 r4 fun cs2=>
 ∃I6:Nat→World→List Value→Prop,(∃m6,∀k6,Up k5 k6→I6 m6 k6 [int .i64 0,agg ((pV 24 zS).toList++((pV 24 zS).toList++((pV 24 zS).toList++([])))).toArray])∧
 ∀m6 k6 vs6,Up k5 k6→I6 m6 k6 vs6→∃n3,∃cs4,Seg 216 cs4∧∃cs5,Seg 216 cs5∧∃cs6,Seg 216 cs6∧some [int .i64 n3,agg (cs4.toList++(cs5.toList++(cs6.toList++([])))).toArray]=some vs6∧
 Br (decide ((n3:Int)<24)) ((decide ((0:Int)≤n3∧(n3:Int)<24))=true∧
 ((decide ((0:Int)≤n3∧(n3:Int)<24))=true∧
 (Cl k6 8 #[int .i64 30] fun k8 r7=>Gt 3 r7 fun cs7=>
 Cl k8 7 #[agg (Sy.pickL cs5 (Int.toNat n3*9+0) 9).toArray,agg cs7] fun k10 r9=>Gt 9 r9 fun cs8=>
 (decide ((0:Int)≤n3∧(n3:Int)<24))=true∧
 (Cl k10 8 #[int .i64 (-10)] fun k12 r11=>Gt 3 r11 fun cs9=>
 Cl k12 7 #[agg (Sy.pickL cs6 (Int.toNat n3*9+0) 9).toArray,agg cs9] fun k14 r13=>Gt 9 r13 fun cs10=>
 (decide ((0:Int)≤n3∧(n3:Int)<24))=true∧
 (∀k15,Up k14 k15→∃m,m<m6∧I6 m k15 [int .i64 (wrap .i64 (n3+1)),agg (cs4.toList++((Sy.over cs5 (Int.toNat n3*9+0) cs8.toList).toList++((Sy.over cs6 (Int.toNat n3*9+0) cs10.toList).toList++([])))).toArray]))))) (Cl k6 10 #[agg (cs4.toList++(cs5.toList++(cs6.toList++([])))).toArray] fun k17 r16=>∃cs7,Seg 9 cs7∧∃cs8,Seg 9 cs8∧some (tuple #[agg cs7,agg cs8])=some r16∧
 Cl k17 11 #[agg cs2] fun k19 r18=>Gt 9 r18 fun cs9=>
 Cl k19 12 #[agg cs9] fun k21 r20=>∃s10,some (Value.string s10)=some r20∧
 Br (ByteArray.toList s10 == ByteArray.toList ⟨#[49,47,50,52]⟩) (Cl k21 13 #[agg (Sy.pickL cs2 (Int.toNat 0*0+90) 18).toArray] fun k23 r22=>Gt 9 r22 fun cs11=>
 Cl k23 12 #[agg cs11] fun k25 r24=>∃s12,some (Value.string s12)=some r24∧
 Br (ByteArray.toList s12 == ByteArray.toList ⟨#[49,47,50,52]⟩) (Cl k25 12 #[agg cs7] fun k27 r26=>∃s13,some (Value.string s13)=some r26∧
 Br (ByteArray.toList s13 == ByteArray.toList ⟨#[49,48]⟩) (Cl k27 12 #[agg cs8] fun k29 r28=>∃s14,some (Value.string s14)=some r28∧
 Rt R k29 (bool (ByteArray.toList s14 == ByteArray.toList ⟨#[50,48]⟩))) (Rt R k27 (bool false))) (Rt R k25 (bool false))) (Rt R k21 (bool false)))) :
  CallsG Tryz.prog 4 #[] k R:=
  qX { opq:=[38,46,36,44,41],loops:=[(0,[.tmp 14 false [.int .i64],.blk 2 [.seg 216,.seg 216,.seg 216]])] } [] [] [] trivial h
end Go.Proofs.YthiaclljcnincaaGreat

namespace Go.Proofs.YthiaclljcnincaaGreat
open IntKind (wrap)
open Go.RowKit Num Plain
open Sy (Up Sees CallsG Seg)
section
variable {k k':World}{R:World→Value→Prop}{K L:Nat}{cs cs' ds:Array Value}{f g F:Nat→Q4}{p q:Nat→W4}{x y:W4}{v v':Q4}
def RoundV (k:World) (cs:Array Value) (f:Nat→Q4) (K:Nat):Prop:=ArrV 24 9 (fun a v=>SurdV k a v K) cs f
def SpecV (k:World) (cs:Array Value) (p:Nat→W4) (K:Nat):Prop:=ArrV 13 18 (fun a w=>WaveV k a w K) cs p
theorem RoundV.up (h:RoundV k cs f K) (u:Up k k'):RoundV k' cs f K:=ArrV.mono h fun _ _ h=>h.up u
theorem RoundV.seg (h:RoundV k cs f K):Seg 216 cs:=ArrV.seg h fun _ _ h=>h.seg
theorem SpecV.up (h:SpecV k cs p K) (u:Up k k'):SpecV k' cs p K:=ArrV.mono h fun _ _ h=>h.up u
theorem SpecV.seg (h:SpecV k cs p K):Seg 234 cs:=ArrV.seg h fun _ _ h=>h.seg
theorem RoundV.zero:RoundV k (pV 24 zS) (fun _=>Q4.zero) K:=ArrV.zero (P:=fun a v=>SurdV k a v K) (z:=zS) rfl Q4.zero (SurdV.nil (jx _))
theorem SpecV.zero:SpecV k (pV 13 (zS++zS)) (fun _=>W4.zero) K:=ArrV.zero (P:=fun a w=>WaveV k a w K) (z:=zS++zS) rfl W4.zero WaveV.nil
theorem aAv (hx:SurdV k cs v K) (hy:WaveV k cs' y L) (hK1:1≤K) (hL1:1≤L) (hK:K≤100000000) (hL:L≤100000000) (C:∀k' ds,Up k k'→WaveV k' ds ((ofR v).mul y) (K+L+1)→R k' (.agg ds)) :
 Cl k 48 #[.agg cs,.agg cs'] R:=by
 intro k0 u0;rw [xQ]at C;refine aIv hx.seg hy.seg (aLk (hy.up u0) fun k1 d1 u1 h1=>⟨d1,h1.seg,rfl,?_⟩);refine sI ((hx.up u0).up u1) h1 hK1 hL1 hK hL fun k2 d2 u2 h2=>⟨d2,h2.seg,rfl,?_⟩;refine aZp (((hy.up u0).up u1).up u2) fun k3 d3 u3 h3=>⟨d3,h3.seg,rfl,?_⟩;refine sI ((((hx.up u0).up u1).up u2).up u3) h3 hK1 hL1 hK hL fun k4 d4 u4 h4=>⟨d4,h4.seg,rfl,?_⟩;refine aYo ((h2.up u3).up u4) h4 fun k5 d5 u5 h5=>⟨d5,h5.seg,rfl,fun k6 u6=>?_⟩;exact C k6 d5 ((((((u0.trans u1).trans u2).trans u3).trans u4).trans u5).trans u6) (h5.up u6)
theorem xR {n:Int}(h0:-9223372036854775808≤n) (h1:n<9223372036854775808) (C:∀k' ds,Up k k'→SurdV k' ds (Q4.real ((1:Int) / (n:Rat))) 1→R k' (.agg ds)) :
 Cl k 24 #[.int .i64 n] R:=by
 intro k0 u0;refine aNt (aWr oz oz h0 h1 fun k1 d1 u1 q1=>⟨d1,q1.seg,_,rfl,?_⟩);refine uV (SurdV.nil (K:=1) (jx _)) q1 fun k2 d2 u2 h2=>⟨d2,h2.seg,rfl,fun k3 u3=>?_⟩;exact C k3 d2 (((u0.trans u1).trans u2).trans u3) (h2.up u3)
theorem tR {n:Int}(h0:-9223372036854775808≤n) (h1:n<9223372036854775808) (C:∀k' ds,Up k k'→SurdV k' ds (Q4.real (n:Rat)) 1→R k' (.agg ds)) :
 Cl k 58 #[.int .i64 n] R:=by
 intro k0 u0;refine aIx (sH h0 h1 fun k1 d1 u1 q1=>⟨d1,q1.seg,rfl,?_⟩);refine uV (SurdV.nil (K:=1) (jx _)) q1 fun k2 d2 u2 h2=>⟨d2,h2.seg,rfl,fun k3 u3=>?_⟩;exact C k3 d2 (((u0.trans u1).trans u2).trans u3) (h2.up u3)
theorem aUl {n j:Nat}(hn:n<13) (hj:j<24):iV (plc (wrap .i64 (wrap .i64 (0-(n:Int))*(j:Int))))=trn (23*n*j):=by
 have hp:n*j≤12*23:=ky oq oq;have e1:wrap .i64 (0-(n:Int))=- (n:Int):=by rw [xk];omega
 have e2:-(n:Int)*(j:Int)=-((n*j:Nat):Int):=by rw [Int.neg_mul,vd]
 rw [e1,e2,jl];generalize n*j=t at hp;have e3:wrap .i64 (-(t:Int))=-(t:Int):=by rw [xk];omega
 rw [e3];unfold trn plc
 congr 1
 omega
theorem aNs {n:Nat}(hx:RoundV k cs f K) (hn:n<13) (hK1:1≤K) (hK:K≤100000) (C:∀k' ds,Up k k'→WaveV k' ds (mY f n) (24*K+75)→R k' (.agg ds)) :
 Cl k 22 #[.agg cs,.int .i64 (n:Int)] R:=by
 intro k0 u0;replace hx:=hx.up u0;replace C:=fun k' ds u=>C k' ds (u0.trans u);refine aIs hx.seg ⟨fun m k' vs=>∃j c,j+m=24∧vs=[.int .i64 (j:Int),.agg c]∧WaveV k' c (oV (fun i=>(ofR (f i)).mul (trn (23*n*i))) j) (1+j*(K+3)),⟨24,fun k' u=>⟨0,_,rfl,rfl,WaveV.nil⟩⟩,?_⟩;rintro m k1 vs u1 ⟨j,c,hj,rfl,hc⟩;refine⟨_,c,hc.seg,rfl,fun hlt=>?_,fun hge=>?_⟩
 ·have hlt:=lt24 hlt;refine⟨ix24 hlt,sG fun k2 d2 u2 hT=>⟨d2,hT.seg,rfl,?_⟩⟩;rw [aUl hn hlt]at hT;have hje:=ol (K+3) (yp hlt);have hjs:(j+1)*(K+3)=j*(K+3)+(K+3):=zj _ _;refine aAv (ArrV.get ((hx.up u1).up u2) hlt) hT hK1 oz oq oz fun k3 d3 u3 h3=>⟨d3,h3.seg,rfl,?_⟩;refine aXa ((hc.up u2).up u3) h3 oq oq oq oq fun k4 d4 u4 h4=>⟨d4,h4.seg,rfl,fun k5 u5=>?_⟩;exact⟨m-1,oq,j+1,d4,oq,by rw [wup oq],(h4.up u5).mono oq⟩
 ·have hge:=ge24 hge;have e:j=24:=oq
  subst e;refine xR (n:=24) oz oz fun k2 d2 u2 h2=>⟨d2,h2.seg,rfl,?_⟩;refine aAv h2 (hc.up u2) oz oq oz oq fun k3 d3 u3 h3=>⟨d3,h3.seg,rfl,fun k4 u4=>?_⟩;exact C k4 d3 (((u1.trans u2).trans u3).trans u4) ((h3.up u4).mono oq)
theorem aGt (hx:RoundV k cs f K) (hK1:1≤K) (hK:K≤100000) (C:∀k' ds,Up k k'→SpecV k' ds (mY f) (24*K+75)→R k' (.agg ds)) :
 Cl k 9 #[.agg cs] R:=by
 intro k0 u0;replace hx:=hx.up u0;replace C:=fun k' ds u=>C k' ds (u0.trans u);refine aAr hx.seg ⟨fun m k' vs=>∃j c,j+m=13∧vs=[.int .i64 (j:Int),.agg c]∧SpecV k' c (cut j (mY f) fun _=>W4.zero) (24*K+75),⟨13,fun k' u=>⟨0,_,rfl,rfl,ArrV.start SpecV.zero⟩⟩,?_⟩;rintro m k1 vs u1 ⟨j,c,hj,rfl,hc⟩;refine⟨_,c,hc.seg,rfl,fun hlt=>?_,fun hge=>?_⟩
 ·have hlt:=lt13 hlt;refine aNs (hx.up u1) hlt hK1 hK fun k2 d2 u2 h2=>⟨d2,h2.seg,rfl,ix13 hlt,fun k3 u3=>?_⟩;exact⟨m-1,oq,j+1,_,oq,by rw [wup oq],ArrV.step ((hc.up u2).up u3) hlt h2.seg.1 (h2.up u3)⟩
 ·exact fun k2 u2=>C k2 c (u1.trans u2) (ArrV.done (hc.up u2) (ge13 hge))
theorem aRk {n:Nat}(_hn:n<13) (C:∀k' ds,Up k k'→SurdV k' ds (wt n) 1→R k' (.agg ds)) :
 Cl k 28 #[.int .i64 (n:Int)] R:=by
 intro k0 u0;unfold wt at C;refine aDi ⟨fun h=>?_,fun h=>⟨fun h'=>?_,fun h'=>?_⟩⟩
 ·have h:n=0:=by have:=eq_of_beq h;omega
  rw [og (Or.inl h)]at C;exact tR oz oz fun k1 d1 u1 h1=>⟨d1,h1.seg,rfl,fun k2 u2=>C k2 d1 ((u0.trans u1).trans u2) (h1.up u2)⟩
 ·have h':n=12:=by have:=eq_of_beq h';omega
  rw [og (Or.inr h')]at C;exact tR oz oz fun k1 d1 u1 h1=>⟨d1,h1.seg,rfl,fun k2 u2=>C k2 d1 ((u0.trans u1).trans u2) (h1.up u2)⟩
 ·have h0:¬ ((n:Int)=0):=fun e=>by rw [e]at h;exact absurd h oz
  have h2:¬ ((n:Int)=12):=fun e=>by rw [e]at h';exact absurd h' oz
  rw [oh oq]at C;exact tR oz oz fun k1 d1 u1 h1=>⟨d1,h1.seg,rfl,fun k2 u2=>C k2 d1 ((u0.trans u1).trans u2) (h1.up u2)⟩
theorem aMf (hx:SpecV k cs p K) (hK1:1≤K) (hK:K≤1000000) (C:∀k' ds,Up k k'→SurdV k' ds (aTh p) (52*K+157)→R k' (.agg ds)) :
 Cl k 11 #[.agg cs] R:=by
 intro k0 u0;replace hx:=hx.up u0;replace C:=fun k' ds u=>C k' ds (u0.trans u);refine aDf hx.seg ⟨fun m k' vs=>∃j c,j+m=13∧vs=[.int .i64 (j:Int),.agg c]∧SurdV k' c (uJ (fun n=>(wt n).mul (p n).norm) j) (1+j*(4*K+12)),⟨13,fun k' u=>⟨0,_,rfl,rfl,SurdV.nil (jx _)⟩⟩,?_⟩;rintro m k1 vs u1 ⟨j,c,hj,rfl,hc⟩;refine⟨_,c,hc.seg,rfl,fun hlt=>?_,fun hge=>?_⟩
 ·have hlt:=lt13 hlt;refine⟨ix13 hlt,aRk hlt fun k2 d2 u2 h2=>⟨d2,h2.seg,rfl,?_⟩⟩;have hje:=ol (4*K+12) (yp hlt);have hjs:(j+1)*(4*K+12)=j*(4*K+12)+(4*K+12):=zj _ _;refine aEs (ArrV.get ((hx.up u1).up u2) hlt) hK1 oq fun k3 d3 u3 h3=>⟨d3,h3.seg,rfl,?_⟩;refine sI (h2.up u3) h3 oz oq oz oq fun k4 d4 u4 h4=>⟨d4,h4.seg,rfl,?_⟩;refine aLf (((hc.up u2).up u3).up u4) h4 oq oq oq oq fun k5 d5 u5 h5=>⟨d5,h5.seg,rfl,fun k6 u6=>?_⟩;exact⟨m-1,oq,j+1,d5,oq,by rw [wup oq],(h5.up u6).mono oq⟩
 ·have e:j=13:=by have:=ge13 hge;omega
  subst e;exact fun k2 u2=>C k2 c (u1.trans u2) ((hc.up u2).mono oq)
def trQ (f:Nat→Q4) (c i:Nat):Q4:=f ((i+(24-c)) % 24)
def miQ (f:Nat→Q4) (i:Nat):Q4:=f ((24-i) % 24)
def Mix (k:World) (cs:Array Value) (f:Nat→Q4×Nat):Prop:=ArrV 24 9 (fun a p=>SurdV k a p.1 p.2) cs f
theorem aNa (hx:RoundV k cs f K) (hK1:1≤K) (hK:K≤100000) (C:∀k' ds,Up k k'→SurdV k' ds (mY f 0).re (24*K+75)→R k' (.agg ds)) :
 Cl k 23 #[.agg cs] R:=by
 intro k0 u0;refine aNq hx.seg (aNs (n:=0) (hx.up u0) oz hK1 hK fun k1 d1 u1 h1=>⟨d1,h1.seg,rfl,?_⟩);exact aLk h1 fun k2 d2 u2 h2=>⟨d2,h2.seg,rfl,fun k3 u3=>C k3 d2 (((u0.trans u1).trans u2).trans u3) (h2.up u3)⟩
def cone (f g:Nat→Q4):Q4:=(Q4.real (1/2)).mul ((mY f 0).re.add (mY g 0).re)
def steer (f g:Nat→Q4):Q4:=(Q4.real (1/2)).mul ((mY f 0).re.sub (mY g 0).re)
theorem aVk {c0 c1 c2:Array Value}(h0:Seg 216 c0) (hx:RoundV k c1 f K) (hy:RoundV k c2 g K) (hK1:1≤K) (hK:K≤100000) (C:∀k' ds es,Up k k'→SurdV k' ds (cone f g) (48*K+153)→SurdV k' es (steer f g) (48*K+153)→R k' (.tuple #[.agg ds,.agg es])) :
 Cl k 10 #[.agg (c0.toList++(c1.toList++(c2.toList++([])))).toArray] R:=by
 intro k0 u0;replace hx:=hx.up u0;replace hy:=hy.up u0;replace C:=fun k' ds es u=>C k' ds es (u0.trans u);have e2:((1:Int):Rat) / ((2:Int):Rat)=1/2:=rfl;refine aIn h0 hx.seg hy.seg (aNa hx hK1 hK fun k1 d1 u1 h1=>⟨d1,h1.seg,rfl,?_⟩);refine aNa (hy.up u1) hK1 hK fun k2 d2 u2 h2=>⟨d2,h2.seg,rfl,?_⟩;refine xR (n:=2) oz oz fun k3 d3 u3 h3=>⟨d3,h3.seg,rfl,?_⟩;refine aLf ((h1.up u2).up u3) (h2.up u3) oq oq oq oq fun k4 d4 u4 h4=>⟨d4,h4.seg,rfl,?_⟩;refine sI (h3.up u4) h4 oz oq oz oq fun k5 d5 u5 h5=>⟨d5,h5.seg,rfl,?_⟩;refine xR (n:=2) oz oz fun k6 d6 u6 h6=>⟨d6,h6.seg,rfl,?_⟩;have u36:=(((u3.trans u4).trans u5).trans u6);refine aWw ((h1.up u2).up u36) (h2.up u36) oq oq oq oq fun k7 d7 u7 h7=>⟨d7,h7.seg,rfl,?_⟩;refine sI (h6.up u7) h7 oz oq oz oq fun k8 d8 u8 h8=>⟨d8,h8.seg,rfl,fun k9 u9=>?_⟩;exact C k9 d5 d8 ((((u1.trans u2).trans u36).trans u7).trans (u8.trans u9)) (((((h5.up u6).up u7).up u8).up u9).mono oq) ((h8.up u9).mono oq)
end
open Value (agg slice int bool tuple)
open Sy (Up Sees CallsG Seg execFn_use)
set_option maxRecDepth 100000
variable {k:World}{R:World→Value→Prop}
theorem aPu
 (h:Cl k 64 #[int .i64 0] fun k1 r0=>Gt 3 r0 fun cs0=>
 Cl k1 63 #[agg cs0] fun k3 r2=>Gt 24 r2 fun cs1=>
 Rt R k3 (agg cs1)) :
  CallsG Tryz.prog 39 #[] k R:=
  qX { opq:=[64,60] } [] [] [] trivial h
end Go.Proofs.YthiaclljcnincaaGreat

namespace Go.Proofs.YthiaclljcnincaaGreat
open Go.RowKit Num Plain W32
open Sy (Up Sees CallsG Seg)
section
variable {k k':World}{R:World→Value→Prop}{K L:Nat}{cs cs' ds:Array Value}{f g F:Nat→Q4}{p q:Nat→W4}{x y:W4}{v v':Q4}
def bBa (k:World) (cs:Array Value) (f:Nat→Q4) (K:Nat):Prop:=ArrV 24 12 (fun a v=>SQ k a v K) cs f
def bBl (k:World) (cs:Array Value) (p:Nat→W4) (K:Nat):Prop:=ArrV 13 24 (fun a w=>WQ k a w K) cs p
def bBq (k:World) (cs:Array Value) (f:Nat→Option (Q4×Nat)):Prop:=ArrV 24 12 (bAq 12 fun a p=>SQ k a p.1 p.2) cs f
def bBk (k:World) (cs:Array Value) (p:Nat→Option W4) (K:Nat):Prop:=ArrV 13 24 (bAq 24 fun a w=>WQ k a w K) cs p
theorem eH (C:∀k' ds,Up k k'→WQ k' ds W4.zero 2→R k' (.agg ds)) :
 Cl k 39 #[] R:=by
 intro k0 u0;refine aPu (dI (z:=0) oz oz fun k1 d1 u1 q1=>⟨d1,q1.seg,rfl,?_⟩);refine aGr q1 oz fun k2 d2 u2 h2=>⟨d2,h2.seg,rfl,fun k3 u3=>?_⟩;exact C k3 d2 (((u0.trans u1).trans u2).trans u3) (h2.up u3)
def trO (f:Nat→Q4) (K c j i:Nat):Option (Q4×Nat):=if (i+(24-c)) % 24<j then some (trQ f c i,K) else none
def miO (f:Nat→Q4) (K j i:Nat):Option (Q4×Nat):=if (24-i) % 24<j then some (miQ f i,K) else none
end
section
variable {k k':World}{R:World→Value→Prop}{K L:Nat}{cs cs' ds:Array Value}{f g F:Nat→Q4}{p q:Nat→W4}{x y:W4}{v v':Q4}
def bAx (a:Array Value) (v:Q4):Prop:=∃n0 n1 n2 n3 n4 n5 n6 n7:Int,(In64 n0∧In64 n1∧In64 n2∧In64 n3∧In64 n4∧In64 n5∧In64 n6∧In64 n7)∧a=#[.int .i64 n0,.int .i64 n1,.int .i64 n2,.int .i64 n3,.int .i64 n4,.int .i64 n5,.int .i64 n6,.int .i64 n7]∧v=⟨ofQ n0 n1,ofQ n2 n3,ofQ n4 n5,ofQ n6 n7⟩
theorem aAb (h:SurdV k ds v K):RoundV k (ds.toList++(List.replicate 23 zS).flatten).toArray (fun i=>if i=0 then v else Q4.zero) K:=by
 have h0:=ArrV.set (n:=24) (s:=9) (i:=0) (g:=fun i=>if i=0 then v else Q4.zero) (RoundV.zero (k:=k) (K:=K)) oz h.seg.1 h (fun j _ hj=>(oh hj).symm);have hl:ds.toList.length=9:=by rw [ja];exact h.seg.1
 have e:(ds.toList++(List.replicate 23 zS).flatten).toArray=Sy.over (pV 24 zS) (Int.toNat ((0:Nat):Int)*9+0) ds.toList:=by
  have z:(pV 24 zS).toList=zS++(List.replicate 23 zS).flatten:=by unfold pV;rw [show 24=23+1 from rfl,List.replicate_succ,List.flatten_cons]
  rw [←Array.toList_inj,Sy.over_eq _ _ _ (by rw [hl];have:=(RoundV.zero (k:=k) (K:=K)).seg.1;omega),hl,z,show Int.toNat ((0:Nat):Int)*9+0=0 from rfl,List.take_zero,qc,wn,List.drop_left' (show zS.length=9 from rfl)]
 rw [e];exact h0
theorem wX (n a b:Nat) (h:n=10*a+b) (ha:0<a) (ha':a<10) (hb:b<10):dec n=[UInt8.ofNat (48+a),UInt8.ofNat (48+b)]:=by
 unfold dec;rw [oh oq,gR oq,gR (n:=n/10) oq,show n/10/10=0 by omega,eO,show n/10 % 10=a by omega,show n % 10=b by omega];rfl
theorem bAb:dec 1=[49]:=by
 unfold dec;rw [oh oq,gR oq,show 1/10=0 from rfl,eO];rfl
theorem pM (q:Rat) (h:q≠0):dZ (Q4.real q)=aH q:=by
 have hn:aH q≠[]:=by
  unfold aH;intro e;have e1:=List.append_eq_nil_iff.1 (List.append_eq_nil_iff.1 e).2;have:=lK (q.num.natAbs);have h2:dec q.num.natAbs≠[]:=by
   unfold dec;split
   ·simp
   ·rename_i hq;rw [gR hq];simp
  exact h2 e1.1
 have p1:aO [] q []=aH q:=by
  unfold aO;rw [oh h,oh (by simp),qo];rfl
 have p3:∀s m:List UInt8,aO s 0 m=s:=fun s m=>by
  unfold aO;rw [og rfl]
 unfold dZ Q4.real;simp only [body];rw [p1,p3,p3,p3,oh hn]
theorem aGl:dZ (Q4.real (1/24))=[49,47,50,52]:=by
 rw [pM _ (by decide +kernel)];unfold aH;rw [show ((1/24:Rat)).num=1 by decide +kernel,show ((1/24:Rat)).den=24 by decide +kernel,oh oz,oh oz,show (1:Int).natAbs=1 from rfl,bAb,wX 24 2 4 rfl oz oz oz];rfl
theorem aVq:dZ (Q4.real 10)=[49,48]:=by
 rw [pM _ (by decide +kernel)];unfold aH;rw [show (10:Rat).num=10 from rfl,show (10:Rat).den=1 from rfl,oh oz,og rfl,show (10:Int).natAbs=10 from rfl,wX 10 1 0 rfl oz oz oz];rfl
theorem aVr:dZ (Q4.real 20)=[50,48]:=by
 rw [pM _ (by decide +kernel)];unfold aH;rw [show (20:Rat).num=20 from rfl,show (20:Rat).den=1 from rfl,oh oz,og rfl,show (20:Int).natAbs=20 from rfl,wX 20 2 0 rfl oz oz oz];rfl
theorem txt {l:List UInt8}(h:dZ v=l):(ByteArray.toList (str (dZ v)) == ByteArray.toList ⟨l.toArray⟩)=true:=by
 rw [h];exact beq_self_eq_true _
def wM (i:Nat):Q4:=if i=0 then Q4.real 1 else Q4.zero
theorem aBv (n:Nat):mY wM n=ofR (Q4.real (1/24)):=by
 unfold mY;rw [rE (m:=0) oz fun j _ hj=>by unfold wM;rw [oh hj,aNn,W4.zero_mul]];have e:(ofR (wM 0)).mul (trn (23*n*0))=W4.real 1:=by rw [Nat.mul_zero];decide +kernel
 rw [e];decide +kernel
theorem aQz:aTh (mY wM)=Q4.real (1/24):=by
 rw [aCo (g:=fun _=>ofR (Q4.real (1/24))) fun n _=>aBv n];decide +kernel
theorem aTb:cone (fun _=>Q4.real 30) (fun _=>Q4.real (-10))=Q4.real 10:=by
 unfold cone;rw [oE,oE];decide +kernel
theorem aQs:steer (fun _=>Q4.real 30) (fun _=>Q4.real (-10))=Q4.real 20:=by
 unfold steer;rw [oE,oE];decide +kernel
theorem aMt (C:∀k',Up k k'→R k' (.bool true)):Cl k 4 #[] R:=by
 intro k0 u0;replace C:=fun k' u=>C k' (u0.trans u);refine aHx (sH (z:=1) oq oq fun k1 d1 u1 h1=>⟨d1,h1.seg,rfl,?_⟩);refine uV (SurdV.nil (K:=1) (jx _)) h1 fun k2 d2 u2 h2=>⟨d2,h2.seg,rfl,?_⟩;refine aGt (K:=1) (f:=wM) (aAb h2) oz oz fun k3 d3 u3 h3=>⟨d3,h3.seg,rfl,?_⟩;replace C:=fun k' u=>C k' (((u1.trans u2).trans u3).trans u);clear u1 u2 u3 h1 h2;refine⟨fun m k' vs=>∃j a b c,j+m=24∧vs=[.int .i64 (j:Int),.agg (a.toList++(b.toList++(c.toList++([])))).toArray]∧Seg 216 a∧RoundV k' b (cut j (fun _=>Q4.real 30) fun _=>Q4.zero) 1∧RoundV k' c (cut j (fun _=>Q4.real (-10)) fun _=>Q4.zero) 1,⟨24,fun k' u=>⟨0,pV 24 zS,pV 24 zS,pV 24 zS,rfl,rfl,(RoundV.zero (k:=k') (K:=1)).seg,ArrV.start RoundV.zero,ArrV.start RoundV.zero⟩⟩,?_⟩;rintro m k4 vs u4 ⟨j,a,b,c,hj,rfl,ha,hb,hc⟩;refine⟨_,a,ha,b,hb.seg,c,hc.seg,rfl,fun hlt=>?_,fun hge=>?_⟩
 ·have hlt:=lt24 hlt;refine⟨ix24 hlt,ix24 hlt,sH (z:=30) oq oq fun k5 d5 u5 h5=>⟨d5,h5.seg,rfl,?_⟩⟩;refine uV (ArrV.at (hb.up u5) hlt) h5 fun k6 d6 u6 h6=>⟨d6,h6.seg,rfl,ix24 hlt,?_⟩;refine sH (z:=-10) oq oq fun k7 d7 u7 h7=>⟨d7,h7.seg,rfl,?_⟩;refine uV (ArrV.at (((hc.up u5).up u6).up u7) hlt) h7 fun k8 d8 u8 h8=>⟨d8,h8.seg,rfl,ix24 hlt,fun k9 u9=>?_⟩;have u59:=(((u5.trans u6).trans u7).trans u8).trans u9;exact⟨m-1,oq,j+1,_,_,_,oq,by rw [wup oq],ha,ArrV.step (hb.up u59) hlt h6.seg.1 (((h6.up u7).up u8).up u9),ArrV.step (hc.up u59) hlt h8.seg.1 (h8.up u9)⟩
 ·have hb:RoundV k4 b (fun _=>Q4.real 30) 1:=ArrV.done hb (ge24 hge);have hc:RoundV k4 c (fun _=>Q4.real (-10)) 1:=ArrV.done hc (ge24 hge);refine aVk ha hb hc oz oz fun k5 d5 e5 u5 h5 g5=>⟨d5,h5.seg,e5,g5.seg,rfl,?_⟩;rw [aTb]at h5;rw [aQs]at g5;refine aMf ((h3.up u4).up u5) oz oz fun k6 d6 u6 h6=>⟨d6,h6.seg,rfl,?_⟩;rw [aQz]at h6;refine rO h6 oz oz fun k7 u7=>⟨_,rfl,fun _=>?_,fun h=>absurd (txt aGl) (by rw [h];decide)⟩;have h3':WaveV k7 (Sy.pickL d3 (Int.toNat 0*0+90) 18).toArray (mY wM 5) (24*1+75):=ArrV.get (i:=5) ((((h3.up u4).up u5).up u6).up u7) oz;rw [aBv]at h3';refine aLk h3' fun k8 d8 u8 h8=>⟨d8,h8.seg,rfl,?_⟩;refine rO (v:=Q4.real (1/24)) h8 oz oz fun k9 u9=>⟨_,rfl,fun _=>?_,fun h=>absurd (txt aGl) (by rw [h];decide)⟩;have u69:=((u6.trans u7).trans u8).trans u9;refine rO (h5.up u69) oz oz fun k10 u10=>⟨_,rfl,fun _=>?_,fun h=>absurd (txt aVq) (by rw [h];decide)⟩;refine rO ((g5.up u69).up u10) oz oz fun k11 u11=>⟨_,rfl,fun k12 u12=>?_⟩;have:=C k12 (((((u4.trans u5).trans u69).trans u10).trans u11).trans u12);rw [show (ByteArray.toList (str (dZ (Q4.real 20))) == ByteArray.toList ⟨#[50,48]⟩)=true from txt aVr];exact this
end
