/- Several texts in one. (Printed by prep.py.) -/
import Derived.Test.YtifcjpacobpdmaaGreatRpNL
namespace Go.Proofs.YtifcjpacobpdmaaGreat
open Num Plain
structure W4 where
 (re im:Q4)
theorem W4.ext' {x y:W4}(h1:x.re=y.re) (h2:x.im=y.im):x=y:=by cases x;cases y;simp_all
instance:DecidableEq Q4:=fun x y=>decidable_of_iff (x.a=y.a∧x.b=y.b∧x.c=y.c∧x.d=y.d)
 ⟨fun ⟨h1,h2,h3,h4⟩=>Q4.ext' h1 h2 h3 h4,fun h=>by rw [h];exact⟨rfl,rfl,rfl,rfl⟩⟩
instance:DecidableEq W4:=fun x y=>decidable_of_iff (x.re=y.re∧x.im=y.im)
 ⟨fun ⟨h1,h2⟩=>W4.ext' h1 h2,fun h=>by rw [h];exact⟨rfl,rfl⟩⟩
def W4.add (x y:W4):W4:=⟨x.re.add y.re,x.im.add y.im⟩
def W4.sub (x y:W4):W4:=⟨x.re.sub y.re,x.im.sub y.im⟩
def W4.mul (x y:W4):W4:=⟨(x.re.mul y.re).sub (x.im.mul y.im),(x.re.mul y.im).add (x.im.mul y.re)⟩
def W4.neg (x:W4):W4:=⟨x.re.neg,x.im.neg⟩
def W4.conj (x:W4):W4:=⟨x.re,x.im.neg⟩
def W4.norm (x:W4):Q4:=(x.re.mul x.re).add (x.im.mul x.im)
def W4.zero:W4:=⟨Q4.zero,Q4.zero⟩
def W4.real (q:Rat):W4:=⟨Q4.real q,Q4.zero⟩
def bBd:Nat→Q4
 | 0=>⟨1,0,0,0⟩
 | 1=>⟨0,1/4,0,1/4⟩
 | 2=>⟨0,0,1/2,0⟩
 | 3=>⟨0,1/2,0,0⟩
 | 4=>⟨1/2,0,0,0⟩
 | 5=>⟨0,-1/4,0,1/4⟩
 | _=>⟨0,0,0,0⟩
def bBe (m:Nat):Q4:=if 6<m then (bBd (12-m)).neg else bBd m
def fH (n:Nat):Q4:=if 12<n then bBe (24-n) else bBe n
def aCg (n:Nat):W4:=⟨fH n,fH ((n+18) % 24)⟩
def plc (k:Int):Nat:=(k % 24).toNat
theorem aZw (k:Int):plc k<24:=by unfold plc;omega
def bCr (k:Nat):Nat→W4
 | 0=>W4.zero
 | j+1=>(bCr k j).add (aCg (j*k % 24))
def q4s (q:Rat):Bool:=(4*q).den == 1 && decide ((4*q).num.natAbs≤1000)
def Q4.small (v:Q4):Bool:=q4s v.a && q4s v.b && q4s v.c && q4s v.d
def W4.small (v:W4):Bool:=v.re.small && v.im.small
def Q4.t1 (y:Q4):Q4:=⟨y.a,-y.b,y.c,-y.d⟩
def Q4.t2 (y:Q4):Q4:=⟨y.a,y.b,-y.c,-y.d⟩
def Q4.cnj (y:Q4):Q4:=(y.t1.mul y.t2).mul y.t1.t2
def Q4.div (x y:Q4):Q4:=⟨(x.mul y.cnj).a/(y.mul y.cnj).a,(x.mul y.cnj).b/(y.mul y.cnj).a,(x.mul y.cnj).c/(y.mul y.cnj).a,(x.mul y.cnj).d/(y.mul y.cnj).a⟩
theorem Q4.cnj_norm (y:Q4):(y.mul y.cnj).b=0∧(y.mul y.cnj).c=0∧(y.mul y.cnj).d=0:=by
 obtain⟨a,b,c,d⟩:=y;simp only [Q4.cnj,Q4.mul,Q4.t1,Q4.t2];refine⟨?_,?_,?_⟩ <;> grind
theorem Q4.t1_ne {y:Q4}(h:y≠Q4.zero):y.t1≠Q4.zero:=fun e=>h (by
 have ha:=congrArg Q4.a e;have hb:=congrArg Q4.b e;have hc:=congrArg Q4.c e;have hd:=congrArg Q4.d e;simp only [Q4.t1,Q4.zero]at ha hb hc hd
 exact Q4.ext' ha (by show y.b=0;grind) hc (by show y.d=0;grind))
theorem Q4.t2_ne {y:Q4}(h:y≠Q4.zero):y.t2≠Q4.zero:=fun e=>h (by
 have ha:=congrArg Q4.a e;have hb:=congrArg Q4.b e;have hc:=congrArg Q4.c e;have hd:=congrArg Q4.d e;simp only [Q4.t2,Q4.zero]at ha hb hc hd
 exact Q4.ext' ha hb (by show y.c=0;grind) (by show y.d=0;grind))
theorem Q4.norm_ne {y:Q4}(h:y≠Q4.zero):(y.mul y.cnj).a≠0:=by
 intro ha;obtain⟨hb,hc,hd⟩:=Q4.cnj_norm y;have e:y.mul y.cnj=Q4.zero:=Q4.ext' ha hb hc hd;have e2:y.toQ*((y.t1.toQ*y.t2.toQ)*y.t1.t2.toQ)=0:=by
  rw [←gH,←gH,←gH];exact (congrArg Q4.toQ e).trans toQ_zero
 exact C.mR (aGg.2 h) (C.mR (C.mR (aGg.2 (Q4.t1_ne h)) (aGg.2 (Q4.t2_ne h))) (aGg.2 (Q4.t2_ne (Q4.t1_ne h)))) e2
def W4.div (x y:W4):W4:=⟨(x.mul y.conj).re.div y.norm,(x.mul y.conj).im.div y.norm⟩
open Go.RowKit
open Value (agg slice int bool tuple)
open Sy (Up Sees CallsG Seg execFn_use)
set_option maxRecDepth 100000
variable {k:World}{R:World→Value→Prop}{cs0 cs1 cs2 cs3:Array Value}
theorem aWw (hcs0:Seg 9 cs0) (hcs1:Seg 9 cs1) (hcs2:Seg 9 cs2) (hcs3:Seg 9 cs3)
 (h:Cl k 36 #[agg cs0,agg cs2] fun k1 r0=>Gt 9 r0 fun cs4=>
 Cl k1 36 #[agg cs1,agg cs3] fun k3 r2=>Gt 9 r2 fun cs5=>
 Rt R k3 (agg (cs4.toList++(cs5.toList++([]))).toArray)) :
  CallsG Tryz.prog 187 #[agg (cs0.toList++(cs1.toList++([]))).toArray,agg (cs2.toList++(cs3.toList++([]))).toArray] k R:=
  qX { opq:=[35] } [.agg [.seg 0 9,.seg 1 9],.agg [.seg 2 9,.seg 3 9]] [agg cs0,agg cs1,agg cs2,agg cs3] [.seg 9,.seg 9,.seg 9,.seg 9] ⟨⟨cs0,rfl,hcs0⟩,⟨cs1,rfl,hcs1⟩,⟨cs2,rfl,hcs2⟩,⟨cs3,rfl,hcs3⟩,trivial⟩ h
theorem aRs (hcs0:Seg 9 cs0) (hcs1:Seg 9 cs1)
 (h:Cl k 37 #[agg cs0,agg cs0] fun k1 r0=>Gt 9 r0 fun cs2=>
 Cl k1 37 #[agg cs1,agg cs1] fun k3 r2=>Gt 9 r2 fun cs3=>
 Cl k3 36 #[agg cs2,agg cs3] fun k5 r4=>Gt 9 r4 fun cs4=>
 Rt R k5 (agg cs4)) :
  CallsG Tryz.prog 114 #[agg (cs0.toList++(cs1.toList++([]))).toArray] k R:=
  qX { opq:=[35] } [.agg [.seg 0 9,.seg 1 9]] [agg cs0,agg cs1] [.seg 9,.seg 9] ⟨⟨cs0,rfl,hcs0⟩,⟨cs1,rfl,hcs1⟩,trivial⟩ h
theorem bAn (hcs0:Seg 9 cs0) (hcs1:Seg 9 cs1)
 (h:Rt R k (agg cs0)) :
 CallsG Tryz.prog 78 #[agg (cs0.toList++(cs1.toList++([]))).toArray] k R:=
 qX { opq:=[35] } [.agg [.seg 0 9,.seg 1 9]] [agg cs0,agg cs1] [.seg 9,.seg 9] ⟨⟨cs0,rfl,hcs0⟩,⟨cs1,rfl,hcs1⟩,trivial⟩ h
theorem bAm (hcs0:Seg 9 cs0) (hcs1:Seg 9 cs1)
 (h:Rt R k (agg cs1)) :
 CallsG Tryz.prog 169 #[agg (cs0.toList++(cs1.toList++([]))).toArray] k R:=
 qX { opq:=[35] } [.agg [.seg 0 9,.seg 1 9]] [agg cs0,agg cs1] [.seg 9,.seg 9] ⟨⟨cs0,rfl,hcs0⟩,⟨cs1,rfl,hcs1⟩,trivial⟩ h
theorem aVo (hcs0:Seg 9 cs0) (hcs1:Seg 9 cs1)
 (h:Rt R k (agg (cs0.toList++(cs1.toList++([]))).toArray)) :
 CallsG Tryz.prog 79 #[agg cs0,agg cs1] k R:=
 qX { opq:=[35] } [.agg [.seg 0 9],.agg [.seg 1 9]] [agg cs0,agg cs1] [.seg 9,.seg 9] ⟨⟨cs0,rfl,hcs0⟩,⟨cs1,rfl,hcs1⟩,trivial⟩ h
end Go.Proofs.YtifcjpacobpdmaaGreat

namespace Go.Proofs.YtifcjpacobpdmaaGreat
open Go.RowKit Num Plain
open Sy (Up Sees CallsG Seg)
def cat2 (c0 c1:Array Value):Array Value:=(c0.toList++(c1.toList++([]))).toArray
theorem aBx {m n:Nat}{c0 c1:Array Value}(h0:Seg m c0) (h1:Seg n c1):Seg (m+n) (cat2 c0 c1):=by
 obtain⟨a0,b0⟩:=h0;obtain⟨a1,b1⟩:=h1;refine⟨by simp [cat2,a0,a1],fun u hu=>?_⟩;simp only [cat2,List.append_nil,List.mem_append]at hu;rcases hu with hu|hu
 ·exact b0 u hu
 ·exact b1 u hu
def WaveV (k:World) (cs:Array Value) (w:W4) (K:Nat):Prop:=∃c0 c1:Array Value,cs=cat2 c0 c1∧SurdV k c0 w.re K∧SurdV k c1 w.im K
section
variable {k k':World}{cs cs' c0 c1:Array Value}{R:World→Value→Prop}{v v':Q4}{x y:W4}{K L:Nat}
theorem WaveV.up (h:WaveV k cs x K) (u:Up k k'):WaveV k' cs x K:=by
 obtain⟨c0,c1,e,h0,h1⟩:=h;exact⟨c0,c1,e,h0.up u,h1.up u⟩
theorem WaveV.mono (h:WaveV k cs x K) (hL:K≤L):WaveV k cs x L:=by
 obtain⟨c0,c1,e,h0,h1⟩:=h;exact⟨c0,c1,e,h0.mono hL,h1.mono hL⟩
theorem WaveV.seg (h:WaveV k cs x K):Seg 18 cs:=by
 obtain⟨c0,c1,rfl,h0,h1⟩:=h;exact aBx h0.seg h1.seg
theorem aYc (hx:WaveV k cs x K) (hy:WaveV k cs' y K) (hK1:1≤K) (hK:K≤134217727) (C:∀k' ds,Up k k'→WaveV k' ds (x.add y) (2*K+1)→R k' (.agg ds)) :
 Cl k 187 #[.agg cs,.agg cs'] R:=by
 intro k0 u0;obtain⟨a,b,rfl,a0,b0⟩:=hx.up u0;obtain⟨c,d,rfl,c0,d0⟩:=hy.up u0;refine aWw a0.seg b0.seg c0.seg d0.seg ?_;refine mJ a0 c0 hK1 oq fun k1 e1 u1 h1=>⟨e1,h1.seg,rfl,?_⟩;refine mJ (b0.up u1) (d0.up u1) hK1 oq fun k3 e3 u3 h3=>⟨e3,h3.seg,rfl,fun k4 u4=>?_⟩;exact C k4 _ (((u0.trans u1).trans u3).trans u4) ⟨e1,e3,rfl,(h1.up u3).up u4,h3.up u4⟩
theorem aTb (hx:WaveV k cs x K) (hK1:1≤K) (hK:K≤33554431) (C:∀k' ds,Up k k'→SurdV k' ds x.norm (4*K+9)→R k' (.agg ds)) :
 Cl k 114 #[.agg cs] R:=by
 intro k0 u0;obtain⟨a,b,rfl,a0,b0⟩:=hx.up u0;refine aRs a0.seg b0.seg ?_;refine aCt a0 a0 hK1 oq fun k1 e1 u1 h1=>⟨e1,h1.seg,rfl,?_⟩;refine aCt (b0.up u1) (b0.up u1) hK1 oq fun k2 e2 u2 h2=>⟨e2,h2.seg,rfl,?_⟩;refine mJ (h1.up u2) h2 oq oq fun k3 e3 u3 h3=>⟨e3,h3.seg,rfl,fun k4 u4=>?_⟩;exact C k4 _ ((((u0.trans u1).trans u2).trans u3).trans u4) ((h3.up u4).mono oq)
theorem aMj (hx:WaveV k cs x K) (C:∀k' ds,Up k k'→SurdV k' ds x.re K→R k' (.agg ds)) :
 Cl k 78 #[.agg cs] R:=by
 intro k0 u0;obtain⟨a,b,rfl,a0,b0⟩:=hx.up u0;exact bAn a0.seg b0.seg fun k1 u1=>C k1 _ (u0.trans u1) (a0.up u1)
theorem bAw (hx:WaveV k cs x K) (C:∀k' ds,Up k k'→SurdV k' ds x.im K→R k' (.agg ds)) :
 Cl k 169 #[.agg cs] R:=by
 intro k0 u0;obtain⟨a,b,rfl,a0,b0⟩:=hx.up u0;exact bAm a0.seg b0.seg fun k1 u1=>C k1 _ (u0.trans u1) (b0.up u1)
theorem aPk (hx:SurdV k cs v K) (hy:SurdV k cs' v' K) (C:∀k' ds,Up k k'→WaveV k' ds ⟨v,v'⟩ K→R k' (.agg ds)) :
 Cl k 79 #[.agg cs,.agg cs'] R:=
 fun _ u0=>aVo hx.seg hy.seg fun k1 u1=>C k1 _ (u0.trans u1) ⟨cs,cs',rfl,(hx.up u0).up u1,(hy.up u0).up u1⟩
end
end Go.Proofs.YtifcjpacobpdmaaGreat

namespace Go.Proofs.YtifcjpacobpdmaaGreat.W32
open Go.RowKit Num
open Sy (Up Sees CallsG Seg)
def cat4 (c0 c1 c2 c3:Array Value):Array Value:=(c0.toList++(c1.toList++(c2.toList++(c3.toList++([]))))).toArray
def SQ (k:World) (cs:Array Value) (v:Q4) (K:Nat):Prop:=∃c0 c1 c2 c3:Array Value,cs=cat4 c0 c1 c2 c3∧QV k c0 v.a K∧QV k c1 v.b K∧QV k c2 v.c K∧QV k c3 v.d K
section
variable {k k':World}{cs cs' c0 c1 c2 c3:Array Value}{R:World→Value→Prop}{x y q q':Rat}{v v':Q4}{K L:Nat}
theorem QV.cast (h:QV k cs q K) (e:q=q'):QV k cs q' K:=e▸h
theorem SQ.up (h:SQ k cs v K) (u:Up k k'):SQ k' cs v K:=by
 obtain⟨c0,c1,c2,c3,e,h0,h1,h2,h3⟩:=h;exact⟨c0,c1,c2,c3,e,h0.up u,h1.up u,h2.up u,h3.up u⟩
theorem SQ.mono (h:SQ k cs v K) (hL:K≤L):SQ k cs v L:=by
 obtain⟨c0,c1,c2,c3,e,h0,h1,h2,h3⟩:=h;exact⟨c0,c1,c2,c3,e,h0.mono hL,h1.mono hL,h2.mono hL,h3.mono hL⟩
theorem aQx (h0:Seg 3 c0) (h1:Seg 3 c1) (h2:Seg 3 c2) (h3:Seg 3 c3):Seg 12 (cat4 c0 c1 c2 c3):=by
 obtain⟨a0,b0⟩:=h0;obtain⟨a1,b1⟩:=h1;obtain⟨a2,b2⟩:=h2;obtain⟨a3,b3⟩:=h3;refine⟨by simp [cat4,a0,a1,a2,a3],fun u hu=>?_⟩;simp only [cat4,List.append_nil,List.mem_append]at hu;rcases hu with hu|hu|hu|hu
 ·exact b0 u hu
 ·exact b1 u hu
 ·exact b2 u hu
 ·exact b3 u hu
theorem SQ.seg (h:SQ k cs v K):Seg 12 cs:=by
 obtain⟨c0,c1,c2,c3,rfl,h0,h1,h2,h3⟩:=h;exact aQx h0.seg h1.seg h2.seg h3.seg
end
section
variable {k k':World}{cs cs' c0 c1 c2 c3:Array Value}{R:World→Value→Prop}{x y q q':Rat}{v v':Q4}{K L:Nat}
theorem aHo {n0 n1 n2 n3 n4 n5 n6 n7:Int}(h0:In64 n0) (h1:In64 n1) (h2:In64 n2) (h3:In64 n3) (h4:In64 n4) (h5:In64 n5) (h6:In64 n6) (h7:In64 n7) (C:∀k' ds,Up k k'→SQ k' ds ⟨ofQ n0 n1,ofQ n2 n3,ofQ n4 n5,ofQ n6 n7⟩ 2→R k' (.agg ds)) :
 Cl k 159 #[.agg #[.int .i64 n0,.int .i64 n1,.int .i64 n2,.int .i64 n3,.int .i64 n4,.int .i64 n5,.int .i64 n6,.int .i64 n7]] R:=by
 intro k0 u0;refine aFb (aVm h0 h1 fun k1 d1 u1 q1=>⟨d1,q1.seg,rfl,?_⟩);refine aVm h2 h3 fun k3 d3 u3 q3=>⟨d3,q3.seg,rfl,?_⟩;refine aVm h4 h5 fun k5 d5 u5 q5=>⟨d5,q5.seg,rfl,?_⟩;refine aVm h6 h7 fun k7 d7 u7 q7=>⟨d7,q7.seg,rfl,fun k8 u8=>?_⟩;exact C k8 _ (((((u0.trans u1).trans u3).trans u5).trans u7).trans u8) ⟨d1,d3,d5,d7,rfl,(((q1.up u3).up u5).up u7).up u8,((q3.up u5).up u7).up u8,(q5.up u7).up u8,q7.up u8⟩
end
def WQ (k:World) (cs:Array Value) (w:W4) (K:Nat):Prop:=∃c0 c1:Array Value,cs=cat2 c0 c1∧SQ k c0 w.re K∧SQ k c1 w.im K
section
variable {k k':World}{cs cs' c0 c1:Array Value}{R:World→Value→Prop}{v v':Q4}{x y:W4}{q:Rat}{K L:Nat}
theorem WQ.up (h:WQ k cs x K) (u:Up k k'):WQ k' cs x K:=by
 obtain⟨c0,c1,e,h0,h1⟩:=h;exact⟨c0,c1,e,h0.up u,h1.up u⟩
theorem WQ.mono (h:WQ k cs x K) (hL:K≤L):WQ k cs x L:=by
 obtain⟨c0,c1,e,h0,h1⟩:=h;exact⟨c0,c1,e,h0.mono hL,h1.mono hL⟩
theorem WQ.seg (h:WQ k cs x K):Seg 24 cs:=by
 obtain⟨c0,c1,rfl,h0,h1⟩:=h;exact aBx h0.seg h1.seg
theorem aLy {n0 n1 n2 n3 n4 n5 n6 n7 n8 n9 n10 n11 n12 n13 n14 n15:Int}(h0:In64 n0) (h1:In64 n1) (h2:In64 n2) (h3:In64 n3) (h4:In64 n4) (h5:In64 n5) (h6:In64 n6) (h7:In64 n7) (h8:In64 n8) (h9:In64 n9) (h10:In64 n10) (h11:In64 n11) (h12:In64 n12) (h13:In64 n13) (h14:In64 n14) (h15:In64 n15) (C:∀k' ds,Up k k'→WQ k' ds ⟨⟨ofQ n0 n1,ofQ n2 n3,ofQ n4 n5,ofQ n6 n7⟩,⟨ofQ n8 n9,ofQ n10 n11,ofQ n12 n13,ofQ n14 n15⟩⟩ 2→R k' (.agg ds)) :
 Cl k 71 #[.agg #[.int .i64 n0,.int .i64 n1,.int .i64 n2,.int .i64 n3,.int .i64 n4,.int .i64 n5,.int .i64 n6,.int .i64 n7,.int .i64 n8,.int .i64 n9,.int .i64 n10,.int .i64 n11,.int .i64 n12,.int .i64 n13,.int .i64 n14,.int .i64 n15]] R:=by
 intro k0 u0;refine aFt (aHo h0 h1 h2 h3 h4 h5 h6 h7 fun k1 d1 u1 q1=>⟨d1,q1.seg,rfl,?_⟩);refine aHo h8 h9 h10 h11 h12 h13 h14 h15 fun k3 d3 u3 q3=>⟨d3,q3.seg,rfl,fun k4 u4=>?_⟩;exact C k4 _ (((u0.trans u1).trans u3).trans u4) ⟨d1,d3,rfl,(q1.up u3).up u4,q3.up u4⟩
end
end Go.Proofs.YtifcjpacobpdmaaGreat.W32

namespace Go.Proofs.YtifcjpacobpdmaaGreat
open Go.RowKit
open Value (agg slice int bool tuple)
open Sy (Up Sees CallsG Seg execFn_use)
set_option maxRecDepth 100000
variable {k:World}{R:World→Value→Prop}
end Go.Proofs.YtifcjpacobpdmaaGreat

namespace Go.Proofs.YtifcjpacobpdmaaGreat.W32
open Go.RowKit Num
open Sy (Up Sees CallsG Seg)
section
variable {k k':World}{cs cs' c0 c1 c2 c3:Array Value}{R:World→Value→Prop}{x y q q':Rat}{v v':Q4}{K L:Nat}
end
end Go.Proofs.YtifcjpacobpdmaaGreat.W32

namespace Go.Proofs.YtifcjpacobpdmaaGreat
open Go.RowKit
open Value (agg slice int bool tuple)
open Sy (Up Sees CallsG Seg execFn_use)
set_option maxRecDepth 100000
variable {k:World}{R:World→Value→Prop}{n0 n1 n2 n3 n4 n5 n6 n7 n8 n9 n10 n11 n12 n13 n14 n15:Int}
theorem aHw 
 (h:Cl k 110 #[agg #[int .i64 n0,int .i64 n1]] fun k1 r0=>Gt 3 r0 fun cs8=>
 Cl k1 110 #[agg #[int .i64 n2,int .i64 n3]] fun k3 r2=>Gt 3 r2 fun cs9=>
 Cl k3 110 #[agg #[int .i64 n4,int .i64 n5]] fun k5 r4=>Gt 3 r4 fun cs10=>
 Cl k5 110 #[agg #[int .i64 n6,int .i64 n7]] fun k7 r6=>Gt 3 r6 fun cs11=>
 Cl k7 248 #[Rg cs8 cs9 cs10 cs11] fun k9 r8=>Gt 9 r8 fun cs12=>
 Rt R k9 (agg cs12)) :
  CallsG Tryz.prog 158 #[agg #[int .i64 n0,int .i64 n1,int .i64 n2,int .i64 n3,int .i64 n4,int .i64 n5,int .i64 n6,int .i64 n7]] k R:=
  qY { opq:=[88,35] } h
theorem aHx 
 (h:Cl k 158 #[agg #[int .i64 n0,int .i64 n1,int .i64 n2,int .i64 n3,int .i64 n4,int .i64 n5,int .i64 n6,int .i64 n7]] fun k1 r0=>Gt 9 r0 fun cs16=>
 Cl k1 158 #[agg #[int .i64 n8,int .i64 n9,int .i64 n10,int .i64 n11,int .i64 n12,int .i64 n13,int .i64 n14,int .i64 n15]] fun k3 r2=>Gt 9 r2 fun cs17=>
 Cl k3 79 #[agg cs16,agg cs17] fun k5 r4=>∃cs18,Seg 9 cs18∧∃cs19,Seg 9 cs19∧some (agg (cs18.toList++(cs19.toList++([]))).toArray)=some r4∧
 Rt R k5 (agg (cs18.toList++(cs19.toList++([]))).toArray)) :
  CallsG Tryz.prog 70 #[agg #[int .i64 n0,int .i64 n1,int .i64 n2,int .i64 n3,int .i64 n4,int .i64 n5,int .i64 n6,int .i64 n7,int .i64 n8,int .i64 n9,int .i64 n10,int .i64 n11,int .i64 n12,int .i64 n13,int .i64 n14,int .i64 n15]] k R:=
  qY { opq:=[35] } h
end Go.Proofs.YtifcjpacobpdmaaGreat

namespace Go.Proofs.YtifcjpacobpdmaaGreat
open Go.RowKit Num Plain W32
open Sy (Up Sees CallsG Seg)
section
variable {k k':World}{R:World→Value→Prop}{x q:Rat}{K L:Nat}{cs cs':Array Value}{v:Q4}{w:W4}
theorem zG {n0 n1 n2 n3 n4 n5 n6 n7:Int}(h0:In64 n0) (h1:In64 n1) (h2:In64 n2) (h3:In64 n3) (h4:In64 n4) (h5:In64 n5) (h6:In64 n6) (h7:In64 n7) (C:∀k' ds,Up k k'→SurdV k' ds ⟨ofQ n0 n1,ofQ n2 n3,ofQ n4 n5,ofQ n6 n7⟩ 6→R k' (.agg ds)) :
 Cl k 158 #[.agg #[.int .i64 n0,.int .i64 n1,.int .i64 n2,.int .i64 n3,.int .i64 n4,.int .i64 n5,.int .i64 n6,.int .i64 n7]] R:=by
 intro k0 u0;replace C:=fun k' ds u=>C k' ds (u0.trans u);refine aHw ?_;refine aSu h0 h1 ?_;intro k1 c1 u1 q1;refine⟨c1,q1.seg,rfl,?_⟩;refine aSu h2 h3 ?_;intro k2 c2 u2 q2;refine⟨c2,q2.seg,rfl,?_⟩;refine aSu h4 h5 ?_;intro k3 c3 u3 q3;refine⟨c3,q3.seg,rfl,?_⟩;refine aSu h6 h7 ?_;intro k4 c4 u4 q4;refine⟨c4,q4.seg,rfl,?_⟩;refine aXw (((q1.up u2).up u3).up u4) ((q2.up u3).up u4) (q3.up u4) q4 oq oq ?_;intro k5 c5 u5 h5;refine⟨c5,h5.seg,rfl,?_⟩;intro k6 u6;exact C k6 c5 (((((u1.trans u2).trans u3).trans u4).trans u5).trans u6) (h5.up u6)
theorem aMd {n0 n1 n2 n3 n4 n5 n6 n7 n8 n9 n10 n11 n12 n13 n14 n15:Int}(h0:In64 n0) (h1:In64 n1) (h2:In64 n2) (h3:In64 n3) (h4:In64 n4) (h5:In64 n5) (h6:In64 n6) (h7:In64 n7) (h8:In64 n8) (h9:In64 n9) (h10:In64 n10) (h11:In64 n11) (h12:In64 n12) (h13:In64 n13) (h14:In64 n14) (h15:In64 n15) (C:∀k' ds,Up k k'→WaveV k' ds ⟨⟨ofQ n0 n1,ofQ n2 n3,ofQ n4 n5,ofQ n6 n7⟩,⟨ofQ n8 n9,ofQ n10 n11,ofQ n12 n13,ofQ n14 n15⟩⟩ 6→R k' (.agg ds)) :
 Cl k 70 #[.agg #[.int .i64 n0,.int .i64 n1,.int .i64 n2,.int .i64 n3,.int .i64 n4,.int .i64 n5,.int .i64 n6,.int .i64 n7,.int .i64 n8,.int .i64 n9,.int .i64 n10,.int .i64 n11,.int .i64 n12,.int .i64 n13,.int .i64 n14,.int .i64 n15]] R:=by
 intro k0 u0;refine aHx (zG h0 h1 h2 h3 h4 h5 h6 h7 fun k1 d1 u1 q1=>⟨d1,q1.seg,rfl,?_⟩);refine zG h8 h9 h10 h11 h12 h13 h14 h15 fun k3 d3 u3 q3=>⟨d3,q3.seg,rfl,?_⟩;refine aPk (q1.up u3) q3 fun k5 d5 u5 q5=>?_;have q5':=q5;obtain⟨a,b,rfl,a0,b0⟩:=q5';exact⟨a,a0.seg,b,b0.seg,rfl,fun k6 u6=>C k6 _ ((((u0.trans u1).trans u3).trans u5).trans u6) (q5.up u6)⟩
end
