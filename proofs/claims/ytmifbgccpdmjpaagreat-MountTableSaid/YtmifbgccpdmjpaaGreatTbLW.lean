/- Several texts in one. (Printed by prep.py.) -/
import Derived.Test.YtmifbgccpdmjpaaGreatTbFB
namespace Go.Proofs.YtmifbgccpdmjpaaGreat
open Num Plain
structure W4 where
 (re im:Q4)
theorem W4.ext' {x y:W4}(h1:x.re=y.re) (h2:x.im=y.im):x=y:=by cases x;cases y;simp_all
instance:DecidableEq Q4:=fun x y=>decidable_of_iff (x.a=y.a∧x.b=y.b∧x.c=y.c∧x.d=y.d)
 ⟨fun ⟨h1,h2,h3,h4⟩=>Q4.ext' h1 h2 h3 h4,fun h=>by rw [h];exact⟨rfl,rfl,rfl,rfl⟩⟩
instance:DecidableEq W4:=fun x y=>decidable_of_iff (x.re=y.re∧x.im=y.im)
 ⟨fun ⟨h1,h2⟩=>W4.ext' h1 h2,fun h=>by rw [h];exact⟨rfl,rfl⟩⟩
def W4.add (x y:W4):W4:=⟨x.re.add y.re,x.im.add y.im⟩
def W4.sub (x y:W4):W4:=⟨x.re.sub y.re,x.im.sub y.im⟩
def W4.mul (x y:W4):W4:=⟨(x.re.mul y.re).sub (x.im.mul y.im),(x.re.mul y.im).add (x.im.mul y.re)⟩
def W4.neg (x:W4):W4:=⟨x.re.neg,x.im.neg⟩
def W4.conj (x:W4):W4:=⟨x.re,x.im.neg⟩
def W4.norm (x:W4):Q4:=(x.re.mul x.re).add (x.im.mul x.im)
def W4.zero:W4:=⟨Q4.zero,Q4.zero⟩
def W4.real (q:Rat):W4:=⟨Q4.real q,Q4.zero⟩
theorem Q4.sub_zero_iff {x y:Q4}:x.sub y=Q4.zero↔x=y:=by
 constructor
 ·intro h;have ha:=congrArg Q4.a h;have hb:=congrArg Q4.b h;have hc:=congrArg Q4.c h;have hd:=congrArg Q4.d h;simp only [Q4.sub,Q4.add,Q4.neg,Q4.zero]at ha hb hc hd;exact Q4.ext' (by grind) (by grind) (by grind) (by grind)
 ·intro h;subst h;simp only [Q4.sub,Q4.add,Q4.neg,Q4.zero];exact Q4.ext' (by grind) (by grind) (by grind) (by grind)
def bBd:Nat→Q4
 | 0=>⟨1,0,0,0⟩
 | 1=>⟨0,1/4,0,1/4⟩
 | 2=>⟨0,0,1/2,0⟩
 | 3=>⟨0,1/2,0,0⟩
 | 4=>⟨1/2,0,0,0⟩
 | 5=>⟨0,-1/4,0,1/4⟩
 | _=>⟨0,0,0,0⟩
def bBe (m:Nat):Q4:=if 6<m then (bBd (12-m)).neg else bBd m
def cJ (n:Nat):Q4:=if 12<n then bBe (24-n) else bBe n
def oN (n:Nat):W4:=⟨cJ n,cJ ((n+18) % 24)⟩
def plc (k:Int):Nat:=(k % 24).toNat
theorem aNy (k:Int):plc k<24:=by unfold plc;omega
def bDi (k:Nat):Nat→W4
 | 0=>W4.zero
 | j+1=>(bDi k j).add (oN (j*k % 24))
def q4s (q:Rat):Bool:=(4*q).den == 1 && decide ((4*q).num.natAbs≤1000)
def Q4.small (v:Q4):Bool:=q4s v.a && q4s v.b && q4s v.c && q4s v.d
def W4.small (v:W4):Bool:=v.re.small && v.im.small
def Q4.t1 (y:Q4):Q4:=⟨y.a,-y.b,y.c,-y.d⟩
def Q4.t2 (y:Q4):Q4:=⟨y.a,y.b,-y.c,-y.d⟩
def Q4.cnj (y:Q4):Q4:=(y.t1.mul y.t2).mul y.t1.t2
def Q4.div (x y:Q4):Q4:=⟨(x.mul y.cnj).a/(y.mul y.cnj).a,(x.mul y.cnj).b/(y.mul y.cnj).a,(x.mul y.cnj).c/(y.mul y.cnj).a,(x.mul y.cnj).d/(y.mul y.cnj).a⟩
theorem Q4.cnj_norm (y:Q4):(y.mul y.cnj).b=0∧(y.mul y.cnj).c=0∧(y.mul y.cnj).d=0:=by
 obtain⟨a,b,c,d⟩:=y;simp only [Q4.cnj,Q4.mul,Q4.t1,Q4.t2];refine⟨?_,?_,?_⟩ <;> grind
theorem Q4.t1_ne {y:Q4}(h:y≠Q4.zero):y.t1≠Q4.zero:=fun e=>h (by
 have ha:=congrArg Q4.a e;have hb:=congrArg Q4.b e;have hc:=congrArg Q4.c e;have hd:=congrArg Q4.d e;simp only [Q4.t1,Q4.zero]at ha hb hc hd
 exact Q4.ext' ha (by show y.b=0;grind) hc (by show y.d=0;grind))
theorem Q4.t2_ne {y:Q4}(h:y≠Q4.zero):y.t2≠Q4.zero:=fun e=>h (by
 have ha:=congrArg Q4.a e;have hb:=congrArg Q4.b e;have hc:=congrArg Q4.c e;have hd:=congrArg Q4.d e;simp only [Q4.t2,Q4.zero]at ha hb hc hd
 exact Q4.ext' ha hb (by show y.c=0;grind) (by show y.d=0;grind))
theorem Q4.norm_ne {y:Q4}(h:y≠Q4.zero):(y.mul y.cnj).a≠0:=by
 intro ha;obtain⟨hb,hc,hd⟩:=Q4.cnj_norm y;have e:y.mul y.cnj=Q4.zero:=Q4.ext' ha hb hc hd;have e2:y.toQ*((y.t1.toQ*y.t2.toQ)*y.t1.t2.toQ)=0:=by
  rw [←eO,←eO,←eO];exact (congrArg Q4.toQ e).trans toQ_zero
 exact C.mT (aFb.2 h) (C.mT (C.mT (aFb.2 (Q4.t1_ne h)) (aFb.2 (Q4.t2_ne h))) (aFb.2 (Q4.t2_ne (Q4.t1_ne h)))) e2
theorem Q4.zero_iff (v:Q4):decide (v=Q4.zero)=(decide (v.a=0) && decide (v.b=0) && decide (v.c=0) && decide (v.d=0)):=by
 rw [xq];simp only [qf,decide_eq_true_iff];constructor
 ·intro h;subst h;exact⟨⟨⟨rfl,rfl⟩,rfl⟩,rfl⟩
 ·intro ⟨⟨⟨h1,h2⟩,h3⟩,h4⟩;exact Q4.ext' h1 h2 h3 h4
def W4.div (x y:W4):W4:=⟨(x.mul y.conj).re.div y.norm,(x.mul y.conj).im.div y.norm⟩
open Go.RowKit
open Value (agg slice int bool tuple)
open Sy (Up Sees CallsG Seg execFn_use)
set_option maxRecDepth 100000
variable {k:World}{R:World→Value→Prop}{cs0 cs1 cs2 cs3:Array Value}
theorem aWn (hcs0:Seg 9 cs0) (hcs1:Seg 9 cs1) (hcs2:Seg 9 cs2) (hcs3:Seg 9 cs3)
 (h:Cl k 74 #[agg cs0,agg cs2] fun k1 r0=>Gt 9 r0 fun cs4=>
 Cl k1 74 #[agg cs1,agg cs3] fun k3 r2=>Gt 9 r2 fun cs5=>
 Rt R k3 (agg (cs4.toList++(cs5.toList++([]))).toArray)) :
  CallsG Tryz.prog 287 #[agg (cs0.toList++(cs1.toList++([]))).toArray,agg (cs2.toList++(cs3.toList++([]))).toArray] k R:=
  qX { opq:=[36] } [.agg [.seg 0 9,.seg 1 9],.agg [.seg 2 9,.seg 3 9]] [agg cs0,agg cs1,agg cs2,agg cs3] [.seg 9,.seg 9,.seg 9,.seg 9] ⟨⟨cs0,rfl,hcs0⟩,⟨cs1,rfl,hcs1⟩,⟨cs2,rfl,hcs2⟩,⟨cs3,rfl,hcs3⟩,trivial⟩ h
theorem aWo (hcs0:Seg 9 cs0) (hcs1:Seg 9 cs1) (hcs2:Seg 9 cs2) (hcs3:Seg 9 cs3)
 (h:Cl k 91 #[agg cs0,agg cs2] fun k1 r0=>Gt 9 r0 fun cs4=>
 Cl k1 91 #[agg cs1,agg cs3] fun k3 r2=>Gt 9 r2 fun cs5=>
 Cl k3 113 #[agg cs4,agg cs5] fun k5 r4=>Gt 9 r4 fun cs6=>
 Cl k5 91 #[agg cs0,agg cs3] fun k7 r6=>Gt 9 r6 fun cs7=>
 Cl k7 91 #[agg cs1,agg cs2] fun k9 r8=>Gt 9 r8 fun cs8=>
 Cl k9 74 #[agg cs7,agg cs8] fun k11 r10=>Gt 9 r10 fun cs9=>
 Rt R k11 (agg (cs6.toList++(cs9.toList++([]))).toArray)) :
  CallsG Tryz.prog 175 #[agg (cs0.toList++(cs1.toList++([]))).toArray,agg (cs2.toList++(cs3.toList++([]))).toArray] k R:=
  qX { opq:=[36] } [.agg [.seg 0 9,.seg 1 9],.agg [.seg 2 9,.seg 3 9]] [agg cs0,agg cs1,agg cs2,agg cs3] [.seg 9,.seg 9,.seg 9,.seg 9] ⟨⟨cs0,rfl,hcs0⟩,⟨cs1,rfl,hcs1⟩,⟨cs2,rfl,hcs2⟩,⟨cs3,rfl,hcs3⟩,trivial⟩ h
theorem aRk (hcs0:Seg 9 cs0) (hcs1:Seg 9 cs1)
 (h:Cl k 225 #[agg cs1] fun k1 r0=>Gt 9 r0 fun cs2=>
 Rt R k1 (agg (cs0.toList++(cs2.toList++([]))).toArray)) :
  CallsG Tryz.prog 174 #[agg (cs0.toList++(cs1.toList++([]))).toArray] k R:=
  qX { opq:=[36] } [.agg [.seg 0 9,.seg 1 9]] [agg cs0,agg cs1] [.seg 9,.seg 9] ⟨⟨cs0,rfl,hcs0⟩,⟨cs1,rfl,hcs1⟩,trivial⟩ h
theorem aRm (hcs0:Seg 9 cs0) (hcs1:Seg 9 cs1)
 (h:Cl k 91 #[agg cs0,agg cs0] fun k1 r0=>Gt 9 r0 fun cs2=>
 Cl k1 91 #[agg cs1,agg cs1] fun k3 r2=>Gt 9 r2 fun cs3=>
 Cl k3 74 #[agg cs2,agg cs3] fun k5 r4=>Gt 9 r4 fun cs4=>
 Rt R k5 (agg cs4)) :
  CallsG Tryz.prog 33 #[agg (cs0.toList++(cs1.toList++([]))).toArray] k R:=
  qX { opq:=[36] } [.agg [.seg 0 9,.seg 1 9]] [agg cs0,agg cs1] [.seg 9,.seg 9] ⟨⟨cs0,rfl,hcs0⟩,⟨cs1,rfl,hcs1⟩,trivial⟩ h
theorem bAi (hcs0:Seg 9 cs0) (hcs1:Seg 9 cs1)
 (h:Rt R k (agg cs0)) :
 CallsG Tryz.prog 117 #[agg (cs0.toList++(cs1.toList++([]))).toArray] k R:=
 qX { opq:=[36] } [.agg [.seg 0 9,.seg 1 9]] [agg cs0,agg cs1] [.seg 9,.seg 9] ⟨⟨cs0,rfl,hcs0⟩,⟨cs1,rfl,hcs1⟩,trivial⟩ h
theorem bAh (hcs0:Seg 9 cs0) (hcs1:Seg 9 cs1)
 (h:Rt R k (agg cs1)) :
 CallsG Tryz.prog 176 #[agg (cs0.toList++(cs1.toList++([]))).toArray] k R:=
 qX { opq:=[36] } [.agg [.seg 0 9,.seg 1 9]] [agg cs0,agg cs1] [.seg 9,.seg 9] ⟨⟨cs0,rfl,hcs0⟩,⟨cs1,rfl,hcs1⟩,trivial⟩ h
theorem aUx (hcs0:Seg 9 cs0) (hcs1:Seg 9 cs1)
 (h:Rt R k (agg (cs0.toList++(cs1.toList++([]))).toArray)) :
 CallsG Tryz.prog 284 #[agg cs0,agg cs1] k R:=
 qX { opq:=[36] } [.agg [.seg 0 9],.agg [.seg 1 9]] [agg cs0,agg cs1] [.seg 9,.seg 9] ⟨⟨cs0,rfl,hcs0⟩,⟨cs1,rfl,hcs1⟩,trivial⟩ h
end Go.Proofs.YtmifbgccpdmjpaaGreat

namespace Go.Proofs.YtmifbgccpdmjpaaGreat
open Go.RowKit Num Plain
open Sy (Up Sees CallsG Seg)
def cat2 (c0 c1:Array Value):Array Value:=(c0.toList++(c1.toList++([]))).toArray
theorem aBl {m n:Nat}{c0 c1:Array Value}(h0:Seg m c0) (h1:Seg n c1):Seg (m+n) (cat2 c0 c1):=by
 obtain⟨a0,b0⟩:=h0;obtain⟨a1,b1⟩:=h1;refine⟨by simp [cat2,a0,a1],fun u hu=>?_⟩;simp only [cat2,List.append_nil,List.mem_append]at hu;rcases hu with hu|hu
 ·exact b0 u hu
 ·exact b1 u hu
def WaveV (k:World) (cs:Array Value) (w:W4) (K:Nat):Prop:=∃c0 c1:Array Value,cs=cat2 c0 c1∧SurdV k c0 w.re K∧SurdV k c1 w.im K
section
variable {k k':World}{cs cs' c0 c1:Array Value}{R:World→Value→Prop}{v v':Q4}{x y:W4}{K L:Nat}
theorem WaveV.up (h:WaveV k cs x K) (u:Up k k'):WaveV k' cs x K:=by
 obtain⟨c0,c1,e,h0,h1⟩:=h;exact⟨c0,c1,e,h0.up u,h1.up u⟩
theorem WaveV.mono (h:WaveV k cs x K) (hL:K≤L):WaveV k cs x L:=by
 obtain⟨c0,c1,e,h0,h1⟩:=h;exact⟨c0,c1,e,h0.mono hL,h1.mono hL⟩
theorem WaveV.seg (h:WaveV k cs x K):Seg 18 cs:=by
 obtain⟨c0,c1,rfl,h0,h1⟩:=h;exact aBl h0.seg h1.seg
theorem aXt (hx:WaveV k cs x K) (hy:WaveV k cs' y K) (hK1:1≤K) (hK:K≤134217727) (C:∀k' ds,Up k k'→WaveV k' ds (x.add y) (2*K+1)→R k' (.agg ds)) :
 Cl k 287 #[.agg cs,.agg cs'] R:=by
 intro k0 u0;obtain⟨a,b,rfl,a0,b0⟩:=hx.up u0;obtain⟨c,d,rfl,c0,d0⟩:=hy.up u0;refine aWn a0.seg b0.seg c0.seg d0.seg ?_;refine mN a0 c0 hK1 oq fun k1 e1 u1 h1=>⟨e1,h1.seg,rfl,?_⟩;refine mN (b0.up u1) (d0.up u1) hK1 oq fun k3 e3 u3 h3=>⟨e3,h3.seg,rfl,fun k4 u4=>?_⟩;exact C k4 _ (((u0.trans u1).trans u3).trans u4) ⟨e1,e3,rfl,(h1.up u3).up u4,h3.up u4⟩
theorem aCa (hx:WaveV k cs x K) (hy:WaveV k cs' y K) (hK1:1≤K) (hK:K≤33554431) (C:∀k' ds,Up k k'→WaveV k' ds (x.mul y) (4*K+9)→R k' (.agg ds)) :
 Cl k 175 #[.agg cs,.agg cs'] R:=by
 intro k0 u0;obtain⟨a,b,rfl,a0,b0⟩:=hx.up u0;obtain⟨c,d,rfl,c0,d0⟩:=hy.up u0;refine aWo a0.seg b0.seg c0.seg d0.seg ?_;refine kC a0 c0 hK1 oq fun k1 e1 u1 h1=>⟨e1,h1.seg,rfl,?_⟩;refine kC (b0.up u1) (d0.up u1) hK1 oq fun k2 e2 u2 h2=>⟨e2,h2.seg,rfl,?_⟩;refine rY (h1.up u2) h2 oq oq fun k3 e3 u3 h3=>⟨e3,h3.seg,rfl,?_⟩;have u123:=(u1.trans u2).trans u3;refine kC (a0.up u123) (d0.up u123) hK1 oq fun k4 e4 u4 h4=>⟨e4,h4.seg,rfl,?_⟩;refine kC (b0.up (u123.trans u4)) (c0.up (u123.trans u4)) hK1 oq fun k5 e5 u5 h5=>⟨e5,h5.seg,rfl,?_⟩;refine mN (h4.up u5) h5 oq oq fun k6 e6 u6 h6=>⟨e6,h6.seg,rfl,fun k7 u7=>?_⟩;exact C k7 _ (((((u0.trans u123).trans u4).trans u5).trans u6).trans u7) ⟨e3,e6,rfl,((((h3.up u4).up u5).up u6).up u7).mono oq,(h6.up u7).mono oq⟩
theorem aSs (hx:WaveV k cs x K) (hK:K≤268435456) (C:∀k' ds,Up k k'→WaveV k' ds x.conj K→R k' (.agg ds)) :
 Cl k 174 #[.agg cs] R:=by
 intro k0 u0;obtain⟨a,b,rfl,a0,b0⟩:=hx.up u0;refine aRk a0.seg b0.seg ?_;refine fN b0 hK fun k2 e2 u2 h2=>⟨e2,h2.seg,rfl,fun k4 u4=>?_⟩;exact C k4 _ ((u0.trans u2).trans u4) ⟨a,e2,rfl,(a0.up u2).up u4,h2.up u4⟩
theorem aSt (hx:WaveV k cs x K) (hK1:1≤K) (hK:K≤33554431) (C:∀k' ds,Up k k'→SurdV k' ds x.norm (4*K+9)→R k' (.agg ds)) :
 Cl k 33 #[.agg cs] R:=by
 intro k0 u0;obtain⟨a,b,rfl,a0,b0⟩:=hx.up u0;refine aRm a0.seg b0.seg ?_;refine kC a0 a0 hK1 oq fun k1 e1 u1 h1=>⟨e1,h1.seg,rfl,?_⟩;refine kC (b0.up u1) (b0.up u1) hK1 oq fun k2 e2 u2 h2=>⟨e2,h2.seg,rfl,?_⟩;refine mN (h1.up u2) h2 oq oq fun k3 e3 u3 h3=>⟨e3,h3.seg,rfl,fun k4 u4=>?_⟩;exact C k4 _ ((((u0.trans u1).trans u2).trans u3).trans u4) ((h3.up u4).mono oq)
theorem aWz (hx:WaveV k cs x K) (C:∀k' ds,Up k k'→SurdV k' ds x.re K→R k' (.agg ds)) :
 Cl k 117 #[.agg cs] R:=by
 intro k0 u0;obtain⟨a,b,rfl,a0,b0⟩:=hx.up u0;exact bAi a0.seg b0.seg fun k1 u1=>C k1 _ (u0.trans u1) (a0.up u1)
theorem aWy (hx:WaveV k cs x K) (C:∀k' ds,Up k k'→SurdV k' ds x.im K→R k' (.agg ds)) :
 Cl k 176 #[.agg cs] R:=by
 intro k0 u0;obtain⟨a,b,rfl,a0,b0⟩:=hx.up u0;exact bAh a0.seg b0.seg fun k1 u1=>C k1 _ (u0.trans u1) (b0.up u1)
theorem aZk (hx:SurdV k cs v K) (hy:SurdV k cs' v' K) (C:∀k' ds,Up k k'→WaveV k' ds ⟨v,v'⟩ K→R k' (.agg ds)) :
 Cl k 284 #[.agg cs,.agg cs'] R:=
 fun _ u0=>aUx hx.seg hy.seg fun k1 u1=>C k1 _ (u0.trans u1) ⟨cs,cs',rfl,(hx.up u0).up u1,(hy.up u0).up u1⟩
end
end Go.Proofs.YtmifbgccpdmjpaaGreat

namespace Go.Proofs.YtmifbgccpdmjpaaGreat.W32
open Go.RowKit Num
open Sy (Up Sees CallsG Seg)
def cat4 (c0 c1 c2 c3:Array Value):Array Value:=(c0.toList++(c1.toList++(c2.toList++(c3.toList++([]))))).toArray
def SQ (k:World) (cs:Array Value) (v:Q4) (K:Nat):Prop:=∃c0 c1 c2 c3:Array Value,cs=cat4 c0 c1 c2 c3∧QV k c0 v.a K∧QV k c1 v.b K∧QV k c2 v.c K∧QV k c3 v.d K
section
variable {k k':World}{cs cs' c0 c1 c2 c3:Array Value}{R:World→Value→Prop}{x y q q':Rat}{v v':Q4}{K L:Nat}
theorem QV.cast (h:QV k cs q K) (e:q=q'):QV k cs q' K:=e▸h
theorem SQ.up (h:SQ k cs v K) (u:Up k k'):SQ k' cs v K:=by
 obtain⟨c0,c1,c2,c3,e,h0,h1,h2,h3⟩:=h;exact⟨c0,c1,c2,c3,e,h0.up u,h1.up u,h2.up u,h3.up u⟩
theorem SQ.mono (h:SQ k cs v K) (hL:K≤L):SQ k cs v L:=by
 obtain⟨c0,c1,c2,c3,e,h0,h1,h2,h3⟩:=h;exact⟨c0,c1,c2,c3,e,h0.mono hL,h1.mono hL,h2.mono hL,h3.mono hL⟩
theorem aQh (h0:Seg 3 c0) (h1:Seg 3 c1) (h2:Seg 3 c2) (h3:Seg 3 c3):Seg 12 (cat4 c0 c1 c2 c3):=by
 obtain⟨a0,b0⟩:=h0;obtain⟨a1,b1⟩:=h1;obtain⟨a2,b2⟩:=h2;obtain⟨a3,b3⟩:=h3;refine⟨by simp [cat4,a0,a1,a2,a3],fun u hu=>?_⟩;simp only [cat4,List.append_nil,List.mem_append]at hu;rcases hu with hu|hu|hu|hu
 ·exact b0 u hu
 ·exact b1 u hu
 ·exact b2 u hu
 ·exact b3 u hu
theorem SQ.seg (h:SQ k cs v K):Seg 12 cs:=by
 obtain⟨c0,c1,c2,c3,rfl,h0,h1,h2,h3⟩:=h;exact aQh h0.seg h1.seg h2.seg h3.seg
theorem aWk:((2:Int):Rat)=2:=rfl
theorem oQ:((0:Int):Rat)=0:=rfl
theorem tR (hx:SQ k cs v K) (hy:SQ k cs' v' L) (hK:K+L≤10000000000) (C:∀k' ds,Up k k'→SQ k' ds (v.add v') (K+L+1)→R k' (.agg ds)) :
 Cl k 80 #[.agg cs,.agg cs'] R:=by
 obtain⟨c0,c1,c2,c3,rfl,x0,x1,x2,x3⟩:=hx;obtain⟨e0,e1,e2,e3,rfl,y0,y1,y2,y3⟩:=hy;intro k0 u0;replace x0:=x0.up u0;replace x1:=x1.up u0;replace x2:=x2.up u0;replace x3:=x3.up u0;replace y0:=y0.up u0;replace y1:=y1.up u0;replace y2:=y2.up u0;replace y3:=y3.up u0;replace C:=fun k' ds u=>C k' ds (u0.trans u);refine aVv x0.seg x1.seg x2.seg x3.seg y0.seg y1.seg y2.seg y3.seg ?_;refine dK x0 y0 hK ?_;intro k1 d0 u1 z0;refine⟨d0,z0.seg,rfl,?_⟩;replace x1:=x1.up u1;replace x2:=x2.up u1;replace x3:=x3.up u1;replace y1:=y1.up u1;replace y2:=y2.up u1;replace y3:=y3.up u1;replace C:=fun k' ds u=>C k' ds (u1.trans u);refine dK x1 y1 hK ?_;intro k2 d1 u2 z1;refine⟨d1,z1.seg,rfl,?_⟩;replace x2:=x2.up u2;replace x3:=x3.up u2;replace y2:=y2.up u2;replace y3:=y3.up u2;replace z0:=z0.up u2;replace C:=fun k' ds u=>C k' ds (u2.trans u);refine dK x2 y2 hK ?_;intro k3 d2 u3 z2;refine⟨d2,z2.seg,rfl,?_⟩;replace x3:=x3.up u3;replace y3:=y3.up u3;replace z0:=z0.up u3;replace z1:=z1.up u3;replace C:=fun k' ds u=>C k' ds (u3.trans u);refine dK x3 y3 hK ?_;intro k4 d3 u4 z3;refine⟨d3,z3.seg,rfl,?_⟩;replace z0:=z0.up u4;replace z1:=z1.up u4;replace z2:=z2.up u4;replace C:=fun k' ds u=>C k' ds (u4.trans u);intro k5 u5;replace z0:=z0.up u5;replace z1:=z1.up u5;replace z2:=z2.up u5;replace z3:=z3.up u5;exact C _ _ u5 ⟨d0,d1,d2,d3,rfl,z0,z1,z2,z3⟩
theorem fT (hx:SQ k cs v K) (hK:K≤10000000000) (C:∀k' ds,Up k k'→SQ k' ds v.neg K→R k' (.agg ds)) :
 Cl k 297 #[.agg cs] R:=by
 obtain⟨c0,c1,c2,c3,rfl,x0,x1,x2,x3⟩:=hx;intro k0 u0;replace x0:=x0.up u0;replace x1:=x1.up u0;replace x2:=x2.up u0;replace x3:=x3.up u0;replace C:=fun k' ds u=>C k' ds (u0.trans u);refine aVx x0.seg x1.seg x2.seg x3.seg ?_;refine aFu x0 hK ?_;intro k1 d0 u1 z0;refine⟨d0,z0.seg,rfl,?_⟩;replace x1:=x1.up u1;replace x2:=x2.up u1;replace x3:=x3.up u1;replace C:=fun k' ds u=>C k' ds (u1.trans u);refine aFu x1 hK ?_;intro k2 d1 u2 z1;refine⟨d1,z1.seg,rfl,?_⟩;replace x2:=x2.up u2;replace x3:=x3.up u2;replace z0:=z0.up u2;replace C:=fun k' ds u=>C k' ds (u2.trans u);refine aFu x2 hK ?_;intro k3 d2 u3 z2;refine⟨d2,z2.seg,rfl,?_⟩;replace x3:=x3.up u3;replace z0:=z0.up u3;replace z1:=z1.up u3;replace C:=fun k' ds u=>C k' ds (u3.trans u);refine aFu x3 hK ?_;intro k4 d3 u4 z3;refine⟨d3,z3.seg,rfl,?_⟩;replace z0:=z0.up u4;replace z1:=z1.up u4;replace z2:=z2.up u4;replace C:=fun k' ds u=>C k' ds (u4.trans u);intro k5 u5;replace z0:=z0.up u5;replace z1:=z1.up u5;replace z2:=z2.up u5;replace z3:=z3.up u5;exact C _ _ u5 ⟨d0,d1,d2,d3,rfl,z0,z1,z2,z3⟩
theorem aQw (hx:SQ k cs v K) (hy:SQ k cs' v' L) (hK:K+L≤10000000000) (C:∀k' ds,Up k k'→SQ k' ds (v.sub v') (K+L+1)→R k' (.agg ds)) :
 Cl k 188 #[.agg cs,.agg cs'] R:=by
 intro k0 u0;exact aVy hx.seg hy.seg (fT (hy.up u0) oq fun k1 d1 u1 h1=>⟨d1,h1.seg,rfl,tR ((hx.up u0).up u1) h1 hK fun k3 d3 u3 h3=>⟨d3,h3.seg,rfl,fun k4 u4=>C k4 d3 (((u0.trans u1).trans u3).trans u4) (h3.up u4)⟩⟩)
theorem aZn (hx:QV k cs q K) (hK:2≤K) (C:∀k' ds,Up k k'→SQ k' ds (Q4.real q) K→R k' (.agg ds)) :
 Cl k 78 #[.agg cs] R:=by
 intro k0 u0;refine aQa hx.seg ?_;refine eP oz oz fun k1 d1 u1 h1=>⟨d1,h1.seg,rfl,?_⟩;refine eP oz oz fun k2 d2 u2 h2=>⟨d2,h2.seg,rfl,?_⟩;refine eP oz oz fun k3 d3 u3 h3=>⟨d3,h3.seg,rfl,fun k4 u4=>?_⟩;exact C k4 _ ((((u0.trans u1).trans u2).trans u3).trans u4) ⟨cs,d1,d2,d3,rfl,((((hx.up u0).up u1).up u2).up u3).up u4,(((h1.up u2).up u3).up u4).mono hK,((h2.up u3).up u4).mono hK,(h3.up u4).mono hK⟩
set_option maxHeartbeats 4000000 in
theorem pN (hx:SQ k cs v K) (hy:SQ k cs' v' L) (hK:4*(K+L)+22≤10000000000) (C:∀k' ds,Up k k'→SQ k' ds (v.mul v') (4*(K+L)+22)→R k' (.agg ds)) :
 Cl k 92 #[.agg cs,.agg cs'] R:=by
 obtain⟨c0,c1,c2,c3,rfl,x0,x1,x2,x3⟩:=hx;obtain⟨e0,e1,e2,e3,rfl,y0,y1,y2,y3⟩:=hy;intro k0 u0;replace x0:=x0.up u0;replace x1:=x1.up u0;replace x2:=x2.up u0;replace x3:=x3.up u0;replace y0:=y0.up u0;replace y1:=y1.up u0;replace y2:=y2.up u0;replace y3:=y3.up u0;replace C:=fun k' ds u=>C k' ds (u0.trans u);refine aVw x0.seg x1.seg x2.seg x3.seg y0.seg y1.seg y2.seg y3.seg ?_;refine eP oz oz ?_;intro k1 w0 u1 hw0;refine⟨w0,hw0.seg,rfl,?_⟩;replace x0:=x0.up u1;replace x1:=x1.up u1;replace x2:=x2.up u1;replace x3:=x3.up u1;replace y0:=y0.up u1;replace y1:=y1.up u1;replace y2:=y2.up u1;replace y3:=y3.up u1;replace C:=fun k' ds u=>C k' ds (u1.trans u);refine aZn hw0 oz ?_;rintro k2 _ u2 ⟨o0,o1,o2,o3,rfl,out0,out1,out2,out3⟩;refine⟨o0,out0.seg,o1,out1.seg,o2,out2.seg,o3,out3.seg,rfl,?_⟩;replace x0:=x0.up u2;replace x1:=x1.up u2;replace x2:=x2.up u2;replace x3:=x3.up u2;replace y0:=y0.up u2;replace y1:=y1.up u2;replace y2:=y2.up u2;replace y3:=y3.up u2;replace C:=fun k' ds u=>C k' ds (u2.trans u);clear hw0;refine dE x0 y0 oq ?_;intro k3 a00 u3 p00;refine⟨a00,p00.seg,rfl,?_⟩;replace x0:=x0.up u3;replace x1:=x1.up u3;replace x2:=x2.up u3;replace x3:=x3.up u3;replace y0:=y0.up u3;replace y1:=y1.up u3;replace y2:=y2.up u3;replace y3:=y3.up u3;replace out0:=out0.up u3;replace out1:=out1.up u3;replace out2:=out2.up u3;replace out3:=out3.up u3;replace C:=fun k' ds u=>C k' ds (u3.trans u);refine dK out0 p00 oq ?_;intro k4 s00 u4 o00;refine⟨s00,o00.seg,rfl,?_⟩;replace x0:=x0.up u4;replace x1:=x1.up u4;replace x2:=x2.up u4;replace x3:=x3.up u4;replace y0:=y0.up u4;replace y1:=y1.up u4;replace y2:=y2.up u4;replace y3:=y3.up u4;replace out1:=out1.up u4;replace out2:=out2.up u4;replace out3:=out3.up u4;replace C:=fun k' ds u=>C k' ds (u4.trans u);clear out0 p00;refine dE x0 y1 oq ?_;intro k5 a01 u5 p01;refine⟨a01,p01.seg,rfl,?_⟩;replace x0:=x0.up u5;replace x1:=x1.up u5;replace x2:=x2.up u5;replace x3:=x3.up u5;replace y0:=y0.up u5;replace y1:=y1.up u5;replace y2:=y2.up u5;replace y3:=y3.up u5;replace out1:=out1.up u5;replace out2:=out2.up u5;replace out3:=out3.up u5;replace o00:=o00.up u5;replace C:=fun k' ds u=>C k' ds (u5.trans u);refine dK out1 p01 oq ?_;intro k6 s01 u6 o01;refine⟨s01,o01.seg,rfl,?_⟩;replace x0:=x0.up u6;replace x1:=x1.up u6;replace x2:=x2.up u6;replace x3:=x3.up u6;replace y0:=y0.up u6;replace y1:=y1.up u6;replace y2:=y2.up u6;replace y3:=y3.up u6;replace out2:=out2.up u6;replace out3:=out3.up u6;replace o00:=o00.up u6;replace C:=fun k' ds u=>C k' ds (u6.trans u);clear out1 p01;refine dE x0 y2 oq ?_;intro k7 a02 u7 p02;refine⟨a02,p02.seg,rfl,?_⟩;replace x0:=x0.up u7;replace x1:=x1.up u7;replace x2:=x2.up u7;replace x3:=x3.up u7;replace y0:=y0.up u7;replace y1:=y1.up u7;replace y2:=y2.up u7;replace y3:=y3.up u7;replace out2:=out2.up u7;replace out3:=out3.up u7;replace o00:=o00.up u7;replace o01:=o01.up u7;replace C:=fun k' ds u=>C k' ds (u7.trans u);refine dK out2 p02 oq ?_
 intro k8 s02 u8 o02;refine⟨s02,o02.seg,rfl,?_⟩;replace x0:=x0.up u8;replace x1:=x1.up u8;replace x2:=x2.up u8;replace x3:=x3.up u8;replace y0:=y0.up u8;replace y1:=y1.up u8;replace y2:=y2.up u8;replace y3:=y3.up u8;replace out3:=out3.up u8;replace o00:=o00.up u8;replace o01:=o01.up u8;replace C:=fun k' ds u=>C k' ds (u8.trans u);clear out2 p02;refine dE x0 y3 oq ?_;intro k9 a03 u9 p03;refine⟨a03,p03.seg,rfl,?_⟩;replace x1:=x1.up u9;replace x2:=x2.up u9;replace x3:=x3.up u9;replace y0:=y0.up u9;replace y1:=y1.up u9;replace y2:=y2.up u9;replace y3:=y3.up u9;replace out3:=out3.up u9;replace o00:=o00.up u9;replace o01:=o01.up u9;replace o02:=o02.up u9;replace C:=fun k' ds u=>C k' ds (u9.trans u);refine dK out3 p03 oq ?_;intro k10 s03 u10 o03;refine⟨s03,o03.seg,rfl,?_⟩;replace x1:=x1.up u10;replace x2:=x2.up u10;replace x3:=x3.up u10;replace y0:=y0.up u10;replace y1:=y1.up u10;replace y2:=y2.up u10;replace y3:=y3.up u10;replace o00:=o00.up u10;replace o01:=o01.up u10;replace o02:=o02.up u10;replace C:=fun k' ds u=>C k' ds (u10.trans u);clear out3 p03;refine dE x1 y0 oq ?_;intro k11 a10 u11 p10;refine⟨a10,p10.seg,rfl,?_⟩;replace x1:=x1.up u11;replace x2:=x2.up u11;replace x3:=x3.up u11;replace y0:=y0.up u11;replace y1:=y1.up u11;replace y2:=y2.up u11;replace y3:=y3.up u11;replace o00:=o00.up u11;replace o01:=o01.up u11;replace o02:=o02.up u11;replace o03:=o03.up u11;replace C:=fun k' ds u=>C k' ds (u11.trans u);refine dK o01 p10 oq ?_;intro k12 s10 u12 o10;refine⟨s10,o10.seg,rfl,?_⟩;replace x1:=x1.up u12;replace x2:=x2.up u12;replace x3:=x3.up u12;replace y0:=y0.up u12;replace y1:=y1.up u12;replace y2:=y2.up u12;replace y3:=y3.up u12;replace o00:=o00.up u12;replace o02:=o02.up u12;replace o03:=o03.up u12;replace C:=fun k' ds u=>C k' ds (u12.trans u);clear o01 p10;refine dE x1 y1 oq ?_;intro k13 a11 u13 p11;refine⟨a11,p11.seg,rfl,?_⟩;replace x1:=x1.up u13;replace x2:=x2.up u13;replace x3:=x3.up u13;replace y0:=y0.up u13;replace y1:=y1.up u13;replace y2:=y2.up u13;replace y3:=y3.up u13;replace o00:=o00.up u13;replace o02:=o02.up u13;replace o03:=o03.up u13;replace o10:=o10.up u13;replace C:=fun k' ds u=>C k' ds (u13.trans u);refine eP oz oz ?_;intro k14 w11 u14 hw11;refine⟨w11,hw11.seg,rfl,?_⟩;replace x1:=x1.up u14;replace x2:=x2.up u14;replace x3:=x3.up u14;replace y0:=y0.up u14;replace y1:=y1.up u14;replace y2:=y2.up u14;replace y3:=y3.up u14;replace o00:=o00.up u14;replace o02:=o02.up u14;replace o03:=o03.up u14;replace o10:=o10.up u14;replace p11:=p11.up u14;replace C:=fun k' ds u=>C k' ds (u14.trans u);refine dE p11 hw11 oq ?_;intro k15 b112 u15 r112;refine⟨b112,r112.seg,rfl,?_⟩;replace x1:=x1.up u15;replace x2:=x2.up u15;replace x3:=x3.up u15;replace y0:=y0.up u15;replace y1:=y1.up u15;replace y2:=y2.up u15;replace y3:=y3.up u15;replace o00:=o00.up u15;replace o02:=o02.up u15;replace o03:=o03.up u15;replace o10:=o10.up u15;replace C:=fun k' ds u=>C k' ds (u15.trans u)
 clear p11 hw11;refine dK o00 r112 oq ?_;intro k16 s11 u16 o11;refine⟨s11,o11.seg,rfl,?_⟩;replace x1:=x1.up u16;replace x2:=x2.up u16;replace x3:=x3.up u16;replace y0:=y0.up u16;replace y1:=y1.up u16;replace y2:=y2.up u16;replace y3:=y3.up u16;replace o02:=o02.up u16;replace o03:=o03.up u16;replace o10:=o10.up u16;replace C:=fun k' ds u=>C k' ds (u16.trans u);clear o00 r112;refine dE x1 y2 oq ?_;intro k17 a12 u17 p12;refine⟨a12,p12.seg,rfl,?_⟩;replace x1:=x1.up u17;replace x2:=x2.up u17;replace x3:=x3.up u17;replace y0:=y0.up u17;replace y1:=y1.up u17;replace y2:=y2.up u17;replace y3:=y3.up u17;replace o02:=o02.up u17;replace o03:=o03.up u17;replace o10:=o10.up u17;replace o11:=o11.up u17;replace C:=fun k' ds u=>C k' ds (u17.trans u);refine dK o03 p12 oq ?_;intro k18 s12 u18 o12;refine⟨s12,o12.seg,rfl,?_⟩;replace x1:=x1.up u18;replace x2:=x2.up u18;replace x3:=x3.up u18;replace y0:=y0.up u18;replace y1:=y1.up u18;replace y2:=y2.up u18;replace y3:=y3.up u18;replace o02:=o02.up u18;replace o10:=o10.up u18;replace o11:=o11.up u18;replace C:=fun k' ds u=>C k' ds (u18.trans u);clear o03 p12;refine dE x1 y3 oq ?_;intro k19 a13 u19 p13;refine⟨a13,p13.seg,rfl,?_⟩;replace x2:=x2.up u19;replace x3:=x3.up u19;replace y0:=y0.up u19;replace y1:=y1.up u19;replace y2:=y2.up u19;replace y3:=y3.up u19;replace o02:=o02.up u19;replace o10:=o10.up u19;replace o11:=o11.up u19;replace o12:=o12.up u19;replace C:=fun k' ds u=>C k' ds (u19.trans u);refine eP oz oz ?_;intro k20 w13 u20 hw13;refine⟨w13,hw13.seg,rfl,?_⟩;replace x2:=x2.up u20;replace x3:=x3.up u20;replace y0:=y0.up u20;replace y1:=y1.up u20;replace y2:=y2.up u20;replace y3:=y3.up u20;replace o02:=o02.up u20;replace o10:=o10.up u20;replace o11:=o11.up u20;replace o12:=o12.up u20;replace p13:=p13.up u20;replace C:=fun k' ds u=>C k' ds (u20.trans u);refine dE p13 hw13 oq ?_;intro k21 b132 u21 r132;refine⟨b132,r132.seg,rfl,?_⟩;replace x2:=x2.up u21;replace x3:=x3.up u21;replace y0:=y0.up u21;replace y1:=y1.up u21;replace y2:=y2.up u21;replace y3:=y3.up u21;replace o02:=o02.up u21;replace o10:=o10.up u21;replace o11:=o11.up u21;replace o12:=o12.up u21;replace C:=fun k' ds u=>C k' ds (u21.trans u);clear p13 hw13;refine dK o02 r132 oq ?_;intro k22 s13 u22 o13;refine⟨s13,o13.seg,rfl,?_⟩;replace x2:=x2.up u22;replace x3:=x3.up u22;replace y0:=y0.up u22;replace y1:=y1.up u22;replace y2:=y2.up u22;replace y3:=y3.up u22;replace o10:=o10.up u22;replace o11:=o11.up u22;replace o12:=o12.up u22;replace C:=fun k' ds u=>C k' ds (u22.trans u);clear o02 r132;refine dE x2 y0 oq ?_;intro k23 a20 u23 p20;refine⟨a20,p20.seg,rfl,?_⟩;replace x2:=x2.up u23;replace x3:=x3.up u23;replace y0:=y0.up u23;replace y1:=y1.up u23;replace y2:=y2.up u23;replace y3:=y3.up u23;replace o10:=o10.up u23;replace o11:=o11.up u23;replace o12:=o12.up u23;replace o13:=o13.up u23;replace C:=fun k' ds u=>C k' ds (u23.trans u);refine dK o13 p20 oq ?_
 intro k24 s20 u24 o20;refine⟨s20,o20.seg,rfl,?_⟩;replace x2:=x2.up u24;replace x3:=x3.up u24;replace y0:=y0.up u24;replace y1:=y1.up u24;replace y2:=y2.up u24;replace y3:=y3.up u24;replace o10:=o10.up u24;replace o11:=o11.up u24;replace o12:=o12.up u24;replace C:=fun k' ds u=>C k' ds (u24.trans u);clear o13 p20;refine dE x2 y1 oq ?_;intro k25 a21 u25 p21;refine⟨a21,p21.seg,rfl,?_⟩;replace x2:=x2.up u25;replace x3:=x3.up u25;replace y0:=y0.up u25;replace y1:=y1.up u25;replace y2:=y2.up u25;replace y3:=y3.up u25;replace o10:=o10.up u25;replace o11:=o11.up u25;replace o12:=o12.up u25;replace o20:=o20.up u25;replace C:=fun k' ds u=>C k' ds (u25.trans u);refine dK o12 p21 oq ?_;intro k26 s21 u26 o21;refine⟨s21,o21.seg,rfl,?_⟩;replace x2:=x2.up u26;replace x3:=x3.up u26;replace y0:=y0.up u26;replace y1:=y1.up u26;replace y2:=y2.up u26;replace y3:=y3.up u26;replace o10:=o10.up u26;replace o11:=o11.up u26;replace o20:=o20.up u26;replace C:=fun k' ds u=>C k' ds (u26.trans u);clear o12 p21;refine dE x2 y2 oq ?_;intro k27 a22 u27 p22;refine⟨a22,p22.seg,rfl,?_⟩;replace x2:=x2.up u27;replace x3:=x3.up u27;replace y0:=y0.up u27;replace y1:=y1.up u27;replace y2:=y2.up u27;replace y3:=y3.up u27;replace o10:=o10.up u27;replace o11:=o11.up u27;replace o20:=o20.up u27;replace o21:=o21.up u27;replace C:=fun k' ds u=>C k' ds (u27.trans u);refine eP oz oz ?_;intro k28 w22 u28 hw22;refine⟨w22,hw22.seg,rfl,?_⟩;replace x2:=x2.up u28;replace x3:=x3.up u28;replace y0:=y0.up u28;replace y1:=y1.up u28;replace y2:=y2.up u28;replace y3:=y3.up u28;replace o10:=o10.up u28;replace o11:=o11.up u28;replace o20:=o20.up u28;replace o21:=o21.up u28;replace p22:=p22.up u28;replace C:=fun k' ds u=>C k' ds (u28.trans u);refine dE p22 hw22 oq ?_;intro k29 b223 u29 r223;refine⟨b223,r223.seg,rfl,?_⟩;replace x2:=x2.up u29;replace x3:=x3.up u29;replace y0:=y0.up u29;replace y1:=y1.up u29;replace y2:=y2.up u29;replace y3:=y3.up u29;replace o10:=o10.up u29;replace o11:=o11.up u29;replace o20:=o20.up u29;replace o21:=o21.up u29;replace C:=fun k' ds u=>C k' ds (u29.trans u);clear p22 hw22;refine dK o11 r223 oq ?_;intro k30 s22 u30 o22;refine⟨s22,o22.seg,rfl,?_⟩;replace x2:=x2.up u30;replace x3:=x3.up u30;replace y0:=y0.up u30;replace y1:=y1.up u30;replace y2:=y2.up u30;replace y3:=y3.up u30;replace o10:=o10.up u30;replace o20:=o20.up u30;replace o21:=o21.up u30;replace C:=fun k' ds u=>C k' ds (u30.trans u);clear o11 r223;refine dE x2 y3 oq ?_;intro k31 a23 u31 p23;refine⟨a23,p23.seg,rfl,?_⟩;replace x3:=x3.up u31;replace y0:=y0.up u31;replace y1:=y1.up u31;replace y2:=y2.up u31;replace y3:=y3.up u31;replace o10:=o10.up u31;replace o20:=o20.up u31;replace o21:=o21.up u31;replace o22:=o22.up u31;replace C:=fun k' ds u=>C k' ds (u31.trans u);refine eP oz oz ?_;intro k32 w23 u32 hw23;refine⟨w23,hw23.seg,rfl,?_⟩;replace x3:=x3.up u32;replace y0:=y0.up u32;replace y1:=y1.up u32;replace y2:=y2.up u32
 replace y3:=y3.up u32;replace o10:=o10.up u32;replace o20:=o20.up u32;replace o21:=o21.up u32;replace o22:=o22.up u32;replace p23:=p23.up u32;replace C:=fun k' ds u=>C k' ds (u32.trans u);refine dE p23 hw23 oq ?_;intro k33 b233 u33 r233;refine⟨b233,r233.seg,rfl,?_⟩;replace x3:=x3.up u33;replace y0:=y0.up u33;replace y1:=y1.up u33;replace y2:=y2.up u33;replace y3:=y3.up u33;replace o10:=o10.up u33;replace o20:=o20.up u33;replace o21:=o21.up u33;replace o22:=o22.up u33;replace C:=fun k' ds u=>C k' ds (u33.trans u);clear p23 hw23;refine dK o10 r233 oq ?_;intro k34 s23 u34 o23;refine⟨s23,o23.seg,rfl,?_⟩;replace x3:=x3.up u34;replace y0:=y0.up u34;replace y1:=y1.up u34;replace y2:=y2.up u34;replace y3:=y3.up u34;replace o20:=o20.up u34;replace o21:=o21.up u34;replace o22:=o22.up u34;replace C:=fun k' ds u=>C k' ds (u34.trans u);clear o10 r233;refine dE x3 y0 oq ?_;intro k35 a30 u35 p30;refine⟨a30,p30.seg,rfl,?_⟩;replace x3:=x3.up u35;replace y1:=y1.up u35;replace y2:=y2.up u35;replace y3:=y3.up u35;replace o20:=o20.up u35;replace o21:=o21.up u35;replace o22:=o22.up u35;replace o23:=o23.up u35;replace C:=fun k' ds u=>C k' ds (u35.trans u);refine dK o21 p30 oq ?_;intro k36 s30 u36 o30;refine⟨s30,o30.seg,rfl,?_⟩;replace x3:=x3.up u36;replace y1:=y1.up u36;replace y2:=y2.up u36;replace y3:=y3.up u36;replace o20:=o20.up u36;replace o22:=o22.up u36;replace o23:=o23.up u36;replace C:=fun k' ds u=>C k' ds (u36.trans u);clear o21 p30;refine dE x3 y1 oq ?_;intro k37 a31 u37 p31;refine⟨a31,p31.seg,rfl,?_⟩;replace x3:=x3.up u37;replace y2:=y2.up u37;replace y3:=y3.up u37;replace o20:=o20.up u37;replace o22:=o22.up u37;replace o23:=o23.up u37;replace o30:=o30.up u37;replace C:=fun k' ds u=>C k' ds (u37.trans u);refine eP oz oz ?_;intro k38 w31 u38 hw31;refine⟨w31,hw31.seg,rfl,?_⟩;replace x3:=x3.up u38;replace y2:=y2.up u38;replace y3:=y3.up u38;replace o20:=o20.up u38;replace o22:=o22.up u38;replace o23:=o23.up u38;replace o30:=o30.up u38;replace p31:=p31.up u38;replace C:=fun k' ds u=>C k' ds (u38.trans u);refine dE p31 hw31 oq ?_;intro k39 b312 u39 r312;refine⟨b312,r312.seg,rfl,?_⟩;replace x3:=x3.up u39;replace y2:=y2.up u39;replace y3:=y3.up u39;replace o20:=o20.up u39;replace o22:=o22.up u39;replace o23:=o23.up u39;replace o30:=o30.up u39;replace C:=fun k' ds u=>C k' ds (u39.trans u);clear p31 hw31;refine dK o20 r312 oq ?_;intro k40 s31 u40 o31;refine⟨s31,o31.seg,rfl,?_⟩;replace x3:=x3.up u40;replace y2:=y2.up u40;replace y3:=y3.up u40;replace o22:=o22.up u40;replace o23:=o23.up u40;replace o30:=o30.up u40;replace C:=fun k' ds u=>C k' ds (u40.trans u);clear o20 r312;refine dE x3 y2 oq ?_;intro k41 a32 u41 p32;refine⟨a32,p32.seg,rfl,?_⟩;replace x3:=x3.up u41;replace y3:=y3.up u41;replace o22:=o22.up u41;replace o23:=o23.up u41;replace o30:=o30.up u41;replace o31:=o31.up u41;replace C:=fun k' ds u=>C k' ds (u41.trans u);refine eP oz oz ?_
 intro k42 w32 u42 hw32;refine⟨w32,hw32.seg,rfl,?_⟩;replace x3:=x3.up u42;replace y3:=y3.up u42;replace o22:=o22.up u42;replace o23:=o23.up u42;replace o30:=o30.up u42;replace o31:=o31.up u42;replace p32:=p32.up u42;replace C:=fun k' ds u=>C k' ds (u42.trans u);refine dE p32 hw32 oq ?_;intro k43 b323 u43 r323;refine⟨b323,r323.seg,rfl,?_⟩;replace x3:=x3.up u43;replace y3:=y3.up u43;replace o22:=o22.up u43;replace o23:=o23.up u43;replace o30:=o30.up u43;replace o31:=o31.up u43;replace C:=fun k' ds u=>C k' ds (u43.trans u);clear p32 hw32;refine dK o23 r323 oq ?_;intro k44 s32 u44 o32;refine⟨s32,o32.seg,rfl,?_⟩;replace x3:=x3.up u44;replace y3:=y3.up u44;replace o22:=o22.up u44;replace o30:=o30.up u44;replace o31:=o31.up u44;replace C:=fun k' ds u=>C k' ds (u44.trans u);clear o23 r323;refine dE x3 y3 oq ?_;intro k45 a33 u45 p33;refine⟨a33,p33.seg,rfl,?_⟩;replace o22:=o22.up u45;replace o30:=o30.up u45;replace o31:=o31.up u45;replace o32:=o32.up u45;replace C:=fun k' ds u=>C k' ds (u45.trans u);refine eP oz oz ?_;intro k46 w33 u46 hw33;refine⟨w33,hw33.seg,rfl,?_⟩;replace o22:=o22.up u46;replace o30:=o30.up u46;replace o31:=o31.up u46;replace o32:=o32.up u46;replace p33:=p33.up u46;replace C:=fun k' ds u=>C k' ds (u46.trans u);refine dE p33 hw33 oq ?_;intro k47 b332 u47 r332;refine⟨b332,r332.seg,rfl,?_⟩;replace o22:=o22.up u47;replace o30:=o30.up u47;replace o31:=o31.up u47;replace o32:=o32.up u47;replace hw33:=hw33.up u47;replace C:=fun k' ds u=>C k' ds (u47.trans u);clear p33 hw33;refine eP oz oz ?_;intro k48 w33 u48 hw33;refine⟨w33,hw33.seg,rfl,?_⟩;replace o22:=o22.up u48;replace o30:=o30.up u48;replace o31:=o31.up u48;replace o32:=o32.up u48;replace r332:=r332.up u48;replace C:=fun k' ds u=>C k' ds (u48.trans u);refine dE r332 hw33 oq ?_;intro k49 b333 u49 r333;refine⟨b333,r333.seg,rfl,?_⟩;replace o22:=o22.up u49;replace o30:=o30.up u49;replace o31:=o31.up u49;replace o32:=o32.up u49;replace C:=fun k' ds u=>C k' ds (u49.trans u);clear r332 hw33;refine dK o22 r333 oq ?_;intro k50 s33 u50 o33;refine⟨s33,o33.seg,rfl,?_⟩;replace o30:=o30.up u50;replace o31:=o31.up u50;replace o32:=o32.up u50;replace C:=fun k' ds u=>C k' ds (u50.trans u);clear o22 r333;intro k51 u51;replace o30:=o30.up u51;replace o31:=o31.up u51;replace o32:=o32.up u51;replace o33:=o33.up u51;exact C _ _ u51 ⟨_,_,_,_,rfl,(o33.mono oq).cast (by simp only [Q4.mul,Q4.real,oQ];grind),(o32.mono oq).cast (by simp only [Q4.mul,Q4.real,oQ];grind),(o31.mono oq).cast (by simp only [Q4.mul,Q4.real,oQ,aWk];grind),(o30.mono oq).cast (by simp only [Q4.mul,Q4.real,oQ];grind)⟩
end
end Go.Proofs.YtmifbgccpdmjpaaGreat.W32

namespace Go.Proofs.YtmifbgccpdmjpaaGreat
open Go.RowKit
open Value (agg slice int bool tuple)
open Sy (Up Sees CallsG Seg execFn_use)
set_option maxRecDepth 100000
variable {k:World}{R:World→Value→Prop}{cs0 cs1 cs2 cs3:Array Value}
theorem aKc (hcs0:Seg 3 cs0) (hcs1:Seg 3 cs1) (hcs2:Seg 3 cs2) (hcs3:Seg 3 cs3)
 (h:∃I0:Nat→World→List Value→Prop,(∃m0,∀k0,Up k k0→I0 m0 k0 [Value.string ⟨#[]⟩,int .i64 0])∧
 ∀m0 k0 vs0,Up k k0→I0 m0 k0 vs0→∃s4,∃n5,some [Value.string s4,int .i64 n5]=some vs0∧
 Br ((n5:Int) == 0) (Cl k0 184 #[agg cs0] fun k2 r1=>Gb r1 fun b6=>
 Br b6 (∀k3,Up k2 k3→∃m,m<m0∧I0 m k3 [Value.string s4,int .i64 1]) (Br (!(ByteArray.toList s4 == ByteArray.toList ⟨#[]⟩)) (Cl k2 185 #[agg cs0] fun k5 r4=>Gi r4 fun n7=>
 Br (decide ((n7:Int) > 0)) ((decide (((ByteArray.size s4+ByteArray.size ⟨#[43]⟩:Nat):Int)≤9223372036854775807))=true∧
 (Cl k5 186 #[agg cs0] fun k7 r6=>∃s8,some (Value.string s8)=some r6∧
 (decide (((ByteArray.size (s4++⟨#[43]⟩)+ByteArray.size s8:Nat):Int)≤9223372036854775807))=true∧
 ((decide (((ByteArray.size ((s4++⟨#[43]⟩)++s8)+ByteArray.size ⟨#[]⟩:Nat):Int)≤9223372036854775807))=true∧
 (∀k8,Up k7 k8→∃m,m<m0∧I0 m k8 [Value.string (((s4++⟨#[43]⟩)++s8)++⟨#[]⟩),int .i64 1])))) (Cl k5 186 #[agg cs0] fun k10 r9=>∃s8,some (Value.string s8)=some r9∧
 (decide (((ByteArray.size s4+ByteArray.size s8:Nat):Int)≤9223372036854775807))=true∧
 ((decide (((ByteArray.size (s4++s8)+ByteArray.size ⟨#[]⟩:Nat):Int)≤9223372036854775807))=true∧
 (∀k11,Up k10 k11→∃m,m<m0∧I0 m k11 [Value.string ((s4++s8)++⟨#[]⟩),int .i64 1])))) (Cl k2 186 #[agg cs0] fun k13 r12=>∃s7,some (Value.string s7)=some r12∧
 (decide (((ByteArray.size s4+ByteArray.size s7:Nat):Int)≤9223372036854775807))=true∧
 ((decide (((ByteArray.size (s4++s7)+ByteArray.size ⟨#[]⟩:Nat):Int)≤9223372036854775807))=true∧
 (∀k14,Up k13 k14→∃m,m<m0∧I0 m k14 [Value.string ((s4++s7)++⟨#[]⟩),int .i64 1]))))) (Br ((n5:Int) == 1) (Cl k0 184 #[agg cs1] fun k16 r15=>Gb r15 fun b6=>
 Br b6 (∀k17,Up k16 k17→∃m,m<m0∧I0 m k17 [Value.string s4,int .i64 2]) (Br (!(ByteArray.toList s4 == ByteArray.toList ⟨#[]⟩)) (Cl k16 185 #[agg cs1] fun k19 r18=>Gi r18 fun n7=>
 Br (decide ((n7:Int) > 0)) ((decide (((ByteArray.size s4+ByteArray.size ⟨#[43]⟩:Nat):Int)≤9223372036854775807))=true∧
 (Cl k19 186 #[agg cs1] fun k21 r20=>∃s8,some (Value.string s8)=some r20∧
 (decide (((ByteArray.size (s4++⟨#[43]⟩)+ByteArray.size s8:Nat):Int)≤9223372036854775807))=true∧
 ((decide (((ByteArray.size ((s4++⟨#[43]⟩)++s8)+ByteArray.size ⟨#[114,50]⟩:Nat):Int)≤9223372036854775807))=true∧
 (∀k22,Up k21 k22→∃m,m<m0∧I0 m k22 [Value.string (((s4++⟨#[43]⟩)++s8)++⟨#[114,50]⟩),int .i64 2])))) (Cl k19 186 #[agg cs1] fun k24 r23=>∃s8,some (Value.string s8)=some r23∧
 (decide (((ByteArray.size s4+ByteArray.size s8:Nat):Int)≤9223372036854775807))=true∧
 ((decide (((ByteArray.size (s4++s8)+ByteArray.size ⟨#[114,50]⟩:Nat):Int)≤9223372036854775807))=true∧
 (∀k25,Up k24 k25→∃m,m<m0∧I0 m k25 [Value.string ((s4++s8)++⟨#[114,50]⟩),int .i64 2])))) (Cl k16 186 #[agg cs1] fun k27 r26=>∃s7,some (Value.string s7)=some r26∧
 (decide (((ByteArray.size s4+ByteArray.size s7:Nat):Int)≤9223372036854775807))=true∧
 ((decide (((ByteArray.size (s4++s7)+ByteArray.size ⟨#[114,50]⟩:Nat):Int)≤9223372036854775807))=true∧
 (∀k28,Up k27 k28→∃m,m<m0∧I0 m k28 [Value.string ((s4++s7)++⟨#[114,50]⟩),int .i64 2]))))) (Br ((n5:Int) == 2) (Cl k0 184 #[agg cs2] fun k30 r29=>Gb r29 fun b6=>
 Br b6 (∀k31,Up k30 k31→∃m,m<m0∧I0 m k31 [Value.string s4,int .i64 3]) (Br (!(ByteArray.toList s4 == ByteArray.toList ⟨#[]⟩)) (Cl k30 185 #[agg cs2] fun k33 r32=>Gi r32 fun n7=>
 Br (decide ((n7:Int) > 0)) ((decide (((ByteArray.size s4+ByteArray.size ⟨#[43]⟩:Nat):Int)≤9223372036854775807))=true∧
 (Cl k33 186 #[agg cs2] fun k35 r34=>∃s8,some (Value.string s8)=some r34∧
 (decide (((ByteArray.size (s4++⟨#[43]⟩)+ByteArray.size s8:Nat):Int)≤9223372036854775807))=true∧
 ((decide (((ByteArray.size ((s4++⟨#[43]⟩)++s8)+ByteArray.size ⟨#[114,51]⟩:Nat):Int)≤9223372036854775807))=true∧
 (∀k36,Up k35 k36→∃m,m<m0∧I0 m k36 [Value.string (((s4++⟨#[43]⟩)++s8)++⟨#[114,51]⟩),int .i64 3])))) (Cl k33 186 #[agg cs2] fun k38 r37=>∃s8,some (Value.string s8)=some r37∧
 (decide (((ByteArray.size s4+ByteArray.size s8:Nat):Int)≤9223372036854775807))=true∧
 ((decide (((ByteArray.size (s4++s8)+ByteArray.size ⟨#[114,51]⟩:Nat):Int)≤9223372036854775807))=true∧
 (∀k39,Up k38 k39→∃m,m<m0∧I0 m k39 [Value.string ((s4++s8)++⟨#[114,51]⟩),int .i64 3])))) (Cl k30 186 #[agg cs2] fun k41 r40=>∃s7,some (Value.string s7)=some r40∧
 (decide (((ByteArray.size s4+ByteArray.size s7:Nat):Int)≤9223372036854775807))=true∧
 ((decide (((ByteArray.size (s4++s7)+ByteArray.size ⟨#[114,51]⟩:Nat):Int)≤9223372036854775807))=true∧
 (∀k42,Up k41 k42→∃m,m<m0∧I0 m k42 [Value.string ((s4++s7)++⟨#[114,51]⟩),int .i64 3]))))) (Br ((n5:Int) == 3) (Cl k0 184 #[agg cs3] fun k44 r43=>Gb r43 fun b6=>
 Br b6 (∀k45,Up k44 k45→∃m,m<m0∧I0 m k45 [Value.string s4,int .i64 4]) (Br (!(ByteArray.toList s4 == ByteArray.toList ⟨#[]⟩)) (Cl k44 185 #[agg cs3] fun k47 r46=>Gi r46 fun n7=>
 Br (decide ((n7:Int) > 0)) ((decide (((ByteArray.size s4+ByteArray.size ⟨#[43]⟩:Nat):Int)≤9223372036854775807))=true∧
 (Cl k47 186 #[agg cs3] fun k49 r48=>∃s8,some (Value.string s8)=some r48∧
 (decide (((ByteArray.size (s4++⟨#[43]⟩)+ByteArray.size s8:Nat):Int)≤9223372036854775807))=true∧
 ((decide (((ByteArray.size ((s4++⟨#[43]⟩)++s8)+ByteArray.size ⟨#[114,54]⟩:Nat):Int)≤9223372036854775807))=true∧
 (∀k50,Up k49 k50→∃m,m<m0∧I0 m k50 [Value.string (((s4++⟨#[43]⟩)++s8)++⟨#[114,54]⟩),int .i64 4])))) (Cl k47 186 #[agg cs3] fun k52 r51=>∃s8,some (Value.string s8)=some r51∧
 (decide (((ByteArray.size s4+ByteArray.size s8:Nat):Int)≤9223372036854775807))=true∧
 ((decide (((ByteArray.size (s4++s8)+ByteArray.size ⟨#[114,54]⟩:Nat):Int)≤9223372036854775807))=true∧
 (∀k53,Up k52 k53→∃m,m<m0∧I0 m k53 [Value.string ((s4++s8)++⟨#[114,54]⟩),int .i64 4])))) (Cl k44 186 #[agg cs3] fun k55 r54=>∃s7,some (Value.string s7)=some r54∧
 (decide (((ByteArray.size s4+ByteArray.size s7:Nat):Int)≤9223372036854775807))=true∧
 ((decide (((ByteArray.size (s4++s7)+ByteArray.size ⟨#[114,54]⟩:Nat):Int)≤9223372036854775807))=true∧
 (∀k56,Up k55 k56→∃m,m<m0∧I0 m k56 [Value.string ((s4++s7)++⟨#[114,54]⟩),int .i64 4]))))) (Br ((n5:Int) == 4) (Br (ByteArray.toList s4 == ByteArray.toList ⟨#[]⟩) (Rt R k0 (Value.string ⟨#[48]⟩)) (Rt R k0 (Value.string s4))) (False /- split -/)))))) :
   CallsG Tryz.prog 76 #[Rg cs0 cs1 cs2 cs3] k R:=
  qX { opq:=[49],loops:=[(0,[.tmp 3 false [.str],.tmp 5 false [.int .i64]])],splits:=[(0,5,[0,1,2,3,4])] } [.agg [.seg 0 3,.seg 1 3,.seg 2 3,.seg 3 3]] [agg cs0,agg cs1,agg cs2,agg cs3] [.seg 3,.seg 3,.seg 3,.seg 3] ⟨⟨cs0,rfl,hcs0⟩,⟨cs1,rfl,hcs1⟩,⟨cs2,rfl,hcs2⟩,⟨cs3,rfl,hcs3⟩,trivial⟩ h
end Go.Proofs.YtmifbgccpdmjpaaGreat

namespace Go.Proofs.YtmifbgccpdmjpaaGreat.W32
open Go.RowKit Num
open Sy (Up Sees CallsG Seg)
section
variable {k k':World}{cs cs' c0 c1 c2 c3:Array Value}{R:World→Value→Prop}{x y q q':Rat}{v v':Q4}{K L:Nat}
theorem lT (h:QV k cs q K):(aE q).length≤20*K+4:=by
 obtain⟨b,A,l,c,A',l',c',rfl,h,e1,e2⟩:=h;have h1:=lJ h.n;have h2:=lJ h.d;unfold aE;rw [og,og];have h3:(if q.num<0 then [45] else ([]:List UInt8)).length≤1:=by split <;> simp
 by_cases h4:q.den=1
 ·rw [od h4];simp only [ob];omega
 ·rw [oh h4];simp only [om];omega
theorem aJf (h0:QV k c0 v.a K) (h1:QV k c1 v.b K) (h2:QV k c2 v.c K) (h3:QV k c3 v.d K) (j:Nat):(body v j).length≤80*K+26:=by
 have e0:=lT h0;have e1:=lT h1;have e2:=lT h2;have e3:=lT h3;have f1:=dD [] v.a [];have f2:=dD (aH [] v.a []) v.b [114,50];have f3:=dD (aH (aH [] v.a []) v.b [114,50]) v.c [114,51];have f4:=dD (aH (aH (aH [] v.a []) v.b [114,50]) v.c [114,51]) v.d [114,54];simp only [om,ob]at f1 f2 f3 f4
 match j with
 | 0=>simp [body]
 | 1=>simp only [body];omega
 | 2=>simp only [body];omega
 | 3=>simp only [body];omega
 | n+4=>simp only [body];omega
theorem aWe (hx:SQ k cs v K) (hK:K≤10000000000) (C:∀k',Up k k'→R k' (.string (str (eI v)))) :
 Cl k 76 #[.agg cs] R:=by
 intro k0 u0;obtain⟨c0,c1,c2,c3,rfl,q0,q1,q2,q3⟩:=hx.up u0;replace C:=fun k' u=>C k' (u0.trans u);refine aKc q0.seg q1.seg q2.seg q3.seg ?_;have hlen:=aJf q0 q1 q2 q3;refine⟨fun m k' vs=>∃j,j≤4∧m=4-j∧vs=[.string (str (body v j)),.int .i64 (j:Nat)],⟨4,fun k' _=>⟨0,oq,rfl,rfl⟩⟩,?_⟩;rintro m k2 vs u2 ⟨j,hj,rfl,rfl⟩;refine⟨str (body v j),(j:Nat),rfl,?_⟩;replace q0:=q0.up u2;replace q1:=q1.up u2;replace q2:=q2.up u2;replace q3:=q3.up u2;replace C:=fun k' u=>C k' (u2.trans u);clear u0 u2;refine⟨fun hj0=>?_,fun hj0=>?_⟩
 ·have e:j=0:=by have:=eq_of_beq hj0;omega
  subst e;clear C hx;refine lI q0 ?_;intro k3 u3;refine⟨_,rfl,fun hz=>?_,fun hz=>?_⟩
  ·intro k4 u4;refine⟨3-0,oq,0+1,oq,oq,?_⟩;have hz:v.a=0:=ow hz;have e:body v (0+1)=body v 0:=by simp only [body];conv=>lhs;rw [aH,od hz]
   rw [e];rfl
  ·have hz:¬ v.a=0:=ov hz;refine⟨fun hs=>?_,fun hs=>?_⟩
   ·have hs:body v 0≠[]:=by
     intro h;rw [h,iJ]at hs;cases hs
    refine nB (q0.up u3) ?_;intro k4 u4;refine⟨_,rfl,fun hp=>?_,fun hp=>?_⟩
    ·have hp:0<(v.a).num.sign:=by simpa using hp
     refine⟨fits (by rw [aB];have:=hlen 0;show _+1≤_;omega),?_⟩;refine gF ((q0.up u3).up u4) oq ?_;intro k5 u5;have e:body v (0+1)=(body v 0++[43])++(aE v.a++[]):=by
      simp only [body];conv=>lhs;rw [aH,oh hz,od ⟨hs,hp⟩]
     have hl:=hlen (0+1);rw [e]at hl;simp only [og,om,ob]at hl;refine⟨_,rfl,?_,?_,?_⟩
     ·refine fits ?_;show (str (body v 0)++str [43]).size+(str (aE v.a)).size≤_;rw [aD,aB,aB];(try simp only [og,om,ob]);omega
     ·refine fits ?_;show ((str (body v 0)++str [43])++str (aE v.a)).size+(str []).size≤_;rw [aD,aD,aB,aB];(try simp only [og,om,ob]);omega
     ·intro k7 u7;refine⟨3-0,oq,0+1,oq,oq,?_⟩;rw [e,←jf,←aD,←aD,←aD];rfl
    ·have hp:¬ 0<(v.a).num.sign:=by simpa using hp
     refine gF ((q0.up u3).up u4) oq ?_;intro k5 u5;have e:body v (0+1)=body v 0++(aE v.a++[]):=by
      simp only [body];conv=>lhs;rw [aH,oh hz,oh (fun h=>hp h.2)]
     have hl:=hlen (0+1);rw [e]at hl;simp only [og,ob]at hl;refine⟨_,rfl,?_,?_,?_⟩
     ·refine fits ?_;show (str (body v 0)).size+(str (aE v.a)).size≤_;rw [aB,aB];(try simp only [og,om,ob]);omega
     ·refine fits ?_;show (str (body v 0)++str (aE v.a)).size+(str []).size≤_;rw [aD,aB,aB];(try simp only [og,ob]);omega
     ·intro k7 u7;refine⟨3-0,oq,0+1,oq,oq,?_⟩;rw [e,←jf,←aD,←aD];rfl
   ·have hs:¬ body v 0≠[]:=by
     intro h;cases hq:((str (body v 0)).toList == (⟨#[]⟩:ByteArray).toList) with
     | false=>rw [hq]at hs;cases hs
     | true=>exact h (fZ (toList_inj.1 hq))
    refine gF (q0.up u3) oq ?_;intro k5 u5;have e:body v (0+1)=body v 0++(aE v.a++[]):=by
     simp only [body];conv=>lhs;rw [aH,oh hz,oh (fun h=>hs h.1)]
    have hl:=hlen (0+1);rw [e]at hl;simp only [og,ob]at hl;refine⟨_,rfl,?_,?_,?_⟩
    ·refine fits ?_;show (str (body v 0)).size+(str (aE v.a)).size≤_;rw [aB,aB];(try simp only [og,om,ob]);omega
    ·refine fits ?_;show (str (body v 0)++str (aE v.a)).size+(str []).size≤_;rw [aD,aB,aB];(try simp only [og,ob]);omega
    ·intro k7 u7;refine⟨3-0,oq,0+1,oq,oq,?_⟩;rw [e,←jf,←aD,←aD];rfl
 refine⟨fun hj1=>?_,fun hj1=>?_⟩
 ·have e:j=1:=by have:=eq_of_beq hj1;omega
  subst e;clear C hx;refine lI q1 ?_;intro k3 u3;refine⟨_,rfl,fun hz=>?_,fun hz=>?_⟩
  ·intro k4 u4;refine⟨3-1,oq,1+1,oq,oq,?_⟩;have hz:v.b=0:=ow hz;have e:body v (1+1)=body v 1:=by simp only [body];conv=>lhs;rw [aH,od hz]
   rw [e];rfl
  ·have hz:¬ v.b=0:=ov hz;refine⟨fun hs=>?_,fun hs=>?_⟩
   ·have hs:body v 1≠[]:=by
     intro h;rw [h,iJ]at hs;cases hs
    refine nB (q1.up u3) ?_;intro k4 u4;refine⟨_,rfl,fun hp=>?_,fun hp=>?_⟩
    ·have hp:0<(v.b).num.sign:=by simpa using hp
     refine⟨fits (by rw [aB];have:=hlen 1;show _+1≤_;omega),?_⟩;refine gF ((q1.up u3).up u4) oq ?_;intro k5 u5;have e:body v (1+1)=(body v 1++[43])++(aE v.b++[114,50]):=by
      simp only [body];conv=>lhs;rw [aH,oh hz,od ⟨hs,hp⟩]
     have hl:=hlen (1+1);rw [e]at hl;simp only [og,om,ob]at hl;refine⟨_,rfl,?_,?_,?_⟩
     ·refine fits ?_;show (str (body v 1)++str [43]).size+(str (aE v.b)).size≤_;rw [aD,aB,aB];(try simp only [og,om,ob]);omega
     ·refine fits ?_;show ((str (body v 1)++str [43])++str (aE v.b)).size+(str [114,50]).size≤_;rw [aD,aD,aB,aB];(try simp only [og,om,ob]);omega
     ·intro k7 u7;refine⟨3-1,oq,1+1,oq,oq,?_⟩;rw [e,←jf,←aD,←aD,←aD];rfl
    ·have hp:¬ 0<(v.b).num.sign:=by simpa using hp
     refine gF ((q1.up u3).up u4) oq ?_;intro k5 u5;have e:body v (1+1)=body v 1++(aE v.b++[114,50]):=by
      simp only [body];conv=>lhs;rw [aH,oh hz,oh (fun h=>hp h.2)]
     have hl:=hlen (1+1);rw [e]at hl;simp only [og,om,ob]at hl;refine⟨_,rfl,?_,?_,?_⟩
     ·refine fits ?_;show (str (body v 1)).size+(str (aE v.b)).size≤_;rw [aB,aB];(try simp only [og,om,ob]);omega
     ·refine fits ?_;show (str (body v 1)++str (aE v.b)).size+(str [114,50]).size≤_;rw [aD,aB,aB];(try simp only [og,om,ob]);omega
     ·intro k7 u7;refine⟨3-1,oq,1+1,oq,oq,?_⟩;rw [e,←jf,←aD,←aD];rfl
   ·have hs:¬ body v 1≠[]:=by
     intro h;cases hq:((str (body v 1)).toList == (⟨#[]⟩:ByteArray).toList) with
     | false=>rw [hq]at hs;cases hs
     | true=>exact h (fZ (toList_inj.1 hq))
    refine gF (q1.up u3) oq ?_;intro k5 u5;have e:body v (1+1)=body v 1++(aE v.b++[114,50]):=by
     simp only [body];conv=>lhs;rw [aH,oh hz,oh (fun h=>hs h.1)]
    have hl:=hlen (1+1);rw [e]at hl;simp only [og,om,ob]at hl;refine⟨_,rfl,?_,?_,?_⟩
    ·refine fits ?_;show (str (body v 1)).size+(str (aE v.b)).size≤_;rw [aB,aB];(try simp only [og,om,ob]);omega
    ·refine fits ?_;show (str (body v 1)++str (aE v.b)).size+(str [114,50]).size≤_;rw [aD,aB,aB];(try simp only [og,om,ob]);omega
    ·intro k7 u7;refine⟨3-1,oq,1+1,oq,oq,?_⟩;rw [e,←jf,←aD,←aD];rfl
 refine⟨fun hj2=>?_,fun hj2=>?_⟩
 ·have e:j=2:=by have:=eq_of_beq hj2;omega
  subst e;clear C hx;refine lI q2 ?_;intro k3 u3;refine⟨_,rfl,fun hz=>?_,fun hz=>?_⟩
  ·intro k4 u4;refine⟨3-2,oq,2+1,oq,oq,?_⟩;have hz:v.c=0:=ow hz;have e:body v (2+1)=body v 2:=by simp only [body];conv=>lhs;rw [aH,od hz]
   rw [e];rfl
  ·have hz:¬ v.c=0:=ov hz;refine⟨fun hs=>?_,fun hs=>?_⟩
   ·have hs:body v 2≠[]:=by
     intro h;rw [h,iJ]at hs;cases hs
    refine nB (q2.up u3) ?_;intro k4 u4;refine⟨_,rfl,fun hp=>?_,fun hp=>?_⟩
    ·have hp:0<(v.c).num.sign:=by simpa using hp
     refine⟨fits (by rw [aB];have:=hlen 2;show _+1≤_;omega),?_⟩;refine gF ((q2.up u3).up u4) oq ?_;intro k5 u5;have e:body v (2+1)=(body v 2++[43])++(aE v.c++[114,51]):=by
      simp only [body];conv=>lhs;rw [aH,oh hz,od ⟨hs,hp⟩]
     have hl:=hlen (2+1);rw [e]at hl;simp only [og,om,ob]at hl;refine⟨_,rfl,?_,?_,?_⟩
     ·refine fits ?_;show (str (body v 2)++str [43]).size+(str (aE v.c)).size≤_;rw [aD,aB,aB];(try simp only [og,om,ob]);omega
     ·refine fits ?_;show ((str (body v 2)++str [43])++str (aE v.c)).size+(str [114,51]).size≤_;rw [aD,aD,aB,aB];(try simp only [og,om,ob]);omega
     ·intro k7 u7;refine⟨3-2,oq,2+1,oq,oq,?_⟩;rw [e,←jf,←aD,←aD,←aD];rfl
    ·have hp:¬ 0<(v.c).num.sign:=by simpa using hp
     refine gF ((q2.up u3).up u4) oq ?_;intro k5 u5;have e:body v (2+1)=body v 2++(aE v.c++[114,51]):=by
      simp only [body];conv=>lhs;rw [aH,oh hz,oh (fun h=>hp h.2)]
     have hl:=hlen (2+1);rw [e]at hl;simp only [og,om,ob]at hl;refine⟨_,rfl,?_,?_,?_⟩
     ·refine fits ?_;show (str (body v 2)).size+(str (aE v.c)).size≤_;rw [aB,aB];(try simp only [og,om,ob]);omega
     ·refine fits ?_;show (str (body v 2)++str (aE v.c)).size+(str [114,51]).size≤_;rw [aD,aB,aB];(try simp only [og,om,ob]);omega
     ·intro k7 u7;refine⟨3-2,oq,2+1,oq,oq,?_⟩;rw [e,←jf,←aD,←aD];rfl
   ·have hs:¬ body v 2≠[]:=by
     intro h;cases hq:((str (body v 2)).toList == (⟨#[]⟩:ByteArray).toList) with
     | false=>rw [hq]at hs;cases hs
     | true=>exact h (fZ (toList_inj.1 hq))
    refine gF (q2.up u3) oq ?_;intro k5 u5;have e:body v (2+1)=body v 2++(aE v.c++[114,51]):=by
     simp only [body];conv=>lhs;rw [aH,oh hz,oh (fun h=>hs h.1)]
    have hl:=hlen (2+1);rw [e]at hl;simp only [og,om,ob]at hl;refine⟨_,rfl,?_,?_,?_⟩
    ·refine fits ?_;show (str (body v 2)).size+(str (aE v.c)).size≤_;rw [aB,aB];(try simp only [og,om,ob]);omega
    ·refine fits ?_;show (str (body v 2)++str (aE v.c)).size+(str [114,51]).size≤_;rw [aD,aB,aB];(try simp only [og,om,ob]);omega
    ·intro k7 u7;refine⟨3-2,oq,2+1,oq,oq,?_⟩;rw [e,←jf,←aD,←aD];rfl
 refine⟨fun hj3=>?_,fun hj3=>?_⟩
 ·have e:j=3:=by have:=eq_of_beq hj3;omega
  subst e;clear C hx;refine lI q3 ?_;intro k3 u3;refine⟨_,rfl,fun hz=>?_,fun hz=>?_⟩
  ·intro k4 u4;refine⟨3-3,oq,3+1,oq,oq,?_⟩;have hz:v.d=0:=ow hz;have e:body v (3+1)=body v 3:=by simp only [body];conv=>lhs;rw [aH,od hz]
   rw [e];rfl
  ·have hz:¬ v.d=0:=ov hz;refine⟨fun hs=>?_,fun hs=>?_⟩
   ·have hs:body v 3≠[]:=by
     intro h;rw [h,iJ]at hs;cases hs
    refine nB (q3.up u3) ?_;intro k4 u4;refine⟨_,rfl,fun hp=>?_,fun hp=>?_⟩
    ·have hp:0<(v.d).num.sign:=by simpa using hp
     refine⟨fits (by rw [aB];have:=hlen 3;show _+1≤_;omega),?_⟩;refine gF ((q3.up u3).up u4) oq ?_;intro k5 u5;have e:body v (3+1)=(body v 3++[43])++(aE v.d++[114,54]):=by
      simp only [body];conv=>lhs;rw [aH,oh hz,od ⟨hs,hp⟩]
     have hl:=hlen (3+1);rw [e]at hl;simp only [og,om,ob]at hl;refine⟨_,rfl,?_,?_,?_⟩
     ·refine fits ?_;show (str (body v 3)++str [43]).size+(str (aE v.d)).size≤_;rw [aD,aB,aB];(try simp only [og,om,ob]);omega
     ·refine fits ?_;show ((str (body v 3)++str [43])++str (aE v.d)).size+(str [114,54]).size≤_;rw [aD,aD,aB,aB];(try simp only [og,om,ob]);omega
     ·intro k7 u7;refine⟨3-3,oq,3+1,oq,oq,?_⟩;rw [e,←jf,←aD,←aD,←aD];rfl
    ·have hp:¬ 0<(v.d).num.sign:=by simpa using hp
     refine gF ((q3.up u3).up u4) oq ?_;intro k5 u5;have e:body v (3+1)=body v 3++(aE v.d++[114,54]):=by
      simp only [body];conv=>lhs;rw [aH,oh hz,oh (fun h=>hp h.2)]
     have hl:=hlen (3+1);rw [e]at hl;simp only [og,om,ob]at hl;refine⟨_,rfl,?_,?_,?_⟩
     ·refine fits ?_;show (str (body v 3)).size+(str (aE v.d)).size≤_;rw [aB,aB];(try simp only [og,om,ob]);omega
     ·refine fits ?_;show (str (body v 3)++str (aE v.d)).size+(str [114,54]).size≤_;rw [aD,aB,aB];(try simp only [og,om,ob]);omega
     ·intro k7 u7;refine⟨3-3,oq,3+1,oq,oq,?_⟩;rw [e,←jf,←aD,←aD];rfl
   ·have hs:¬ body v 3≠[]:=by
     intro h;cases hq:((str (body v 3)).toList == (⟨#[]⟩:ByteArray).toList) with
     | false=>rw [hq]at hs;cases hs
     | true=>exact h (fZ (toList_inj.1 hq))
    refine gF (q3.up u3) oq ?_;intro k5 u5;have e:body v (3+1)=body v 3++(aE v.d++[114,54]):=by
     simp only [body];conv=>lhs;rw [aH,oh hz,oh (fun h=>hs h.1)]
    have hl:=hlen (3+1);rw [e]at hl;simp only [og,om,ob]at hl;refine⟨_,rfl,?_,?_,?_⟩
    ·refine fits ?_;show (str (body v 3)).size+(str (aE v.d)).size≤_;rw [aB,aB];(try simp only [og,om,ob]);omega
    ·refine fits ?_;show (str (body v 3)++str (aE v.d)).size+(str [114,54]).size≤_;rw [aD,aB,aB];(try simp only [og,om,ob]);omega
    ·intro k7 u7;refine⟨3-3,oq,3+1,oq,oq,?_⟩;rw [e,←jf,←aD,←aD];rfl
 refine⟨fun hj4=>?_,fun hj4=>?_⟩
 ·have e:j=4:=by have:=eq_of_beq hj4;omega
  subst e;refine⟨fun hs=>?_,fun hs=>?_⟩
  ·have hs:body v 4=[]:=fZ (toList_inj.1 hs);intro k3 u3;have:=C k3 u3;unfold eI at this
   rwa [od hs]at this
  ·have hs:¬ body v 4=[]:=by
    intro h;rw [h,iJ]at hs;cases hs
   intro k3 u3;have:=C k3 u3;unfold eI at this
   rwa [oh hs]at this
 ·exfalso;simp only [beq_eq_false_iff_ne,ne_eq]at hj0 hj1 hj2 hj3 hj4;omega
end
section
variable {k k':World}{cs cs' c0 c1 c2 c3:Array Value}{R:World→Value→Prop}{x y q q':Rat}{v v':Q4}{K L:Nat}
theorem aWh (hx:SQ k cs v K)  (C:∀k',Up k k'→R k' (.bool (decide (v=Q4.zero)))) :
 Cl k 236 #[.agg cs] R:=by
 intro k0 u0;replace C:=fun k' u=>C k' (u0.trans u);obtain⟨c0,c1,c2,c3,rfl,x0,x1,x2,x3⟩:=hx.up u0;refine aQb x0.seg x1.seg x2.seg x3.seg ?_;refine lI x0 fun k1 u1=>⟨_,rfl,fun h0=>?_,fun h0=>fun k11 u11=>?_⟩
 ·refine lI (x1.up u1) fun k3 u3=>⟨_,rfl,fun h1=>?_,fun h1=>fun k10 u10=>?_⟩
  ·refine lI (x2.up (u1.trans u3)) fun k5 u5=>⟨_,rfl,fun h2=>?_,fun h2=>fun k9 u9=>?_⟩
   ·refine lI (x3.up ((u1.trans u3).trans u5)) fun k7 u7=>⟨_,rfl,fun k8 u8=>?_⟩;have e:decide (v=Q4.zero)=decide (v.d=0):=by rw [Q4.zero_iff,h0,h1,h2];rfl
    have:=C k8 ((((u1.trans u3).trans u5).trans u7).trans u8);rw [e]at this;exact this
   ·have e:decide (v=Q4.zero)=false:=by rw [Q4.zero_iff,h0,h1,h2];rfl
    have:=C k9 (((u1.trans u3).trans u5).trans u9);rw [e]at this;exact this
  ·have e:decide (v=Q4.zero)=false:=by rw [Q4.zero_iff,h0,h1];rfl
   have:=C k10 ((u1.trans u3).trans u10);rw [e]at this;exact this
 ·have e:decide (v=Q4.zero)=false:=by rw [Q4.zero_iff,h0];rfl
  have:=C k11 (u1.trans u11);rw [e]at this;exact this
theorem aGn {n0 n1 n2 n3 n4 n5 n6 n7:Int}(h0:In64 n0) (h1:In64 n1) (h2:In64 n2) (h3:In64 n3) (h4:In64 n4) (h5:In64 n5) (h6:In64 n6) (h7:In64 n7) (C:∀k' ds,Up k k'→SQ k' ds ⟨ofQ n0 n1,ofQ n2 n3,ofQ n4 n5,ofQ n6 n7⟩ 2→R k' (.agg ds)) :
 Cl k 29 #[.agg #[.int .i64 n0,.int .i64 n1,.int .i64 n2,.int .i64 n3,.int .i64 n4,.int .i64 n5,.int .i64 n6,.int .i64 n7]] R:=by
 intro k0 u0;refine aDt (aUv h0 h1 fun k1 d1 u1 q1=>⟨d1,q1.seg,rfl,?_⟩);refine aUv h2 h3 fun k3 d3 u3 q3=>⟨d3,q3.seg,rfl,?_⟩;refine aUv h4 h5 fun k5 d5 u5 q5=>⟨d5,q5.seg,rfl,?_⟩;refine aUv h6 h7 fun k7 d7 u7 q7=>⟨d7,q7.seg,rfl,fun k8 u8=>?_⟩;exact C k8 _ (((((u0.trans u1).trans u3).trans u5).trans u7).trans u8) ⟨d1,d3,d5,d7,rfl,(((q1.up u3).up u5).up u7).up u8,((q3.up u5).up u7).up u8,(q5.up u7).up u8,q7.up u8⟩
end
def WQ (k:World) (cs:Array Value) (w:W4) (K:Nat):Prop:=∃c0 c1:Array Value,cs=cat2 c0 c1∧SQ k c0 w.re K∧SQ k c1 w.im K
section
variable {k k':World}{cs cs' c0 c1:Array Value}{R:World→Value→Prop}{v v':Q4}{x y:W4}{q:Rat}{K L:Nat}
theorem WQ.up (h:WQ k cs x K) (u:Up k k'):WQ k' cs x K:=by
 obtain⟨c0,c1,e,h0,h1⟩:=h;exact⟨c0,c1,e,h0.up u,h1.up u⟩
theorem WQ.mono (h:WQ k cs x K) (hL:K≤L):WQ k cs x L:=by
 obtain⟨c0,c1,e,h0,h1⟩:=h;exact⟨c0,c1,e,h0.mono hL,h1.mono hL⟩
theorem WQ.seg (h:WQ k cs x K):Seg 24 cs:=by
 obtain⟨c0,c1,rfl,h0,h1⟩:=h;exact aBl h0.seg h1.seg
theorem bAj (hx:WQ k cs x K) (hy:WQ k cs' y L) (hK:K+L≤10000000000) (C:∀k' ds,Up k k'→WQ k' ds (x.add y) (K+L+1)→R k' (.agg ds)) :
 Cl k 82 #[.agg cs,.agg cs'] R:=by
 intro k0 u0;obtain⟨a,b,rfl,a0,b0⟩:=hx.up u0;obtain⟨c,d,rfl,c0,d0⟩:=hy.up u0;refine aPy a0.seg b0.seg c0.seg d0.seg ?_;refine tR a0 c0 hK fun k1 e1 u1 h1=>⟨e1,h1.seg,rfl,?_⟩;refine tR (b0.up u1) (d0.up u1) hK fun k3 e3 u3 h3=>⟨e3,h3.seg,rfl,fun k4 u4=>?_⟩;exact C k4 _ (((u0.trans u1).trans u3).trans u4) ⟨e1,e3,rfl,(h1.up u3).up u4,h3.up u4⟩
theorem aEq (hx:WQ k cs x K) (hy:WQ k cs' y L) (hK:8*(K+L)+45≤10000000000) (C:∀k' ds,Up k k'→WQ k' ds (x.mul y) (8*(K+L)+45)→R k' (.agg ds)) :
 Cl k 83 #[.agg cs,.agg cs'] R:=by
 intro k0 u0;obtain⟨a,b,rfl,a0,b0⟩:=hx.up u0;obtain⟨c,d,rfl,c0,d0⟩:=hy.up u0;refine aPz a0.seg b0.seg c0.seg d0.seg ?_;refine pN a0 c0 oq fun k1 e1 u1 h1=>⟨e1,h1.seg,rfl,?_⟩;refine pN (b0.up u1) (d0.up u1) oq fun k2 e2 u2 h2=>⟨e2,h2.seg,rfl,?_⟩;refine aQw (h1.up u2) h2 oq fun k3 e3 u3 h3=>⟨e3,h3.seg,rfl,?_⟩;have u123:=(u1.trans u2).trans u3;refine pN (a0.up u123) (d0.up u123) oq fun k4 e4 u4 h4=>⟨e4,h4.seg,rfl,?_⟩;refine pN (b0.up (u123.trans u4)) (c0.up (u123.trans u4)) oq fun k5 e5 u5 h5=>⟨e5,h5.seg,rfl,?_⟩;refine tR (h4.up u5) h5 oq fun k6 e6 u6 h6=>⟨e6,h6.seg,rfl,fun k7 u7=>?_⟩;exact C k7 _ (((((u0.trans u123).trans u4).trans u5).trans u6).trans u7) ⟨e3,e6,rfl,((((h3.up u4).up u5).up u6).up u7).mono oq,(h6.up u7).mono oq⟩
theorem aWp (hx:WQ k cs x K) (hK:K≤10000000000) (C:∀k' ds,Up k k'→WQ k' ds x.conj K→R k' (.agg ds)) :
 Cl k 194 #[.agg cs] R:=by
 intro k0 u0;obtain⟨a,b,rfl,a0,b0⟩:=hx.up u0;refine aKi a0.seg b0.seg ?_;refine fT b0 hK fun k2 e2 u2 h2=>⟨e2,h2.seg,rfl,fun k4 u4=>?_⟩;exact C k4 _ ((u0.trans u2).trans u4) ⟨a,e2,rfl,(a0.up u2).up u4,h2.up u4⟩
theorem aZf (hx:WQ k cs x K) (hK:16*K+45≤10000000000) (C:∀k' ds,Up k k'→SQ k' ds x.norm (16*K+45)→R k' (.agg ds)) :
 Cl k 34 #[.agg cs] R:=by
 intro k0 u0;obtain⟨a,b,rfl,a0,b0⟩:=hx.up u0;refine aOk a0.seg b0.seg ?_;refine pN a0 a0 oq fun k1 e1 u1 h1=>⟨e1,h1.seg,rfl,?_⟩;refine pN (b0.up u1) (b0.up u1) oq fun k2 e2 u2 h2=>⟨e2,h2.seg,rfl,?_⟩;refine tR (h1.up u2) h2 oq fun k3 e3 u3 h3=>⟨e3,h3.seg,rfl,fun k4 u4=>?_⟩;exact C k4 _ ((((u0.trans u1).trans u2).trans u3).trans u4) ((h3.up u4).mono oq)
theorem wofwave_v {n0 n1 n2 n3 n4 n5 n6 n7 n8 n9 n10 n11 n12 n13 n14 n15:Int}(h0:In64 n0) (h1:In64 n1) (h2:In64 n2) (h3:In64 n3) (h4:In64 n4) (h5:In64 n5) (h6:In64 n6) (h7:In64 n7) (h8:In64 n8) (h9:In64 n9) (h10:In64 n10) (h11:In64 n11) (h12:In64 n12) (h13:In64 n13) (h14:In64 n14) (h15:In64 n15) (C:∀k' ds,Up k k'→WQ k' ds ⟨⟨ofQ n0 n1,ofQ n2 n3,ofQ n4 n5,ofQ n6 n7⟩,⟨ofQ n8 n9,ofQ n10 n11,ofQ n12 n13,ofQ n14 n15⟩⟩ 2→R k' (.agg ds)) :
 Cl k 173 #[.agg #[.int .i64 n0,.int .i64 n1,.int .i64 n2,.int .i64 n3,.int .i64 n4,.int .i64 n5,.int .i64 n6,.int .i64 n7,.int .i64 n8,.int .i64 n9,.int .i64 n10,.int .i64 n11,.int .i64 n12,.int .i64 n13,.int .i64 n14,.int .i64 n15]] R:=by
 intro k0 u0;refine aEo (aGn h0 h1 h2 h3 h4 h5 h6 h7 fun k1 d1 u1 q1=>⟨d1,q1.seg,rfl,?_⟩);refine aGn h8 h9 h10 h11 h12 h13 h14 h15 fun k3 d3 u3 q3=>⟨d3,q3.seg,rfl,fun k4 u4=>?_⟩;exact C k4 _ (((u0.trans u1).trans u3).trans u4) ⟨d1,d3,rfl,(q1.up u3).up u4,q3.up u4⟩
end
end Go.Proofs.YtmifbgccpdmjpaaGreat.W32

namespace Go.Proofs.YtmifbgccpdmjpaaGreat
open Go.RowKit
open Value (agg slice int bool tuple)
open Sy (Up Sees CallsG Seg execFn_use)
set_option maxRecDepth 100000
variable {k:World}{R:World→Value→Prop}{cs0 cs1:Array Value}{n0 n1 n2 n3 n4 n5 n6 n7 n8 n9 n10 n11 n12 n13 n14 n15:Int}
theorem aGu (hcs0:Seg 9 cs0) (hcs1:Seg 12 cs1)
 (h:Cl k 40 #[agg cs0] fun k1 r0=>∃s2,some (Value.string s2)=some r0∧
 Cl k1 76 #[agg cs1] fun k3 r2=>∃s3,some (Value.string s3)=some r2∧
 Rt R k3 (bool (ByteArray.toList s2 == ByteArray.toList s3))) :
  CallsG Tryz.prog 20 #[agg cs0,agg cs1] k R:=
  qX { opq:=[36,51] } [.agg [.seg 0 9],.agg [.seg 1 12]] [agg cs0,agg cs1] [.seg 9,.seg 12] ⟨⟨cs0,rfl,hcs0⟩,⟨cs1,rfl,hcs1⟩,trivial⟩ h
theorem aGv 
 (h:Cl k 48 #[agg #[int .i64 n0,int .i64 n1]] fun k1 r0=>Gt 3 r0 fun cs8=>
 Cl k1 48 #[agg #[int .i64 n2,int .i64 n3]] fun k3 r2=>Gt 3 r2 fun cs9=>
 Cl k3 48 #[agg #[int .i64 n4,int .i64 n5]] fun k5 r4=>Gt 3 r4 fun cs10=>
 Cl k5 48 #[agg #[int .i64 n6,int .i64 n7]] fun k7 r6=>Gt 3 r6 fun cs11=>
 Cl k7 88 #[Rg cs8 cs9 cs10 cs11] fun k9 r8=>Gt 9 r8 fun cs12=>
 Rt R k9 (agg cs12)) :
  CallsG Tryz.prog 28 #[agg #[int .i64 n0,int .i64 n1,int .i64 n2,int .i64 n3,int .i64 n4,int .i64 n5,int .i64 n6,int .i64 n7]] k R:=
  qY { opq:=[128,36] } h
theorem aGw 
 (h:Cl k 28 #[agg #[int .i64 n0,int .i64 n1,int .i64 n2,int .i64 n3,int .i64 n4,int .i64 n5,int .i64 n6,int .i64 n7]] fun k1 r0=>Gt 9 r0 fun cs16=>
 Cl k1 28 #[agg #[int .i64 n8,int .i64 n9,int .i64 n10,int .i64 n11,int .i64 n12,int .i64 n13,int .i64 n14,int .i64 n15]] fun k3 r2=>Gt 9 r2 fun cs17=>
 Cl k3 284 #[agg cs16,agg cs17] fun k5 r4=>∃cs18,Seg 9 cs18∧∃cs19,Seg 9 cs19∧some (agg (cs18.toList++(cs19.toList++([]))).toArray)=some r4∧
 Rt R k5 (agg (cs18.toList++(cs19.toList++([]))).toArray)) :
  CallsG Tryz.prog 172 #[agg #[int .i64 n0,int .i64 n1,int .i64 n2,int .i64 n3,int .i64 n4,int .i64 n5,int .i64 n6,int .i64 n7,int .i64 n8,int .i64 n9,int .i64 n10,int .i64 n11,int .i64 n12,int .i64 n13,int .i64 n14,int .i64 n15]] k R:=
  qY { opq:=[36] } h
end Go.Proofs.YtmifbgccpdmjpaaGreat

namespace Go.Proofs.YtmifbgccpdmjpaaGreat
open Go.RowKit Num Plain W32
open Sy (Up Sees CallsG Seg)
section
variable {k k':World}{R:World→Value→Prop}{x q:Rat}{K L:Nat}{cs cs':Array Value}{v:Q4}{w:W4}
theorem yQ {n0 n1 n2 n3 n4 n5 n6 n7:Int}(h0:In64 n0) (h1:In64 n1) (h2:In64 n2) (h3:In64 n3) (h4:In64 n4) (h5:In64 n5) (h6:In64 n6) (h7:In64 n7) (C:∀k' ds,Up k k'→SurdV k' ds ⟨ofQ n0 n1,ofQ n2 n3,ofQ n4 n5,ofQ n6 n7⟩ 6→R k' (.agg ds)) :
 Cl k 28 #[.agg #[.int .i64 n0,.int .i64 n1,.int .i64 n2,.int .i64 n3,.int .i64 n4,.int .i64 n5,.int .i64 n6,.int .i64 n7]] R:=by
 intro k0 u0;replace C:=fun k' ds u=>C k' ds (u0.trans u);refine aGv ?_;refine aSj h0 h1 ?_;intro k1 c1 u1 q1;refine⟨c1,q1.seg,rfl,?_⟩;refine aSj h2 h3 ?_;intro k2 c2 u2 q2;refine⟨c2,q2.seg,rfl,?_⟩;refine aSj h4 h5 ?_;intro k3 c3 u3 q3;refine⟨c3,q3.seg,rfl,?_⟩;refine aSj h6 h7 ?_;intro k4 c4 u4 q4;refine⟨c4,q4.seg,rfl,?_⟩;refine aXn (((q1.up u2).up u3).up u4) ((q2.up u3).up u4) (q3.up u4) q4 oq oq ?_;intro k5 c5 u5 h5;refine⟨c5,h5.seg,rfl,?_⟩;intro k6 u6;exact C k6 c5 (((((u1.trans u2).trans u3).trans u4).trans u5).trans u6) (h5.up u6)
theorem aMl (hx:SurdV k cs v K) (hK1:1≤K) (hK:K≤268435456) (h:SQ k cs' v L) (hL:L≤10000000000) (C:∀k',Up k k'→R k' (.bool true)) :
 Cl k 20 #[.agg cs,.agg cs'] R:=by
 intro k0 u0;refine aGu hx.seg h.seg (aEs (hx.up u0) hK1 hK fun k1 u1=>⟨_,rfl,aWe ((h.up u0).up u1) hL fun k3 u3=>⟨_,rfl,fun k4 u4=>?_⟩⟩);have:=C k4 (((u0.trans u1).trans u3).trans u4);rw [show (ByteArray.toList (str (eI v)) == ByteArray.toList (str (eI v)))=true from beq_self_eq_true _];exact this
theorem aKy {n0 n1 n2 n3 n4 n5 n6 n7 n8 n9 n10 n11 n12 n13 n14 n15:Int}(h0:In64 n0) (h1:In64 n1) (h2:In64 n2) (h3:In64 n3) (h4:In64 n4) (h5:In64 n5) (h6:In64 n6) (h7:In64 n7) (h8:In64 n8) (h9:In64 n9) (h10:In64 n10) (h11:In64 n11) (h12:In64 n12) (h13:In64 n13) (h14:In64 n14) (h15:In64 n15) (C:∀k' ds,Up k k'→WaveV k' ds ⟨⟨ofQ n0 n1,ofQ n2 n3,ofQ n4 n5,ofQ n6 n7⟩,⟨ofQ n8 n9,ofQ n10 n11,ofQ n12 n13,ofQ n14 n15⟩⟩ 6→R k' (.agg ds)) :
 Cl k 172 #[.agg #[.int .i64 n0,.int .i64 n1,.int .i64 n2,.int .i64 n3,.int .i64 n4,.int .i64 n5,.int .i64 n6,.int .i64 n7,.int .i64 n8,.int .i64 n9,.int .i64 n10,.int .i64 n11,.int .i64 n12,.int .i64 n13,.int .i64 n14,.int .i64 n15]] R:=by
 intro k0 u0;refine aGw (yQ h0 h1 h2 h3 h4 h5 h6 h7 fun k1 d1 u1 q1=>⟨d1,q1.seg,rfl,?_⟩);refine yQ h8 h9 h10 h11 h12 h13 h14 h15 fun k3 d3 u3 q3=>⟨d3,q3.seg,rfl,?_⟩;refine aZk (q1.up u3) q3 fun k5 d5 u5 q5=>?_;have q5':=q5;obtain⟨a,b,rfl,a0,b0⟩:=q5';exact⟨a,a0.seg,b,b0.seg,rfl,fun k6 u6=>C k6 _ ((((u0.trans u1).trans u3).trans u5).trans u6) (q5.up u6)⟩
end
