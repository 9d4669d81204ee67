/- Several texts in one. (Printed by prep.py.) -/
import Derived.Test.YtifcjpacobpdmaaGreatReNL
namespace Go.Proofs.YtifcjpacobpdmaaGreat
open Num Plain
structure W4 where
 (re im:Q4)
theorem W4.ext' {x y:W4}(h1:x.re=y.re) (h2:x.im=y.im):x=y:=by cases x;cases y;simp_all
instance:DecidableEq Q4:=fun x y=>decidable_of_iff (x.a=y.a∧x.b=y.b∧x.c=y.c∧x.d=y.d)
 ⟨fun ⟨h1,h2,h3,h4⟩=>Q4.ext' h1 h2 h3 h4,fun h=>by rw [h];exact⟨rfl,rfl,rfl,rfl⟩⟩
instance:DecidableEq W4:=fun x y=>decidable_of_iff (x.re=y.re∧x.im=y.im)
 ⟨fun ⟨h1,h2⟩=>W4.ext' h1 h2,fun h=>by rw [h];exact⟨rfl,rfl⟩⟩
def W4.add (x y:W4):W4:=⟨x.re.add y.re,x.im.add y.im⟩
def W4.sub (x y:W4):W4:=⟨x.re.sub y.re,x.im.sub y.im⟩
def W4.mul (x y:W4):W4:=⟨(x.re.mul y.re).sub (x.im.mul y.im),(x.re.mul y.im).add (x.im.mul y.re)⟩
def W4.neg (x:W4):W4:=⟨x.re.neg,x.im.neg⟩
def W4.conj (x:W4):W4:=⟨x.re,x.im.neg⟩
def W4.norm (x:W4):Q4:=(x.re.mul x.re).add (x.im.mul x.im)
def W4.zero:W4:=⟨Q4.zero,Q4.zero⟩
def W4.real (q:Rat):W4:=⟨Q4.real q,Q4.zero⟩
def bAr:Nat→Q4
 | 0=>⟨1,0,0,0⟩
 | 1=>⟨0,1/4,0,1/4⟩
 | 2=>⟨0,0,1/2,0⟩
 | 3=>⟨0,1/2,0,0⟩
 | 4=>⟨1/2,0,0,0⟩
 | 5=>⟨0,-1/4,0,1/4⟩
 | _=>⟨0,0,0,0⟩
def bAs (m:Nat):Q4:=if 6<m then (bAr (12-m)).neg else bAr m
def fL (n:Nat):Q4:=if 12<n then bAs (24-n) else bAs n
def aDb (n:Nat):W4:=⟨fL n,fL ((n+18) % 24)⟩
def plc (k:Int):Nat:=(k % 24).toNat
theorem aZo (k:Int):plc k<24:=by unfold plc;omega
def bCh (k:Nat):Nat→W4
 | 0=>W4.zero
 | j+1=>(bCh k j).add (aDb (j*k % 24))
def q4s (q:Rat):Bool:=(4*q).den == 1 && decide ((4*q).num.natAbs≤1000)
def Q4.small (v:Q4):Bool:=q4s v.a && q4s v.b && q4s v.c && q4s v.d
def W4.small (v:W4):Bool:=v.re.small && v.im.small
def Q4.t1 (y:Q4):Q4:=⟨y.a,-y.b,y.c,-y.d⟩
def Q4.t2 (y:Q4):Q4:=⟨y.a,y.b,-y.c,-y.d⟩
def Q4.cnj (y:Q4):Q4:=(y.t1.mul y.t2).mul y.t1.t2
def Q4.div (x y:Q4):Q4:=⟨(x.mul y.cnj).a/(y.mul y.cnj).a,(x.mul y.cnj).b/(y.mul y.cnj).a,(x.mul y.cnj).c/(y.mul y.cnj).a,(x.mul y.cnj).d/(y.mul y.cnj).a⟩
theorem Q4.cnj_norm (y:Q4):(y.mul y.cnj).b=0∧(y.mul y.cnj).c=0∧(y.mul y.cnj).d=0:=by
 obtain⟨a,b,c,d⟩:=y;simp only [Q4.cnj,Q4.mul,Q4.t1,Q4.t2];refine⟨?_,?_,?_⟩ <;> grind
theorem Q4.t1_ne {y:Q4}(h:y≠Q4.zero):y.t1≠Q4.zero:=fun e=>h (by
 have ha:=congrArg Q4.a e;have hb:=congrArg Q4.b e;have hc:=congrArg Q4.c e;have hd:=congrArg Q4.d e;simp only [Q4.t1,Q4.zero]at ha hb hc hd
 exact Q4.ext' ha (by show y.b=0;grind) hc (by show y.d=0;grind))
theorem Q4.t2_ne {y:Q4}(h:y≠Q4.zero):y.t2≠Q4.zero:=fun e=>h (by
 have ha:=congrArg Q4.a e;have hb:=congrArg Q4.b e;have hc:=congrArg Q4.c e;have hd:=congrArg Q4.d e;simp only [Q4.t2,Q4.zero]at ha hb hc hd
 exact Q4.ext' ha hb (by show y.c=0;grind) (by show y.d=0;grind))
theorem Q4.norm_ne {y:Q4}(h:y≠Q4.zero):(y.mul y.cnj).a≠0:=by
 intro ha;obtain⟨hb,hc,hd⟩:=Q4.cnj_norm y;have e:y.mul y.cnj=Q4.zero:=Q4.ext' ha hb hc hd;have e2:y.toQ*((y.t1.toQ*y.t2.toQ)*y.t1.t2.toQ)=0:=by
  rw [←gS,←gS,←gS];exact (congrArg Q4.toQ e).trans toQ_zero
 exact C.nD (aGw.2 h) (C.nD (C.nD (aGw.2 (Q4.t1_ne h)) (aGw.2 (Q4.t2_ne h))) (aGw.2 (Q4.t2_ne (Q4.t1_ne h)))) e2
def W4.div (x y:W4):W4:=⟨(x.mul y.conj).re.div y.norm,(x.mul y.conj).im.div y.norm⟩
open Go.RowKit
open Value (agg slice int bool tuple)
open Sy (Up Sees CallsG Seg execFn_use)
set_option maxRecDepth 100000
variable {k:World}{R:World→Value→Prop}{cs0 cs1 cs2 cs3:Array Value}
theorem aWl (hcs0:Seg 9 cs0) (hcs1:Seg 9 cs1) (hcs2:Seg 9 cs2) (hcs3:Seg 9 cs3)
 (h:Cl k 36 #[agg cs0,agg cs2] fun k1 r0=>Gt 9 r0 fun cs4=>
 Cl k1 36 #[agg cs1,agg cs3] fun k3 r2=>Gt 9 r2 fun cs5=>
 Rt R k3 (agg (cs4.toList++(cs5.toList++([]))).toArray)) :
  CallsG Tryz.prog 187 #[agg (cs0.toList++(cs1.toList++([]))).toArray,agg (cs2.toList++(cs3.toList++([]))).toArray] k R:=
  qX { opq:=[35] } [.agg [.seg 0 9,.seg 1 9],.agg [.seg 2 9,.seg 3 9]] [agg cs0,agg cs1,agg cs2,agg cs3] [.seg 9,.seg 9,.seg 9,.seg 9] ⟨⟨cs0,rfl,hcs0⟩,⟨cs1,rfl,hcs1⟩,⟨cs2,rfl,hcs2⟩,⟨cs3,rfl,hcs3⟩,trivial⟩ h
theorem aRx (hcs0:Seg 9 cs0) (hcs1:Seg 9 cs1)
 (h:Cl k 37 #[agg cs0,agg cs0] fun k1 r0=>Gt 9 r0 fun cs2=>
 Cl k1 37 #[agg cs1,agg cs1] fun k3 r2=>Gt 9 r2 fun cs3=>
 Cl k3 36 #[agg cs2,agg cs3] fun k5 r4=>Gt 9 r4 fun cs4=>
 Rt R k5 (agg cs4)) :
  CallsG Tryz.prog 114 #[agg (cs0.toList++(cs1.toList++([]))).toArray] k R:=
  qX { opq:=[35] } [.agg [.seg 0 9,.seg 1 9]] [agg cs0,agg cs1] [.seg 9,.seg 9] ⟨⟨cs0,rfl,hcs0⟩,⟨cs1,rfl,hcs1⟩,trivial⟩ h
theorem bAa (hcs0:Seg 9 cs0) (hcs1:Seg 9 cs1)
 (h:Rt R k (agg cs0)) :
 CallsG Tryz.prog 78 #[agg (cs0.toList++(cs1.toList++([]))).toArray] k R:=
 qX { opq:=[35] } [.agg [.seg 0 9,.seg 1 9]] [agg cs0,agg cs1] [.seg 9,.seg 9] ⟨⟨cs0,rfl,hcs0⟩,⟨cs1,rfl,hcs1⟩,trivial⟩ h
theorem aZz (hcs0:Seg 9 cs0) (hcs1:Seg 9 cs1)
 (h:Rt R k (agg cs1)) :
 CallsG Tryz.prog 169 #[agg (cs0.toList++(cs1.toList++([]))).toArray] k R:=
 qX { opq:=[35] } [.agg [.seg 0 9,.seg 1 9]] [agg cs0,agg cs1] [.seg 9,.seg 9] ⟨⟨cs0,rfl,hcs0⟩,⟨cs1,rfl,hcs1⟩,trivial⟩ h
theorem aVk (hcs0:Seg 9 cs0) (hcs1:Seg 9 cs1)
 (h:Rt R k (agg (cs0.toList++(cs1.toList++([]))).toArray)) :
 CallsG Tryz.prog 79 #[agg cs0,agg cs1] k R:=
 qX { opq:=[35] } [.agg [.seg 0 9],.agg [.seg 1 9]] [agg cs0,agg cs1] [.seg 9,.seg 9] ⟨⟨cs0,rfl,hcs0⟩,⟨cs1,rfl,hcs1⟩,trivial⟩ h
end Go.Proofs.YtifcjpacobpdmaaGreat

namespace Go.Proofs.YtifcjpacobpdmaaGreat
open Go.RowKit Num Plain
open Sy (Up Sees CallsG Seg)
def cat2 (c0 c1:Array Value):Array Value:=(c0.toList++(c1.toList++([]))).toArray
theorem aCs {m n:Nat}{c0 c1:Array Value}(h0:Seg m c0) (h1:Seg n c1):Seg (m+n) (cat2 c0 c1):=by
 obtain⟨a0,b0⟩:=h0;obtain⟨a1,b1⟩:=h1;refine⟨by simp [cat2,a0,a1],fun u hu=>?_⟩;simp only [cat2,List.append_nil,List.mem_append]at hu;rcases hu with hu|hu
 ·exact b0 u hu
 ·exact b1 u hu
def WaveV (k:World) (cs:Array Value) (w:W4) (K:Nat):Prop:=∃c0 c1:Array Value,cs=cat2 c0 c1∧SurdV k c0 w.re K∧SurdV k c1 w.im K
section
variable {k k':World}{cs cs' c0 c1:Array Value}{R:World→Value→Prop}{v v':Q4}{x y:W4}{K L:Nat}
theorem WaveV.up (h:WaveV k cs x K) (u:Up k k'):WaveV k' cs x K:=by
 obtain⟨c0,c1,e,h0,h1⟩:=h;exact⟨c0,c1,e,h0.up u,h1.up u⟩
theorem WaveV.mono (h:WaveV k cs x K) (hL:K≤L):WaveV k cs x L:=by
 obtain⟨c0,c1,e,h0,h1⟩:=h;exact⟨c0,c1,e,h0.mono hL,h1.mono hL⟩
theorem WaveV.seg (h:WaveV k cs x K):Seg 18 cs:=by
 obtain⟨c0,c1,rfl,h0,h1⟩:=h;exact aCs h0.seg h1.seg
theorem aXr (hx:WaveV k cs x K) (hy:WaveV k cs' y K) (hK1:1≤K) (hK:K≤134217727) (C:∀k' ds,Up k k'→WaveV k' ds (x.add y) (2*K+1)→R k' (.agg ds)) :
 Cl k 187 #[.agg cs,.agg cs'] R:=by
 intro k0 u0;obtain⟨a,b,rfl,a0,b0⟩:=hx.up u0;obtain⟨c,d,rfl,c0,d0⟩:=hy.up u0;refine aWl a0.seg b0.seg c0.seg d0.seg ?_;refine mU a0 c0 hK1 oq fun k1 e1 u1 h1=>⟨e1,h1.seg,rfl,?_⟩;refine mU (b0.up u1) (d0.up u1) hK1 oq fun k3 e3 u3 h3=>⟨e3,h3.seg,rfl,fun k4 u4=>?_⟩;exact C k4 _ (((u0.trans u1).trans u3).trans u4) ⟨e1,e3,rfl,(h1.up u3).up u4,h3.up u4⟩
theorem aTe (hx:WaveV k cs x K) (hK1:1≤K) (hK:K≤33554431) (C:∀k' ds,Up k k'→SurdV k' ds x.norm (4*K+9)→R k' (.agg ds)) :
 Cl k 114 #[.agg cs] R:=by
 intro k0 u0;obtain⟨a,b,rfl,a0,b0⟩:=hx.up u0;refine aRx a0.seg b0.seg ?_;refine aDp a0 a0 hK1 oq fun k1 e1 u1 h1=>⟨e1,h1.seg,rfl,?_⟩;refine aDp (b0.up u1) (b0.up u1) hK1 oq fun k2 e2 u2 h2=>⟨e2,h2.seg,rfl,?_⟩;refine mU (h1.up u2) h2 oq oq fun k3 e3 u3 h3=>⟨e3,h3.seg,rfl,fun k4 u4=>?_⟩;exact C k4 _ ((((u0.trans u1).trans u2).trans u3).trans u4) ((h3.up u4).mono oq)
theorem aGl (hx:WaveV k cs x K) (C:∀k' ds,Up k k'→SurdV k' ds x.re K→R k' (.agg ds)) :
 Cl k 78 #[.agg cs] R:=by
 intro k0 u0;obtain⟨a,b,rfl,a0,b0⟩:=hx.up u0;exact bAa a0.seg b0.seg fun k1 u1=>C k1 _ (u0.trans u1) (a0.up u1)
theorem aXa (hx:WaveV k cs x K) (C:∀k' ds,Up k k'→SurdV k' ds x.im K→R k' (.agg ds)) :
 Cl k 169 #[.agg cs] R:=by
 intro k0 u0;obtain⟨a,b,rfl,a0,b0⟩:=hx.up u0;exact aZz a0.seg b0.seg fun k1 u1=>C k1 _ (u0.trans u1) (b0.up u1)
theorem aPt (hx:SurdV k cs v K) (hy:SurdV k cs' v' K) (C:∀k' ds,Up k k'→WaveV k' ds ⟨v,v'⟩ K→R k' (.agg ds)) :
 Cl k 79 #[.agg cs,.agg cs'] R:=
 fun _ u0=>aVk hx.seg hy.seg fun k1 u1=>C k1 _ (u0.trans u1) ⟨cs,cs',rfl,(hx.up u0).up u1,(hy.up u0).up u1⟩
end
end Go.Proofs.YtifcjpacobpdmaaGreat

namespace Go.Proofs.YtifcjpacobpdmaaGreat.W32
open Go.RowKit Num
open Sy (Up Sees CallsG Seg)
def cat4 (c0 c1 c2 c3:Array Value):Array Value:=(c0.toList++(c1.toList++(c2.toList++(c3.toList++([]))))).toArray
def SQ (k:World) (cs:Array Value) (v:Q4) (K:Nat):Prop:=∃c0 c1 c2 c3:Array Value,cs=cat4 c0 c1 c2 c3∧QV k c0 v.a K∧QV k c1 v.b K∧QV k c2 v.c K∧QV k c3 v.d K
section
variable {k k':World}{cs cs' c0 c1 c2 c3:Array Value}{R:World→Value→Prop}{x y q q':Rat}{v v':Q4}{K L:Nat}
theorem SQ.up (h:SQ k cs v K) (u:Up k k'):SQ k' cs v K:=by
 obtain⟨c0,c1,c2,c3,e,h0,h1,h2,h3⟩:=h;exact⟨c0,c1,c2,c3,e,h0.up u,h1.up u,h2.up u,h3.up u⟩
theorem SQ.mono (h:SQ k cs v K) (hL:K≤L):SQ k cs v L:=by
 obtain⟨c0,c1,c2,c3,e,h0,h1,h2,h3⟩:=h;exact⟨c0,c1,c2,c3,e,h0.mono hL,h1.mono hL,h2.mono hL,h3.mono hL⟩
theorem aRb (h0:Seg 3 c0) (h1:Seg 3 c1) (h2:Seg 3 c2) (h3:Seg 3 c3):Seg 12 (cat4 c0 c1 c2 c3):=by
 obtain⟨a0,b0⟩:=h0;obtain⟨a1,b1⟩:=h1;obtain⟨a2,b2⟩:=h2;obtain⟨a3,b3⟩:=h3;refine⟨by simp [cat4,a0,a1,a2,a3],fun u hu=>?_⟩;simp only [cat4,List.append_nil,List.mem_append]at hu;rcases hu with hu|hu|hu|hu
 ·exact b0 u hu
 ·exact b1 u hu
 ·exact b2 u hu
 ·exact b3 u hu
theorem SQ.seg (h:SQ k cs v K):Seg 12 cs:=by
 obtain⟨c0,c1,c2,c3,rfl,h0,h1,h2,h3⟩:=h;exact aRb h0.seg h1.seg h2.seg h3.seg
theorem yX (hx:QV k cs q K) (hK:2≤K) (C:∀k' ds,Up k k'→SQ k' ds (Q4.real q) K→R k' (.agg ds)) :
 Cl k 82 #[.agg cs] R:=by
 intro k0 u0;refine aQv hx.seg ?_;refine mH oz oz fun k1 d1 u1 h1=>⟨d1,h1.seg,rfl,?_⟩;refine mH oz oz fun k2 d2 u2 h2=>⟨d2,h2.seg,rfl,?_⟩;refine mH oz oz fun k3 d3 u3 h3=>⟨d3,h3.seg,rfl,fun k4 u4=>?_⟩;exact C k4 _ ((((u0.trans u1).trans u2).trans u3).trans u4) ⟨cs,d1,d2,d3,rfl,((((hx.up u0).up u1).up u2).up u3).up u4,(((h1.up u2).up u3).up u4).mono hK,((h2.up u3).up u4).mono hK,(h3.up u4).mono hK⟩
end
section
variable {k k':World}{cs cs' c0 c1 c2 c3:Array Value}{R:World→Value→Prop}{x y q q':Rat}{v v':Q4}{K L:Nat}
end
def WQ (k:World) (cs:Array Value) (w:W4) (K:Nat):Prop:=∃c0 c1:Array Value,cs=cat2 c0 c1∧SQ k c0 w.re K∧SQ k c1 w.im K
section
variable {k k':World}{cs cs' c0 c1:Array Value}{R:World→Value→Prop}{v v':Q4}{x y:W4}{q:Rat}{K L:Nat}
theorem WQ.up (h:WQ k cs x K) (u:Up k k'):WQ k' cs x K:=by
 obtain⟨c0,c1,e,h0,h1⟩:=h;exact⟨c0,c1,e,h0.up u,h1.up u⟩
theorem WQ.seg (h:WQ k cs x K):Seg 24 cs:=by
 obtain⟨c0,c1,rfl,h0,h1⟩:=h;exact aCs h0.seg h1.seg
theorem aWo (hx:QV k cs q K) (hK:2≤K) (C:∀k' ds,Up k k'→WQ k' ds (W4.real q) K→R k' (.agg ds)) :
 Cl k 259 #[.agg cs] R:=by
 intro k0 u0;refine aMa hx.seg (yX (hx.up u0) hK fun k1 e1 u1 h1=>⟨e1,h1.seg,rfl,?_⟩);refine mH oz oz fun k2 e2 u2 h2=>⟨e2,h2.seg,rfl,?_⟩;refine yX h2 oz fun k3 e3 u3 h3=>⟨e3,h3.seg,rfl,fun k4 u4=>?_⟩;exact C k4 _ ((((u0.trans u1).trans u2).trans u3).trans u4) ⟨e1,e3,rfl,((h1.up u2).up u3).up u4,(h3.up u4).mono hK⟩
end
end Go.Proofs.YtifcjpacobpdmaaGreat.W32

namespace Go.Proofs.YtifcjpacobpdmaaGreat
open Go.RowKit
open Value (agg slice int bool tuple)
open Sy (Up Sees CallsG Seg execFn_use)
set_option maxRecDepth 100000
variable {k:World}{R:World→Value→Prop}{cs0 cs1 cs2 cs3:Array Value}
theorem aLt (hcs0:Seg 3 cs0) (hcs1:Seg 3 cs1) (hcs2:Seg 3 cs2) (hcs3:Seg 3 cs3)
 (h:∃I0:Nat→World→List Value→Prop,(∃m0,∀k0,Up k k0→I0 m0 k0 [Value.string ⟨#[]⟩,int .i64 0])∧
 ∀m0 k0 vs0,Up k k0→I0 m0 k0 vs0→∃s4,∃n5,some [Value.string s4,int .i64 n5]=some vs0∧
 Br ((n5:Int) == 0) (Cl k0 162 #[agg cs0] fun k2 r1=>Gb r1 fun b6=>
 Br b6 (∀k3,Up k2 k3→∃m,m<m0∧I0 m k3 [Value.string s4,int .i64 1]) (Br (!(ByteArray.toList s4 == ByteArray.toList ⟨#[]⟩)) (Cl k2 182 #[agg cs0] fun k5 r4=>Gi r4 fun n7=>
 Br (decide ((n7:Int) > 0)) ((decide (((ByteArray.size s4+ByteArray.size ⟨#[43]⟩:Nat):Int)≤9223372036854775807))=true∧
 (Cl k5 95 #[agg cs0] fun k7 r6=>∃s8,some (Value.string s8)=some r6∧
 (decide (((ByteArray.size (s4++⟨#[43]⟩)+ByteArray.size s8:Nat):Int)≤9223372036854775807))=true∧
 ((decide (((ByteArray.size ((s4++⟨#[43]⟩)++s8)+ByteArray.size ⟨#[]⟩:Nat):Int)≤9223372036854775807))=true∧
 (∀k8,Up k7 k8→∃m,m<m0∧I0 m k8 [Value.string (((s4++⟨#[43]⟩)++s8)++⟨#[]⟩),int .i64 1])))) (Cl k5 95 #[agg cs0] fun k10 r9=>∃s8,some (Value.string s8)=some r9∧
 (decide (((ByteArray.size s4+ByteArray.size s8:Nat):Int)≤9223372036854775807))=true∧
 ((decide (((ByteArray.size (s4++s8)+ByteArray.size ⟨#[]⟩:Nat):Int)≤9223372036854775807))=true∧
 (∀k11,Up k10 k11→∃m,m<m0∧I0 m k11 [Value.string ((s4++s8)++⟨#[]⟩),int .i64 1])))) (Cl k2 95 #[agg cs0] fun k13 r12=>∃s7,some (Value.string s7)=some r12∧
 (decide (((ByteArray.size s4+ByteArray.size s7:Nat):Int)≤9223372036854775807))=true∧
 ((decide (((ByteArray.size (s4++s7)+ByteArray.size ⟨#[]⟩:Nat):Int)≤9223372036854775807))=true∧
 (∀k14,Up k13 k14→∃m,m<m0∧I0 m k14 [Value.string ((s4++s7)++⟨#[]⟩),int .i64 1]))))) (Br ((n5:Int) == 1) (Cl k0 162 #[agg cs1] fun k16 r15=>Gb r15 fun b6=>
 Br b6 (∀k17,Up k16 k17→∃m,m<m0∧I0 m k17 [Value.string s4,int .i64 2]) (Br (!(ByteArray.toList s4 == ByteArray.toList ⟨#[]⟩)) (Cl k16 182 #[agg cs1] fun k19 r18=>Gi r18 fun n7=>
 Br (decide ((n7:Int) > 0)) ((decide (((ByteArray.size s4+ByteArray.size ⟨#[43]⟩:Nat):Int)≤9223372036854775807))=true∧
 (Cl k19 95 #[agg cs1] fun k21 r20=>∃s8,some (Value.string s8)=some r20∧
 (decide (((ByteArray.size (s4++⟨#[43]⟩)+ByteArray.size s8:Nat):Int)≤9223372036854775807))=true∧
 ((decide (((ByteArray.size ((s4++⟨#[43]⟩)++s8)+ByteArray.size ⟨#[114,50]⟩:Nat):Int)≤9223372036854775807))=true∧
 (∀k22,Up k21 k22→∃m,m<m0∧I0 m k22 [Value.string (((s4++⟨#[43]⟩)++s8)++⟨#[114,50]⟩),int .i64 2])))) (Cl k19 95 #[agg cs1] fun k24 r23=>∃s8,some (Value.string s8)=some r23∧
 (decide (((ByteArray.size s4+ByteArray.size s8:Nat):Int)≤9223372036854775807))=true∧
 ((decide (((ByteArray.size (s4++s8)+ByteArray.size ⟨#[114,50]⟩:Nat):Int)≤9223372036854775807))=true∧
 (∀k25,Up k24 k25→∃m,m<m0∧I0 m k25 [Value.string ((s4++s8)++⟨#[114,50]⟩),int .i64 2])))) (Cl k16 95 #[agg cs1] fun k27 r26=>∃s7,some (Value.string s7)=some r26∧
 (decide (((ByteArray.size s4+ByteArray.size s7:Nat):Int)≤9223372036854775807))=true∧
 ((decide (((ByteArray.size (s4++s7)+ByteArray.size ⟨#[114,50]⟩:Nat):Int)≤9223372036854775807))=true∧
 (∀k28,Up k27 k28→∃m,m<m0∧I0 m k28 [Value.string ((s4++s7)++⟨#[114,50]⟩),int .i64 2]))))) (Br ((n5:Int) == 2) (Cl k0 162 #[agg cs2] fun k30 r29=>Gb r29 fun b6=>
 Br b6 (∀k31,Up k30 k31→∃m,m<m0∧I0 m k31 [Value.string s4,int .i64 3]) (Br (!(ByteArray.toList s4 == ByteArray.toList ⟨#[]⟩)) (Cl k30 182 #[agg cs2] fun k33 r32=>Gi r32 fun n7=>
 Br (decide ((n7:Int) > 0)) ((decide (((ByteArray.size s4+ByteArray.size ⟨#[43]⟩:Nat):Int)≤9223372036854775807))=true∧
 (Cl k33 95 #[agg cs2] fun k35 r34=>∃s8,some (Value.string s8)=some r34∧
 (decide (((ByteArray.size (s4++⟨#[43]⟩)+ByteArray.size s8:Nat):Int)≤9223372036854775807))=true∧
 ((decide (((ByteArray.size ((s4++⟨#[43]⟩)++s8)+ByteArray.size ⟨#[114,51]⟩:Nat):Int)≤9223372036854775807))=true∧
 (∀k36,Up k35 k36→∃m,m<m0∧I0 m k36 [Value.string (((s4++⟨#[43]⟩)++s8)++⟨#[114,51]⟩),int .i64 3])))) (Cl k33 95 #[agg cs2] fun k38 r37=>∃s8,some (Value.string s8)=some r37∧
 (decide (((ByteArray.size s4+ByteArray.size s8:Nat):Int)≤9223372036854775807))=true∧
 ((decide (((ByteArray.size (s4++s8)+ByteArray.size ⟨#[114,51]⟩:Nat):Int)≤9223372036854775807))=true∧
 (∀k39,Up k38 k39→∃m,m<m0∧I0 m k39 [Value.string ((s4++s8)++⟨#[114,51]⟩),int .i64 3])))) (Cl k30 95 #[agg cs2] fun k41 r40=>∃s7,some (Value.string s7)=some r40∧
 (decide (((ByteArray.size s4+ByteArray.size s7:Nat):Int)≤9223372036854775807))=true∧
 ((decide (((ByteArray.size (s4++s7)+ByteArray.size ⟨#[114,51]⟩:Nat):Int)≤9223372036854775807))=true∧
 (∀k42,Up k41 k42→∃m,m<m0∧I0 m k42 [Value.string ((s4++s7)++⟨#[114,51]⟩),int .i64 3]))))) (Br ((n5:Int) == 3) (Cl k0 162 #[agg cs3] fun k44 r43=>Gb r43 fun b6=>
 Br b6 (∀k45,Up k44 k45→∃m,m<m0∧I0 m k45 [Value.string s4,int .i64 4]) (Br (!(ByteArray.toList s4 == ByteArray.toList ⟨#[]⟩)) (Cl k44 182 #[agg cs3] fun k47 r46=>Gi r46 fun n7=>
 Br (decide ((n7:Int) > 0)) ((decide (((ByteArray.size s4+ByteArray.size ⟨#[43]⟩:Nat):Int)≤9223372036854775807))=true∧
 (Cl k47 95 #[agg cs3] fun k49 r48=>∃s8,some (Value.string s8)=some r48∧
 (decide (((ByteArray.size (s4++⟨#[43]⟩)+ByteArray.size s8:Nat):Int)≤9223372036854775807))=true∧
 ((decide (((ByteArray.size ((s4++⟨#[43]⟩)++s8)+ByteArray.size ⟨#[114,54]⟩:Nat):Int)≤9223372036854775807))=true∧
 (∀k50,Up k49 k50→∃m,m<m0∧I0 m k50 [Value.string (((s4++⟨#[43]⟩)++s8)++⟨#[114,54]⟩),int .i64 4])))) (Cl k47 95 #[agg cs3] fun k52 r51=>∃s8,some (Value.string s8)=some r51∧
 (decide (((ByteArray.size s4+ByteArray.size s8:Nat):Int)≤9223372036854775807))=true∧
 ((decide (((ByteArray.size (s4++s8)+ByteArray.size ⟨#[114,54]⟩:Nat):Int)≤9223372036854775807))=true∧
 (∀k53,Up k52 k53→∃m,m<m0∧I0 m k53 [Value.string ((s4++s8)++⟨#[114,54]⟩),int .i64 4])))) (Cl k44 95 #[agg cs3] fun k55 r54=>∃s7,some (Value.string s7)=some r54∧
 (decide (((ByteArray.size s4+ByteArray.size s7:Nat):Int)≤9223372036854775807))=true∧
 ((decide (((ByteArray.size (s4++s7)+ByteArray.size ⟨#[114,54]⟩:Nat):Int)≤9223372036854775807))=true∧
 (∀k56,Up k55 k56→∃m,m<m0∧I0 m k56 [Value.string ((s4++s7)++⟨#[114,54]⟩),int .i64 4]))))) (Br ((n5:Int) == 4) (Br (ByteArray.toList s4 == ByteArray.toList ⟨#[]⟩) (Rt R k0 (Value.string ⟨#[48]⟩)) (Rt R k0 (Value.string s4))) (False /- split -/)))))) :
   CallsG Tryz.prog 157 #[Rg cs0 cs1 cs2 cs3] k R:=
  qX { opq:=[42],loops:=[(0,[.tmp 3 false [.str],.tmp 5 false [.int .i64]])],splits:=[(0,5,[0,1,2,3,4])] } [.agg [.seg 0 3,.seg 1 3,.seg 2 3,.seg 3 3]] [agg cs0,agg cs1,agg cs2,agg cs3] [.seg 3,.seg 3,.seg 3,.seg 3] ⟨⟨cs0,rfl,hcs0⟩,⟨cs1,rfl,hcs1⟩,⟨cs2,rfl,hcs2⟩,⟨cs3,rfl,hcs3⟩,trivial⟩ h
end Go.Proofs.YtifcjpacobpdmaaGreat

namespace Go.Proofs.YtifcjpacobpdmaaGreat.W32
open Go.RowKit Num
open Sy (Up Sees CallsG Seg)
section
variable {k k':World}{cs cs' c0 c1 c2 c3:Array Value}{R:World→Value→Prop}{x y q q':Rat}{v v':Q4}{K L:Nat}
theorem mA (h:QV k cs q K):(aE q).length≤20*K+4:=by
 obtain⟨b,A,l,c,A',l',c',rfl,h,e1,e2⟩:=h;have h1:=lO h.n;have h2:=lO h.d;unfold aE;rw [og,og];have h3:(if q.num<0 then [45] else ([]:List UInt8)).length≤1:=by split <;> simp
 by_cases h4:q.den=1
 ·rw [od h4];simp only [ol];omega
 ·rw [oh h4];simp only [ob];omega
theorem aLj (h0:QV k c0 v.a K) (h1:QV k c1 v.b K) (h2:QV k c2 v.c K) (h3:QV k c3 v.d K) (j:Nat):(body v j).length≤80*K+26:=by
 have e0:=mA h0;have e1:=mA h1;have e2:=mA h2;have e3:=mA h3;have f1:=cY [] v.a [];have f2:=cY (aG [] v.a []) v.b [114,50];have f3:=cY (aG (aG [] v.a []) v.b [114,50]) v.c [114,51];have f4:=cY (aG (aG (aG [] v.a []) v.b [114,50]) v.c [114,51]) v.d [114,54];simp only [ob,ol]at f1 f2 f3 f4
 match j with
 | 0=>simp [body]
 | 1=>simp only [body];omega
 | 2=>simp only [body];omega
 | 3=>simp only [body];omega
 | n+4=>simp only [body];omega
theorem aWc (hx:SQ k cs v K) (hK:K≤10000000000) (C:∀k',Up k k'→R k' (.string (str (bW v)))) :
 Cl k 157 #[.agg cs] R:=by
 intro k0 u0;obtain⟨c0,c1,c2,c3,rfl,q0,q1,q2,q3⟩:=hx.up u0;replace C:=fun k' u=>C k' (u0.trans u);refine aLt q0.seg q1.seg q2.seg q3.seg ?_;have hlen:=aLj q0 q1 q2 q3;refine⟨fun m k' vs=>∃j,j≤4∧m=4-j∧vs=[.string (str (body v j)),.int .i64 (j:Nat)],⟨4,fun k' _=>⟨0,oq,rfl,rfl⟩⟩,?_⟩;rintro m k2 vs u2 ⟨j,hj,rfl,rfl⟩;refine⟨str (body v j),(j:Nat),rfl,?_⟩;replace q0:=q0.up u2;replace q1:=q1.up u2;replace q2:=q2.up u2;replace q3:=q3.up u2;replace C:=fun k' u=>C k' (u2.trans u);clear u0 u2;refine⟨fun hj0=>?_,fun hj0=>?_⟩
 ·have e:j=0:=by have:=eq_of_beq hj0;omega
  subst e;clear C hx;refine zV q0 ?_;intro k3 u3;refine⟨_,rfl,fun hz=>?_,fun hz=>?_⟩
  ·intro k4 u4;refine⟨3-0,oq,0+1,oq,oq,?_⟩;have hz:v.a=0:=ow hz;have e:body v (0+1)=body v 0:=by simp only [body];conv=>lhs;rw [aG,od hz]
   rw [e];rfl
  ·have hz:¬ v.a=0:=ov hz;refine⟨fun hs=>?_,fun hs=>?_⟩
   ·have hs:body v 0≠[]:=by
     intro h;rw [h,iW]at hs;cases hs
    refine zC (q0.up u3) ?_;intro k4 u4;refine⟨_,rfl,fun hp=>?_,fun hp=>?_⟩
    ·have hp:0<(v.a).num.sign:=by simpa using hp
     refine⟨fits (by rw [aB];have:=hlen 0;show _+1≤_;omega),?_⟩;refine gJ ((q0.up u3).up u4) oq ?_;intro k5 u5;have e:body v (0+1)=(body v 0++[43])++(aE v.a++[]):=by
      simp only [body];conv=>lhs;rw [aG,oh hz,od ⟨hs,hp⟩]
     have hl:=hlen (0+1);rw [e]at hl;simp only [og,ob,ol]at hl;refine⟨_,rfl,?_,?_,?_⟩
     ·refine fits ?_;show (str (body v 0)++str [43]).size+(str (aE v.a)).size≤_;rw [aD,aB,aB];(try simp only [og,ob,ol]);omega
     ·refine fits ?_;show ((str (body v 0)++str [43])++str (aE v.a)).size+(str []).size≤_;rw [aD,aD,aB,aB];(try simp only [og,ob,ol]);omega
     ·intro k7 u7;refine⟨3-0,oq,0+1,oq,oq,?_⟩;rw [e,←ja,←aD,←aD,←aD];rfl
    ·have hp:¬ 0<(v.a).num.sign:=by simpa using hp
     refine gJ ((q0.up u3).up u4) oq ?_;intro k5 u5;have e:body v (0+1)=body v 0++(aE v.a++[]):=by
      simp only [body];conv=>lhs;rw [aG,oh hz,oh (fun h=>hp h.2)]
     have hl:=hlen (0+1);rw [e]at hl;simp only [og,ol]at hl;refine⟨_,rfl,?_,?_,?_⟩
     ·refine fits ?_;show (str (body v 0)).size+(str (aE v.a)).size≤_;rw [aB,aB];(try simp only [og,ob,ol]);omega
     ·refine fits ?_;show (str (body v 0)++str (aE v.a)).size+(str []).size≤_;rw [aD,aB,aB];(try simp only [og,ol]);omega
     ·intro k7 u7;refine⟨3-0,oq,0+1,oq,oq,?_⟩;rw [e,←ja,←aD,←aD];rfl
   ·have hs:¬ body v 0≠[]:=by
     intro h;cases hq:((str (body v 0)).toList == (⟨#[]⟩:ByteArray).toList) with
     | false=>rw [hq]at hs;cases hs
     | true=>exact h (gA (toList_inj.1 hq))
    refine gJ (q0.up u3) oq ?_;intro k5 u5;have e:body v (0+1)=body v 0++(aE v.a++[]):=by
     simp only [body];conv=>lhs;rw [aG,oh hz,oh (fun h=>hs h.1)]
    have hl:=hlen (0+1);rw [e]at hl;simp only [og,ol]at hl;refine⟨_,rfl,?_,?_,?_⟩
    ·refine fits ?_;show (str (body v 0)).size+(str (aE v.a)).size≤_;rw [aB,aB];(try simp only [og,ob,ol]);omega
    ·refine fits ?_;show (str (body v 0)++str (aE v.a)).size+(str []).size≤_;rw [aD,aB,aB];(try simp only [og,ol]);omega
    ·intro k7 u7;refine⟨3-0,oq,0+1,oq,oq,?_⟩;rw [e,←ja,←aD,←aD];rfl
 refine⟨fun hj1=>?_,fun hj1=>?_⟩
 ·have e:j=1:=by have:=eq_of_beq hj1;omega
  subst e;clear C hx;refine zV q1 ?_;intro k3 u3;refine⟨_,rfl,fun hz=>?_,fun hz=>?_⟩
  ·intro k4 u4;refine⟨3-1,oq,1+1,oq,oq,?_⟩;have hz:v.b=0:=ow hz;have e:body v (1+1)=body v 1:=by simp only [body];conv=>lhs;rw [aG,od hz]
   rw [e];rfl
  ·have hz:¬ v.b=0:=ov hz;refine⟨fun hs=>?_,fun hs=>?_⟩
   ·have hs:body v 1≠[]:=by
     intro h;rw [h,iW]at hs;cases hs
    refine zC (q1.up u3) ?_;intro k4 u4;refine⟨_,rfl,fun hp=>?_,fun hp=>?_⟩
    ·have hp:0<(v.b).num.sign:=by simpa using hp
     refine⟨fits (by rw [aB];have:=hlen 1;show _+1≤_;omega),?_⟩;refine gJ ((q1.up u3).up u4) oq ?_;intro k5 u5;have e:body v (1+1)=(body v 1++[43])++(aE v.b++[114,50]):=by
      simp only [body];conv=>lhs;rw [aG,oh hz,od ⟨hs,hp⟩]
     have hl:=hlen (1+1);rw [e]at hl;simp only [og,ob,ol]at hl;refine⟨_,rfl,?_,?_,?_⟩
     ·refine fits ?_;show (str (body v 1)++str [43]).size+(str (aE v.b)).size≤_;rw [aD,aB,aB];(try simp only [og,ob,ol]);omega
     ·refine fits ?_;show ((str (body v 1)++str [43])++str (aE v.b)).size+(str [114,50]).size≤_;rw [aD,aD,aB,aB];(try simp only [og,ob,ol]);omega
     ·intro k7 u7;refine⟨3-1,oq,1+1,oq,oq,?_⟩;rw [e,←ja,←aD,←aD,←aD];rfl
    ·have hp:¬ 0<(v.b).num.sign:=by simpa using hp
     refine gJ ((q1.up u3).up u4) oq ?_;intro k5 u5;have e:body v (1+1)=body v 1++(aE v.b++[114,50]):=by
      simp only [body];conv=>lhs;rw [aG,oh hz,oh (fun h=>hp h.2)]
     have hl:=hlen (1+1);rw [e]at hl;simp only [og,ob,ol]at hl;refine⟨_,rfl,?_,?_,?_⟩
     ·refine fits ?_;show (str (body v 1)).size+(str (aE v.b)).size≤_;rw [aB,aB];(try simp only [og,ob,ol]);omega
     ·refine fits ?_;show (str (body v 1)++str (aE v.b)).size+(str [114,50]).size≤_;rw [aD,aB,aB];(try simp only [og,ob,ol]);omega
     ·intro k7 u7;refine⟨3-1,oq,1+1,oq,oq,?_⟩;rw [e,←ja,←aD,←aD];rfl
   ·have hs:¬ body v 1≠[]:=by
     intro h;cases hq:((str (body v 1)).toList == (⟨#[]⟩:ByteArray).toList) with
     | false=>rw [hq]at hs;cases hs
     | true=>exact h (gA (toList_inj.1 hq))
    refine gJ (q1.up u3) oq ?_;intro k5 u5;have e:body v (1+1)=body v 1++(aE v.b++[114,50]):=by
     simp only [body];conv=>lhs;rw [aG,oh hz,oh (fun h=>hs h.1)]
    have hl:=hlen (1+1);rw [e]at hl;simp only [og,ob,ol]at hl;refine⟨_,rfl,?_,?_,?_⟩
    ·refine fits ?_;show (str (body v 1)).size+(str (aE v.b)).size≤_;rw [aB,aB];(try simp only [og,ob,ol]);omega
    ·refine fits ?_;show (str (body v 1)++str (aE v.b)).size+(str [114,50]).size≤_;rw [aD,aB,aB];(try simp only [og,ob,ol]);omega
    ·intro k7 u7;refine⟨3-1,oq,1+1,oq,oq,?_⟩;rw [e,←ja,←aD,←aD];rfl
 refine⟨fun hj2=>?_,fun hj2=>?_⟩
 ·have e:j=2:=by have:=eq_of_beq hj2;omega
  subst e;clear C hx;refine zV q2 ?_;intro k3 u3;refine⟨_,rfl,fun hz=>?_,fun hz=>?_⟩
  ·intro k4 u4;refine⟨3-2,oq,2+1,oq,oq,?_⟩;have hz:v.c=0:=ow hz;have e:body v (2+1)=body v 2:=by simp only [body];conv=>lhs;rw [aG,od hz]
   rw [e];rfl
  ·have hz:¬ v.c=0:=ov hz;refine⟨fun hs=>?_,fun hs=>?_⟩
   ·have hs:body v 2≠[]:=by
     intro h;rw [h,iW]at hs;cases hs
    refine zC (q2.up u3) ?_;intro k4 u4;refine⟨_,rfl,fun hp=>?_,fun hp=>?_⟩
    ·have hp:0<(v.c).num.sign:=by simpa using hp
     refine⟨fits (by rw [aB];have:=hlen 2;show _+1≤_;omega),?_⟩;refine gJ ((q2.up u3).up u4) oq ?_;intro k5 u5;have e:body v (2+1)=(body v 2++[43])++(aE v.c++[114,51]):=by
      simp only [body];conv=>lhs;rw [aG,oh hz,od ⟨hs,hp⟩]
     have hl:=hlen (2+1);rw [e]at hl;simp only [og,ob,ol]at hl;refine⟨_,rfl,?_,?_,?_⟩
     ·refine fits ?_;show (str (body v 2)++str [43]).size+(str (aE v.c)).size≤_;rw [aD,aB,aB];(try simp only [og,ob,ol]);omega
     ·refine fits ?_;show ((str (body v 2)++str [43])++str (aE v.c)).size+(str [114,51]).size≤_;rw [aD,aD,aB,aB];(try simp only [og,ob,ol]);omega
     ·intro k7 u7;refine⟨3-2,oq,2+1,oq,oq,?_⟩;rw [e,←ja,←aD,←aD,←aD];rfl
    ·have hp:¬ 0<(v.c).num.sign:=by simpa using hp
     refine gJ ((q2.up u3).up u4) oq ?_;intro k5 u5;have e:body v (2+1)=body v 2++(aE v.c++[114,51]):=by
      simp only [body];conv=>lhs;rw [aG,oh hz,oh (fun h=>hp h.2)]
     have hl:=hlen (2+1);rw [e]at hl;simp only [og,ob,ol]at hl;refine⟨_,rfl,?_,?_,?_⟩
     ·refine fits ?_;show (str (body v 2)).size+(str (aE v.c)).size≤_;rw [aB,aB];(try simp only [og,ob,ol]);omega
     ·refine fits ?_;show (str (body v 2)++str (aE v.c)).size+(str [114,51]).size≤_;rw [aD,aB,aB];(try simp only [og,ob,ol]);omega
     ·intro k7 u7;refine⟨3-2,oq,2+1,oq,oq,?_⟩;rw [e,←ja,←aD,←aD];rfl
   ·have hs:¬ body v 2≠[]:=by
     intro h;cases hq:((str (body v 2)).toList == (⟨#[]⟩:ByteArray).toList) with
     | false=>rw [hq]at hs;cases hs
     | true=>exact h (gA (toList_inj.1 hq))
    refine gJ (q2.up u3) oq ?_;intro k5 u5;have e:body v (2+1)=body v 2++(aE v.c++[114,51]):=by
     simp only [body];conv=>lhs;rw [aG,oh hz,oh (fun h=>hs h.1)]
    have hl:=hlen (2+1);rw [e]at hl;simp only [og,ob,ol]at hl;refine⟨_,rfl,?_,?_,?_⟩
    ·refine fits ?_;show (str (body v 2)).size+(str (aE v.c)).size≤_;rw [aB,aB];(try simp only [og,ob,ol]);omega
    ·refine fits ?_;show (str (body v 2)++str (aE v.c)).size+(str [114,51]).size≤_;rw [aD,aB,aB];(try simp only [og,ob,ol]);omega
    ·intro k7 u7;refine⟨3-2,oq,2+1,oq,oq,?_⟩;rw [e,←ja,←aD,←aD];rfl
 refine⟨fun hj3=>?_,fun hj3=>?_⟩
 ·have e:j=3:=by have:=eq_of_beq hj3;omega
  subst e;clear C hx;refine zV q3 ?_;intro k3 u3;refine⟨_,rfl,fun hz=>?_,fun hz=>?_⟩
  ·intro k4 u4;refine⟨3-3,oq,3+1,oq,oq,?_⟩;have hz:v.d=0:=ow hz;have e:body v (3+1)=body v 3:=by simp only [body];conv=>lhs;rw [aG,od hz]
   rw [e];rfl
  ·have hz:¬ v.d=0:=ov hz;refine⟨fun hs=>?_,fun hs=>?_⟩
   ·have hs:body v 3≠[]:=by
     intro h;rw [h,iW]at hs;cases hs
    refine zC (q3.up u3) ?_;intro k4 u4;refine⟨_,rfl,fun hp=>?_,fun hp=>?_⟩
    ·have hp:0<(v.d).num.sign:=by simpa using hp
     refine⟨fits (by rw [aB];have:=hlen 3;show _+1≤_;omega),?_⟩;refine gJ ((q3.up u3).up u4) oq ?_;intro k5 u5;have e:body v (3+1)=(body v 3++[43])++(aE v.d++[114,54]):=by
      simp only [body];conv=>lhs;rw [aG,oh hz,od ⟨hs,hp⟩]
     have hl:=hlen (3+1);rw [e]at hl;simp only [og,ob,ol]at hl;refine⟨_,rfl,?_,?_,?_⟩
     ·refine fits ?_;show (str (body v 3)++str [43]).size+(str (aE v.d)).size≤_;rw [aD,aB,aB];(try simp only [og,ob,ol]);omega
     ·refine fits ?_;show ((str (body v 3)++str [43])++str (aE v.d)).size+(str [114,54]).size≤_;rw [aD,aD,aB,aB];(try simp only [og,ob,ol]);omega
     ·intro k7 u7;refine⟨3-3,oq,3+1,oq,oq,?_⟩;rw [e,←ja,←aD,←aD,←aD];rfl
    ·have hp:¬ 0<(v.d).num.sign:=by simpa using hp
     refine gJ ((q3.up u3).up u4) oq ?_;intro k5 u5;have e:body v (3+1)=body v 3++(aE v.d++[114,54]):=by
      simp only [body];conv=>lhs;rw [aG,oh hz,oh (fun h=>hp h.2)]
     have hl:=hlen (3+1);rw [e]at hl;simp only [og,ob,ol]at hl;refine⟨_,rfl,?_,?_,?_⟩
     ·refine fits ?_;show (str (body v 3)).size+(str (aE v.d)).size≤_;rw [aB,aB];(try simp only [og,ob,ol]);omega
     ·refine fits ?_;show (str (body v 3)++str (aE v.d)).size+(str [114,54]).size≤_;rw [aD,aB,aB];(try simp only [og,ob,ol]);omega
     ·intro k7 u7;refine⟨3-3,oq,3+1,oq,oq,?_⟩;rw [e,←ja,←aD,←aD];rfl
   ·have hs:¬ body v 3≠[]:=by
     intro h;cases hq:((str (body v 3)).toList == (⟨#[]⟩:ByteArray).toList) with
     | false=>rw [hq]at hs;cases hs
     | true=>exact h (gA (toList_inj.1 hq))
    refine gJ (q3.up u3) oq ?_;intro k5 u5;have e:body v (3+1)=body v 3++(aE v.d++[114,54]):=by
     simp only [body];conv=>lhs;rw [aG,oh hz,oh (fun h=>hs h.1)]
    have hl:=hlen (3+1);rw [e]at hl;simp only [og,ob,ol]at hl;refine⟨_,rfl,?_,?_,?_⟩
    ·refine fits ?_;show (str (body v 3)).size+(str (aE v.d)).size≤_;rw [aB,aB];(try simp only [og,ob,ol]);omega
    ·refine fits ?_;show (str (body v 3)++str (aE v.d)).size+(str [114,54]).size≤_;rw [aD,aB,aB];(try simp only [og,ob,ol]);omega
    ·intro k7 u7;refine⟨3-3,oq,3+1,oq,oq,?_⟩;rw [e,←ja,←aD,←aD];rfl
 refine⟨fun hj4=>?_,fun hj4=>?_⟩
 ·have e:j=4:=by have:=eq_of_beq hj4;omega
  subst e;refine⟨fun hs=>?_,fun hs=>?_⟩
  ·have hs:body v 4=[]:=gA (toList_inj.1 hs);intro k3 u3;have:=C k3 u3;unfold bW at this
   rwa [od hs]at this
  ·have hs:¬ body v 4=[]:=by
    intro h;rw [h,iW]at hs;cases hs
   intro k3 u3;have:=C k3 u3;unfold bW at this
   rwa [oh hs]at this
 ·exfalso;simp only [beq_eq_false_iff_ne,ne_eq]at hj0 hj1 hj2 hj3 hj4;omega
end
end Go.Proofs.YtifcjpacobpdmaaGreat.W32

namespace Go.Proofs.YtifcjpacobpdmaaGreat
open Go.RowKit
open Value (agg slice int bool tuple)
open Sy (Up Sees CallsG Seg execFn_use)
set_option maxRecDepth 100000
variable {k:World}{R:World→Value→Prop}{cs0 cs1 cs2:Array Value}
theorem aIn (hcs0:Seg 9 cs0) (hcs1:Seg 12 cs1)
 (h:Cl k 77 #[agg cs0] fun k1 r0=>∃s2,some (Value.string s2)=some r0∧
 Cl k1 157 #[agg cs1] fun k3 r2=>∃s3,some (Value.string s3)=some r2∧
 Rt R k3 (bool (ByteArray.toList s2 == ByteArray.toList s3))) :
  CallsG Tryz.prog 69 #[agg cs0,agg cs1] k R:=
  qX { opq:=[35,44] } [.agg [.seg 0 9],.agg [.seg 1 12]] [agg cs0,agg cs1] [.seg 9,.seg 12] ⟨⟨cs0,rfl,hcs0⟩,⟨cs1,rfl,hcs1⟩,trivial⟩ h
theorem aIo (hcs0:Seg 18 cs0) (hcs1:Seg 12 cs1) (hcs2:Seg 12 cs2)
 (h:Cl k 78 #[agg cs0] fun k1 r0=>Gt 9 r0 fun cs3=>
 Cl k1 69 #[agg cs3,agg cs1] fun k3 r2=>Gb r2 fun b4=>
 Br b4 (Cl k3 169 #[agg cs0] fun k5 r4=>Gt 9 r4 fun cs5=>
 Cl k5 69 #[agg cs5,agg cs2] fun k7 r6=>Gb r6 fun b6=>
 Rt R k7 (bool b6)) (Rt R k3 (bool false))) :
  CallsG Tryz.prog 84 #[agg cs0,agg (cs1.toList++(cs2.toList++([]))).toArray] k R:=
  qX { opq:=[37,35,44] } [.agg [.seg 0 18],.agg [.seg 1 12,.seg 2 12]] [agg cs0,agg cs1,agg cs2] [.seg 18,.seg 12,.seg 12] ⟨⟨cs0,rfl,hcs0⟩,⟨cs1,rfl,hcs1⟩,⟨cs2,rfl,hcs2⟩,trivial⟩ h
end Go.Proofs.YtifcjpacobpdmaaGreat

namespace Go.Proofs.YtifcjpacobpdmaaGreat
open Go.RowKit Num Plain W32
open Sy (Up Sees CallsG Seg)
section
variable {k k':World}{R:World→Value→Prop}{x q:Rat}{K L:Nat}{cs cs':Array Value}{v:Q4}{w:W4}
theorem aBd (hx:SurdV k cs v K) (hK1:1≤K) (hK:K≤268435456) (h:SQ k cs' v L) (hL:L≤10000000000) (C:∀k',Up k k'→R k' (.bool true)) :
 Cl k 69 #[.agg cs,.agg cs'] R:=by
 intro k0 u0;refine aIn hx.seg h.seg (nR (hx.up u0) hK1 hK fun k1 u1=>⟨_,rfl,aWc ((h.up u0).up u1) hL fun k3 u3=>⟨_,rfl,fun k4 u4=>?_⟩⟩);have:=C k4 (((u0.trans u1).trans u3).trans u4);rw [show (ByteArray.toList (str (bW v)) == ByteArray.toList (str (bW v)))=true from beq_self_eq_true _];exact this
theorem aOi (hx:WaveV k cs w K) (hK1:1≤K) (hK:K≤268435456) (h:WQ k cs' w L) (hL:L≤10000000000) (C:∀k',Up k k'→R k' (.bool true)) :
 Cl k 84 #[.agg cs,.agg cs'] R:=by
 intro k0 u0;obtain⟨a,b,rfl,a0,b0⟩:=h;refine aIo hx.seg a0.seg b0.seg (aGl (hx.up u0) fun k1 d1 u1 h1=>⟨d1,h1.seg,rfl,?_⟩);refine aBd h1 hK1 hK ((a0.up u0).up u1) hL fun k2 u2=>⟨_,rfl,fun _=>?_,fun h=>(nomatch h)⟩
 refine aXa (((hx.up u0).up u1).up u2) fun k3 d3 u3 h3=>⟨d3,h3.seg,rfl,?_⟩;exact aBd h3 hK1 hK ((((b0.up u0).up u1).up u2).up u3) hL fun k4 u4=>⟨_,rfl,fun k5 u5=>C k5 (((((u0.trans u1).trans u2).trans u3).trans u4).trans u5)⟩
end
def nn (x:Q4):Prop:=0≤C.sg x.toQ
theorem gI {x y:Q4}(hx:nn x) (hy:nn y):nn (x.add y):=by
 unfold nn at *
 rw [sQ];rcases C.aV x.toQ with ⟨e,h⟩|⟨e,h⟩|⟨e,h⟩
 ·rw [h,show (0:Q23)+y.toQ=y.toQ by generalize y.toQ=q;refine Q23.ext' (Q2.ext' ?_ ?_) (Q2.ext' ?_ ?_) <;> (simp only [Q23.add_re,Q23.add_im,Q23.zero_re,Q23.zero_im,Q2.add_re,Q2.add_im,Q2.zero_re,Q2.zero_im];grind)];exact hy
 ·rcases C.aV y.toQ with ⟨e',h'⟩|⟨e',h'⟩|⟨e',h'⟩
  ·rw [h',show x.toQ+(0:Q23)=x.toQ by generalize x.toQ=q;refine Q23.ext' (Q2.ext' ?_ ?_) (Q2.ext' ?_ ?_) <;> (simp only [Q23.add_re,Q23.add_im,Q23.zero_re,Q23.zero_im,Q2.add_re,Q2.add_im,Q2.zero_re,Q2.zero_im];grind)];exact hx
  ·rw [C.fU (C.add h h')];decide
  ·omega
 ·omega
theorem aFc {x y:Q4}(hx:C.sg x.toQ=1) (hy:nn y):C.sg (x.add y).toQ=1:=by
 unfold nn at hy;rw [sQ];rcases C.aV x.toQ with ⟨e,h⟩|⟨e,h⟩|⟨e,h⟩
 ·omega
 ·rcases C.aV y.toQ with ⟨e',h'⟩|⟨e',h'⟩|⟨e',h'⟩
  ·rw [h',show x.toQ+(0:Q23)=x.toQ by generalize x.toQ=q;refine Q23.ext' (Q2.ext' ?_ ?_) (Q2.ext' ?_ ?_) <;> (simp only [Q23.add_re,Q23.add_im,Q23.zero_re,Q23.zero_im,Q2.add_re,Q2.add_im,Q2.zero_re,Q2.zero_im];grind)];exact hx
  ·exact C.fU (C.add h h')
  ·omega
 ·omega
theorem aZu {s t:Int}(hs:s=0∨s=1∨s=-1) (ht:t=0∨t=1∨t=-1) (h:0≤s) (h':0≤t):0≤s*t:=by
 rcases hs with rfl|rfl|rfl <;> rcases ht with rfl|rfl|rfl <;> simp_all
theorem yL {x y:Q4}(hx:nn x) (hy:nn y):nn (x.mul y):=by
 unfold nn at *
 rw [gS,C.zB];exact aZu (C.aCt _) (C.aCt _) hx hy
theorem lT {x y:Q4}(h:nn (x.mul y)) (hy:C.sg y.toQ=1):nn x:=by
 unfold nn at *
 rw [gS,C.zB,hy,Int.mul_one]at h;exact h
def sg2G (a b:Rat):Int:=iI a.num.sign b.num.sign (a*a-2*(b*b)).num.sign
theorem sN (a b:Rat):B.sg (⟨a,b⟩:Q2)=sg2G a b:=by rw [←bBp,aRc,aRc,aRc];rfl
def sgG (v:Q4):Int:=iI (sg2G v.a v.b) (sg2G v.c v.d) (sg2G (v.a*v.a+2*(v.b*v.b)-3*(v.c*v.c+2*(v.d*v.d))) (v.a*v.b+v.b*v.a-3*(v.c*v.d+v.d*v.c)))
theorem aFu (v:Q4):C.sg v.toQ=sgG v:=by
 unfold Q4.toQ e4;rw [←aRd,sN,sN];have e:(⟨v.a,v.b⟩:Q2)*⟨v.a,v.b⟩-3*((⟨v.c,v.d⟩:Q2)*⟨v.c,v.d⟩)=⟨v.a*v.a+2*(v.b*v.b)-3*(v.c*v.c+2*(v.d*v.d)),v.a*v.b+v.b*v.a-3*(v.c*v.d+v.d*v.c)⟩:=by
  refine Q2.ext' ?_ ?_ <;> simp only [Q2.sub_re,Q2.sub_im,Q2.mul_re,Q2.mul_im,Q2.three_re,Q2.three_im] <;> grind
 rw [e,sN];rfl
def w2:Q4:=⟨0,1,0,0⟩
def w3:Q4:=⟨0,0,1,0⟩
def w6:Q4:=⟨0,0,0,1⟩
theorem aRu:C.sg w2.toQ=1:=by rw [aFu];decide +kernel
theorem aRv:C.sg w3.toQ=1:=by rw [aFu];decide +kernel
theorem aRw:C.sg w6.toQ=1:=by rw [aFu];decide +kernel
theorem aXi:w2.mul w2=Q4.real 2:=by decide +kernel
theorem aXj:w3.mul w3=Q4.real 3:=by decide +kernel
theorem aXk:w6.mul w6=Q4.real 6:=by decide +kernel
theorem yW (q:Rat):C.sg (Q4.real q).toQ=q.num.sign:=by
 unfold Q4.real Q4.toQ e4;have h0:B.sg (⟨0,0⟩:Q2)=0:=B.sg_zero;rw [←aRd,h0,sN];show iI (sg2G q 0) 0 _=_;have h1:sg2G q 0=q.num.sign:=by
  unfold sg2G iI;rw [show (0:Rat).num.sign=0 from rfl];split <;> rename_i h
  ·rfl
  ·rw [od rfl]
 rw [h1];unfold iI;split <;> rename_i h
 ·rfl
 ·rw [od rfl]
theorem fZ {q:Rat}(h:0≤q):nn (Q4.real q):=by
 unfold nn;rw [yW];have:=Rat.num_nonneg.2 h;rcases Int.lt_or_eq_of_le this with h|h
 ·rw [ko h];decide
 ·rw [←h];decide
theorem sL {q:Rat}(h:nn (Q4.real q)):0≤q:=by
 unfold nn at h;rw [yW]at h;exact Rat.num_nonneg.1 (Int.sign_nonneg_iff.1 h)
theorem oY {q:Rat}(h:0<q):C.sg (Q4.real q).toQ=1:=by
 rw [yW];exact ko (yM h)
theorem bCg (w:Q4) (r n:Rat) (h:w.mul w=Q4.real n):(w.sub (Q4.real r)).mul (w.add (Q4.real r))=Q4.real (n-r*r):=by
 have e:(w.sub (Q4.real r)).mul (w.add (Q4.real r))=(w.mul w).sub (Q4.real (r*r)):=by
  obtain⟨a,b,c,d⟩:=w;refine Q4.ext' ?_ ?_ ?_ ?_ <;> simp only [Q4.mul,Q4.sub,Q4.add,Q4.neg,Q4.real] <;> grind
 rw [e,h];refine Q4.ext' ?_ ?_ ?_ ?_ <;> simp only [Q4.sub,Q4.add,Q4.neg,Q4.real] <;> grind
theorem bBq (w:Q4) (r n:Rat) (h:w.mul w=Q4.real n):((Q4.real r).sub w).mul (w.add (Q4.real r))=Q4.real (r*r-n):=by
 have e:((Q4.real r).sub w).mul (w.add (Q4.real r))=(Q4.real (r*r)).sub (w.mul w):=by
  obtain⟨a,b,c,d⟩:=w;refine Q4.ext' ?_ ?_ ?_ ?_ <;> simp only [Q4.mul,Q4.sub,Q4.add,Q4.neg,Q4.real] <;> grind
 rw [e,h];refine Q4.ext' ?_ ?_ ?_ ?_ <;> simp only [Q4.sub,Q4.add,Q4.neg,Q4.real] <;> grind
section
variable {w x:Q4}{n r s p:Rat}
theorem aVq (hw:C.sg w.toQ=1) (hs:w.mul w=Q4.real n) (h0:0≤r) (h:r*r≤n):nn (w.sub (Q4.real r)):=by
 refine lT ?_ (aFc hw (fZ h0));rw [bCg w r n hs];exact fZ (by grind)
theorem aHx (hw:C.sg w.toQ=1) (hs:w.mul w=Q4.real n) (h0:0≤s) (h:n≤s*s):nn ((Q4.real s).sub w):=by
 refine lT ?_ (aFc hw (fZ h0));rw [bBq w s n hs];exact fZ (by grind)
def loT (p r s:Rat):Rat:=if p<0 then p*s else p*r
def hiT (p r s:Rat):Rat:=if p<0 then p*r else p*s
def bCq (p:Rat):Rat:=if p<0 then -p else p
theorem cN {x y:Q4}(h:nn x) (e:x=y):nn y:=e▸h
structure Apx (w:Q4) (r s:Rat):Prop where
 lo:nn (w.sub (Q4.real r))
 hi:nn ((Q4.real s).sub w)
def loB (x:Q4) (r2 s2 r3 s3 r6 s6:Rat):Rat:=x.a+loT x.b r2 s2+loT x.c r3 s3+loT x.d r6 s6
def hiB (x:Q4) (r2 s2 r3 s3 r6 s6:Rat):Rat:=x.a+hiT x.b r2 s2+hiT x.c r3 s3+hiT x.d r6 s6
variable {r2 s2 r3 s3 r6 s6:Rat}
end
def ab (u:Q4) (c:Rat):Prop:=nn ((Q4.real c).sub u)∧nn ((Q4.real c).add u)
theorem yK {x:Q4}(h:nn ((Q4.real 2).mul x)):nn x:=by
 unfold nn at *
 rw [gS,C.zB,oY oz,Int.one_mul]at h;exact h
section
variable {u v:Q4}{c d:Rat}
theorem aIp (h:ab u c):0≤c:=by
 have:=gI h.1 h.2;refine sL (yK (cN this ?_));refine Q4.ext' ?_ ?_ ?_ ?_ <;> simp only [Q4.mul,Q4.sub,Q4.add,Q4.neg,Q4.real] <;> grind
theorem mV (h:ab u c) (h':ab v d):ab (u.mul v) (c*d):=by
 constructor
 ·refine yK (cN (gI (yL h.1 h'.2) (yL h.2 h'.1)) ?_);refine Q4.ext' ?_ ?_ ?_ ?_ <;> simp only [Q4.mul,Q4.sub,Q4.add,Q4.neg,Q4.real] <;> grind
 ·refine yK (cN (gI (yL h.1 h'.1) (yL h.2 h'.2)) ?_);refine Q4.ext' ?_ ?_ ?_ ?_ <;> simp only [Q4.mul,Q4.sub,Q4.add,Q4.neg,Q4.real] <;> grind
theorem xO (h:ab u c) (h':ab v d):ab (u.add v) (c+d):=by
 constructor
 ·refine cN (gI h.1 h'.1) ?_;refine Q4.ext' ?_ ?_ ?_ ?_ <;> simp only [Q4.sub,Q4.add,Q4.neg,Q4.real] <;> grind
 ·refine cN (gI h.2 h'.2) ?_;refine Q4.ext' ?_ ?_ ?_ ?_ <;> simp only [Q4.add,Q4.real] <;> grind
theorem nT {q:Rat}(h1:-c≤q) (h2:q≤c):ab (Q4.real q) c:=by
 constructor
 ·refine cN (fZ (q:=c-q) (by grind)) ?_;refine Q4.ext' ?_ ?_ ?_ ?_ <;> simp only [Q4.sub,Q4.add,Q4.neg,Q4.real] <;> grind
 ·refine cN (fZ (q:=c+q) (by grind)) ?_;refine Q4.ext' ?_ ?_ ?_ ?_ <;> simp only [Q4.add,Q4.real] <;> grind
theorem aHw {q:Rat}(h:ab (Q4.real q) c):-c≤q∧q≤c:=by
 have h1:=sL (cN (y:=Q4.real (c-q)) h.1 (by refine Q4.ext' ?_ ?_ ?_ ?_ <;> simp only [Q4.sub,Q4.add,Q4.neg,Q4.real] <;> grind));have h2:=sL (cN (y:=Q4.real (c+q)) h.2 (by refine Q4.ext' ?_ ?_ ?_ ?_ <;> simp only [Q4.add,Q4.real] <;> grind));constructor <;> grind
theorem xP {w:Q4}{n:Rat}(hw:C.sg w.toQ=1) (hs:w.mul w=Q4.real n) (h0:0≤c) (h:n≤c*c):ab w c:=by
 refine⟨aHx hw hs h0 h,?_⟩;have:=aFc hw (fZ h0);unfold nn;rw [show (Q4.real c).add w=w.add (Q4.real c) by refine Q4.ext' ?_ ?_ ?_ ?_ <;> simp only [Q4.add,Q4.real] <;> grind,this];decide
theorem aWm (x:Q4):(((Q4.real x.a).add ((Q4.real x.b).mul w2)).add ((Q4.real x.c).mul w3)).add ((Q4.real x.d).mul w6)=x:=by
 refine Q4.ext' ?_ ?_ ?_ ?_ <;> simp only [Q4.mul,Q4.add,Q4.real,w2,w3,w6] <;> grind
theorem nS {x:Q4}{M:Rat}(a1:-M≤x.a) (a2:x.a≤M) (b1:-M≤x.b) (b2:x.b≤M) (c1:-M≤x.c) (c2:x.c≤M) (d1:-M≤x.d) (d2:x.d≤M):ab x (8*M):=by
 have h:=xO (xO (xO (nT a1 a2) (mV (nT b1 b2) (xP aRu aXi (c:=2) oz (by decide +kernel)))) (mV (nT c1 c2) (xP aRv aXj (c:=2) oz (by decide +kernel)))) (mV (nT d1 d2) (xP aRw aXk (c:=3) oz (by decide +kernel)));rw [aWm,show M+M*2+M*2+M*3=8*M by grind]at h;exact h
theorem aXu {x:Q4}{M:Rat}(a1:-M≤x.a) (a2:x.a≤M) (b1:-M≤x.b) (b2:x.b≤M) (c1:-M≤x.c) (c2:x.c≤M) (d1:-M≤x.d) (d2:x.d≤M):ab x.cnj (8*M*(8*M)*(8*M)):=by
 unfold Q4.cnj;refine mV (mV (nS ?_ ?_ ?_ ?_ ?_ ?_ ?_ ?_) (nS ?_ ?_ ?_ ?_ ?_ ?_ ?_ ?_)) (nS ?_ ?_ ?_ ?_ ?_ ?_ ?_ ?_) <;> simp only [Q4.t1,Q4.t2] <;> grind
end
def isI (q:Rat):Prop:=∃n:Int,q=n
theorem isI.add {p q:Rat}(h:isI p) (h':isI q):isI (p+q):=by obtain⟨m,rfl⟩:=h;obtain⟨n,rfl⟩:=h';exact⟨m+n,(vw m n).symm⟩
theorem isI.mul {p q:Rat}(h:isI p) (h':isI q):isI (p*q):=by obtain⟨m,rfl⟩:=h;obtain⟨n,rfl⟩:=h';exact⟨m*n,(yb m n).symm⟩
theorem isI.neg {p:Rat}(h:isI p):isI (-p):=by obtain⟨m,rfl⟩:=h;exact⟨-m,(wm m).symm⟩
theorem isI_two:isI 2:=⟨2,rfl⟩
theorem isI_three:isI 3:=⟨3,rfl⟩
theorem isI_six:isI 6:=⟨6,rfl⟩
structure isI4 (x:Q4):Prop where
 a:isI x.a
 b:isI x.b
 c:isI x.c
 d:isI x.d
theorem isI4.mul {x y:Q4}(h:isI4 x) (g:isI4 y):isI4 (x.mul y) where
 a:=(((h.a.mul g.a).add (isI_two.mul (h.b.mul g.b))).add (isI_three.mul (h.c.mul g.c))).add (isI_six.mul (h.d.mul g.d))
 b:=((h.a.mul g.b).add (h.b.mul g.a)).add (isI_three.mul ((h.c.mul g.d).add (h.d.mul g.c)))
 c:=((h.a.mul g.c).add (h.c.mul g.a)).add (isI_two.mul ((h.b.mul g.d).add (h.d.mul g.b)))
 d:=(((h.a.mul g.d).add (h.d.mul g.a)).add (h.b.mul g.c)).add (h.c.mul g.b)
theorem isI4.t1 {x:Q4}(h:isI4 x):isI4 x.t1:=⟨h.a,h.b.neg,h.c,h.d.neg⟩
theorem isI4.t2 {x:Q4}(h:isI4 x):isI4 x.t2:=⟨h.a,h.b,h.c.neg,h.d.neg⟩
theorem isI4.cnj {x:Q4}(h:isI4 x):isI4 x.cnj:=(h.t1.mul h.t2).mul h.t1.t2
theorem aMc (s t:Rat) (x y:Q4):((Q4.real s).mul x).mul ((Q4.real t).mul y)=(Q4.real (s*t)).mul (x.mul y):=by
 refine Q4.ext' ?_ ?_ ?_ ?_ <;> simp only [Q4.mul,Q4.real] <;> grind
theorem aKg (x:Q4):x.mul x.cnj=Q4.real (x.mul x.cnj).a:=by
 obtain⟨h1,h2,h3⟩:=x.cnj_norm;exact Q4.ext' rfl h1 h2 h3
theorem aHk (n:Nat):isI (n:Rat):=⟨n,by rw [Rat.intCast_natCast]⟩
structure Parts4 (x:Q4) (M:Nat):Prop where
 a:x.a.num.natAbs≤M∧x.a.den≤M
 b:x.b.num.natAbs≤M∧x.b.den≤M
 c:x.c.num.natAbs≤M∧x.c.den≤M
 d:x.d.num.natAbs≤M∧x.d.den≤M
theorem aZd {q:Rat}(h:isI q) (h0:q≠0):q≤-1∨1≤q:=by
 obtain⟨n,rfl⟩:=h;have hn:n≠0:=fun e=>h0 (by rw [e];rfl);rcases Int.lt_or_gt_of_ne hn with h|h
 ·left
  have:((n:Int):Rat)≤((-1:Int):Rat):=kt.2 oq;exact this
 ·right
  have:((1:Int):Rat)≤((n:Int):Rat):=kt.2 oq;exact this
open Value (agg slice int bool tuple)
open Sy (Up Sees CallsG Seg execFn_use)
set_option maxRecDepth 100000
variable {k:World}{R:World→Value→Prop}
end Go.Proofs.YtifcjpacobpdmaaGreat

namespace Go.Proofs.YtifcjpacobpdmaaGreat.W32
open Go.RowKit Num
open Sy (Up Sees CallsG Seg)
theorem bAj (x p:Nat):4*(p*x)≤(x+p)*(x+p):=by
 rcases Nat.le_total x p with h|h
 ·obtain⟨d,rfl⟩:=Nat.exists_eq_add_of_le h;have e:(x+(x+d))*(x+(x+d))=4*((x+d)*x)+d*d:=by grind
  omega
 ·obtain⟨d,rfl⟩:=Nat.exists_eq_add_of_le h;have e:(p+d+p)*(p+d+p)=4*(p*(p+d))+d*d:=by grind
  omega
theorem aKe {a x:Nat}(hx:0<x):a<((x+a/x) / 2+1)*((x+a/x) / 2+1):=by
 have hq:a<(a/x+1)*x:=by rw [oa];exact Nat.lt_mul_div_succ a hx
 generalize a/x=q at hq ⊢;generalize hy:(x+q) / 2=y;have h1:x+(q+1)≤2*(y+1):=oq
 have h2:=bAj x (q+1);have h3:=vo h1 h1;have h4:2*(y+1)*(2*(y+1))=4*((y+1)*(y+1)):=by grind
 omega
theorem aBn {a x:Nat}(hx:0<x) (h:x≤(x+a/x) / 2):x*x≤a:=by
 have hq:x≤a/x:=oq
 exact (zq hx).1 hq
section
variable {k k':World}{A A':Option Addr}{n c m n' c' m' a b l l':Nat}{cs cs':Array Value}{R:World→Value→Prop}{x y q:Rat}{K L:Nat}
end
open Go.RowKit Num Plain
section
variable {k k':World}{A A':Option Addr}{n c m n' c' m' a b l l':Nat}{cs cs' c0 c1:Array Value}{R:World→Value→Prop}{x y q p r lo hi:Rat}{K L M:Nat}{v v':Q4}
def bCc (n kk:Nat) (q:Rat):Prop:=∃r:Nat,q=(r:Rat) / ((2^kk:Nat):Rat)∧r*r≤n*2^(2*kk)∧n*2^(2*kk)<(r+1)*(r+1)
end
