/- Several texts in one. (Printed by prep.py.) -/
import Derived.Test.YtifcjpacobpdmaaGreatTtFB
namespace Go.Proofs.YtifcjpacobpdmaaGreat
open Num Plain
structure W4 where
 (re im:Q4)
theorem W4.ext' {x y:W4}(h1:x.re=y.re) (h2:x.im=y.im):x=y:=by cases x;cases y;simp_all
instance:DecidableEq Q4:=fun x y=>decidable_of_iff (x.a=y.a∧x.b=y.b∧x.c=y.c∧x.d=y.d)
 ⟨fun ⟨h1,h2,h3,h4⟩=>Q4.ext' h1 h2 h3 h4,fun h=>by rw [h];exact⟨rfl,rfl,rfl,rfl⟩⟩
instance:DecidableEq W4:=fun x y=>decidable_of_iff (x.re=y.re∧x.im=y.im)
 ⟨fun ⟨h1,h2⟩=>W4.ext' h1 h2,fun h=>by rw [h];exact⟨rfl,rfl⟩⟩
def W4.add (x y:W4):W4:=⟨x.re.add y.re,x.im.add y.im⟩
def W4.sub (x y:W4):W4:=⟨x.re.sub y.re,x.im.sub y.im⟩
def W4.mul (x y:W4):W4:=⟨(x.re.mul y.re).sub (x.im.mul y.im),(x.re.mul y.im).add (x.im.mul y.re)⟩
def W4.neg (x:W4):W4:=⟨x.re.neg,x.im.neg⟩
def W4.conj (x:W4):W4:=⟨x.re,x.im.neg⟩
def W4.norm (x:W4):Q4:=(x.re.mul x.re).add (x.im.mul x.im)
def W4.zero:W4:=⟨Q4.zero,Q4.zero⟩
def W4.real (q:Rat):W4:=⟨Q4.real q,Q4.zero⟩
theorem Q4.sub_zero_iff {x y:Q4}:x.sub y=Q4.zero↔x=y:=by
 constructor
 ·intro h;have ha:=congrArg Q4.a h;have hb:=congrArg Q4.b h;have hc:=congrArg Q4.c h;have hd:=congrArg Q4.d h;simp only [Q4.sub,Q4.add,Q4.neg,Q4.zero]at ha hb hc hd;exact Q4.ext' (by grind) (by grind) (by grind) (by grind)
 ·intro h;subst h;simp only [Q4.sub,Q4.add,Q4.neg,Q4.zero];exact Q4.ext' (by grind) (by grind) (by grind) (by grind)
def aVi:Nat→Q4
 | 0=>⟨1,0,0,0⟩
 | 1=>⟨0,1/4,0,1/4⟩
 | 2=>⟨0,0,1/2,0⟩
 | 3=>⟨0,1/2,0,0⟩
 | 4=>⟨1/2,0,0,0⟩
 | 5=>⟨0,-1/4,0,1/4⟩
 | _=>⟨0,0,0,0⟩
def aVj (m:Nat):Q4:=if 6<m then (aVi (12-m)).neg else aVi m
def eV (n:Nat):Q4:=if 12<n then aVj (24-n) else aVj n
def kE (n:Nat):W4:=⟨eV n,eV ((n+18) % 24)⟩
def plc (k:Int):Nat:=(k % 24).toNat
theorem aTx (k:Int):plc k<24:=by unfold plc;omega
def aWv (k:Nat):Nat→W4
 | 0=>W4.zero
 | j+1=>(aWv k j).add (kE (j*k % 24))
def q4s (q:Rat):Bool:=(4*q).den == 1 && decide ((4*q).num.natAbs≤1000)
def Q4.small (v:Q4):Bool:=q4s v.a && q4s v.b && q4s v.c && q4s v.d
def W4.small (v:W4):Bool:=v.re.small && v.im.small
theorem aMh:∀a,a<24→∀b,b<24→(kE a).mul (kE b)=kE ((a+b) % 24):=by decide +kernel
theorem aHq:∀a,a<24→(kE a).conj=kE ((24-a) % 24):=by decide +kernel
def Q4.t1 (y:Q4):Q4:=⟨y.a,-y.b,y.c,-y.d⟩
def Q4.t2 (y:Q4):Q4:=⟨y.a,y.b,-y.c,-y.d⟩
def Q4.cnj (y:Q4):Q4:=(y.t1.mul y.t2).mul y.t1.t2
def Q4.div (x y:Q4):Q4:=⟨(x.mul y.cnj).a/(y.mul y.cnj).a,(x.mul y.cnj).b/(y.mul y.cnj).a,(x.mul y.cnj).c/(y.mul y.cnj).a,(x.mul y.cnj).d/(y.mul y.cnj).a⟩
theorem Q4.zero_iff (v:Q4):decide (v=Q4.zero)=(decide (v.a=0) && decide (v.b=0) && decide (v.c=0) && decide (v.d=0)):=by
 rw [vo];simp only [qk,decide_eq_true_iff];constructor
 ·intro h;subst h;exact⟨⟨⟨rfl,rfl⟩,rfl⟩,rfl⟩
 ·intro ⟨⟨⟨h1,h2⟩,h3⟩,h4⟩;exact Q4.ext' h1 h2 h3 h4
def W4.div (x y:W4):W4:=⟨(x.mul y.conj).re.div y.norm,(x.mul y.conj).im.div y.norm⟩
theorem W4.same_iff (v w:W4):decide (v=w)=(decide (v.re=w.re) && decide (v.im=w.im)):=by
 rw [vo];simp only [qk,decide_eq_true_iff];constructor
 ·intro h;subst h;exact⟨rfl,rfl⟩
 ·intro ⟨h1,h2⟩;exact W4.ext' h1 h2
open Go.RowKit
open Value (agg slice int bool tuple)
open Sy (Up Sees CallsG Seg execFn_use)
set_option maxRecDepth 100000
variable {k:World}{R:World→Value→Prop}{cs0 cs1 cs2 cs3:Array Value}
theorem aQy (hcs0:Seg 9 cs0) (hcs1:Seg 9 cs1) (hcs2:Seg 9 cs2) (hcs3:Seg 9 cs3)
 (h:Cl k 36 #[agg cs0,agg cs2] fun k1 r0=>Gt 9 r0 fun cs4=>
 Cl k1 36 #[agg cs1,agg cs3] fun k3 r2=>Gt 9 r2 fun cs5=>
 Rt R k3 (agg (cs4.toList++(cs5.toList++([]))).toArray)) :
  CallsG Tryz.prog 187 #[agg (cs0.toList++(cs1.toList++([]))).toArray,agg (cs2.toList++(cs3.toList++([]))).toArray] k R:=
  qX { opq:=[35] } [.agg [.seg 0 9,.seg 1 9],.agg [.seg 2 9,.seg 3 9]] [agg cs0,agg cs1,agg cs2,agg cs3] [.seg 9,.seg 9,.seg 9,.seg 9] ⟨⟨cs0,rfl,hcs0⟩,⟨cs1,rfl,hcs1⟩,⟨cs2,rfl,hcs2⟩,⟨cs3,rfl,hcs3⟩,trivial⟩ h
theorem aQz (hcs0:Seg 9 cs0) (hcs1:Seg 9 cs1) (hcs2:Seg 9 cs2) (hcs3:Seg 9 cs3)
 (h:Cl k 37 #[agg cs0,agg cs2] fun k1 r0=>Gt 9 r0 fun cs4=>
 Cl k1 37 #[agg cs1,agg cs3] fun k3 r2=>Gt 9 r2 fun cs5=>
 Cl k3 102 #[agg cs4,agg cs5] fun k5 r4=>Gt 9 r4 fun cs6=>
 Cl k5 37 #[agg cs0,agg cs3] fun k7 r6=>Gt 9 r6 fun cs7=>
 Cl k7 37 #[agg cs1,agg cs2] fun k9 r8=>Gt 9 r8 fun cs8=>
 Cl k9 36 #[agg cs7,agg cs8] fun k11 r10=>Gt 9 r10 fun cs9=>
 Rt R k11 (agg (cs6.toList++(cs9.toList++([]))).toArray)) :
  CallsG Tryz.prog 115 #[agg (cs0.toList++(cs1.toList++([]))).toArray,agg (cs2.toList++(cs3.toList++([]))).toArray] k R:=
  qX { opq:=[35] } [.agg [.seg 0 9,.seg 1 9],.agg [.seg 2 9,.seg 3 9]] [agg cs0,agg cs1,agg cs2,agg cs3] [.seg 9,.seg 9,.seg 9,.seg 9] ⟨⟨cs0,rfl,hcs0⟩,⟨cs1,rfl,hcs1⟩,⟨cs2,rfl,hcs2⟩,⟨cs3,rfl,hcs3⟩,trivial⟩ h
theorem aMm (hcs0:Seg 9 cs0) (hcs1:Seg 9 cs1)
 (h:Cl k 41 #[agg cs1] fun k1 r0=>Gt 9 r0 fun cs2=>
 Rt R k1 (agg (cs0.toList++(cs2.toList++([]))).toArray)) :
  CallsG Tryz.prog 35 #[agg (cs0.toList++(cs1.toList++([]))).toArray] k R:=
  qX { opq:=[35] } [.agg [.seg 0 9,.seg 1 9]] [agg cs0,agg cs1] [.seg 9,.seg 9] ⟨⟨cs0,rfl,hcs0⟩,⟨cs1,rfl,hcs1⟩,trivial⟩ h
theorem aMo (hcs0:Seg 9 cs0) (hcs1:Seg 9 cs1) (hcs2:Seg 9 cs2) (hcs3:Seg 9 cs3)
 (h:Cl k 40 #[agg cs0,agg cs2] fun k1 r0=>Gb r0 fun b4=>
 Br b4 (Cl k1 40 #[agg cs1,agg cs3] fun k3 r2=>Gb r2 fun b5=>
 Rt R k3 (bool b5)) (Rt R k1 (bool false))) :
  CallsG Tryz.prog 34 #[agg (cs0.toList++(cs1.toList++([]))).toArray,agg (cs2.toList++(cs3.toList++([]))).toArray] k R:=
  qX { opq:=[35] } [.agg [.seg 0 9,.seg 1 9],.agg [.seg 2 9,.seg 3 9]] [agg cs0,agg cs1,agg cs2,agg cs3] [.seg 9,.seg 9,.seg 9,.seg 9] ⟨⟨cs0,rfl,hcs0⟩,⟨cs1,rfl,hcs1⟩,⟨cs2,rfl,hcs2⟩,⟨cs3,rfl,hcs3⟩,trivial⟩ h
theorem aMn (hcs0:Seg 9 cs0) (hcs1:Seg 9 cs1)
 (h:Cl k 37 #[agg cs0,agg cs0] fun k1 r0=>Gt 9 r0 fun cs2=>
 Cl k1 37 #[agg cs1,agg cs1] fun k3 r2=>Gt 9 r2 fun cs3=>
 Cl k3 36 #[agg cs2,agg cs3] fun k5 r4=>Gt 9 r4 fun cs4=>
 Rt R k5 (agg cs4)) :
  CallsG Tryz.prog 114 #[agg (cs0.toList++(cs1.toList++([]))).toArray] k R:=
  qX { opq:=[35] } [.agg [.seg 0 9,.seg 1 9]] [agg cs0,agg cs1] [.seg 9,.seg 9] ⟨⟨cs0,rfl,hcs0⟩,⟨cs1,rfl,hcs1⟩,trivial⟩ h
theorem aUm (hcs0:Seg 9 cs0) (hcs1:Seg 9 cs1)
 (h:Rt R k (agg cs0)) :
 CallsG Tryz.prog 78 #[agg (cs0.toList++(cs1.toList++([]))).toArray] k R:=
 qX { opq:=[35] } [.agg [.seg 0 9,.seg 1 9]] [agg cs0,agg cs1] [.seg 9,.seg 9] ⟨⟨cs0,rfl,hcs0⟩,⟨cs1,rfl,hcs1⟩,trivial⟩ h
theorem aUk (hcs0:Seg 9 cs0) (hcs1:Seg 9 cs1)
 (h:Rt R k (agg cs1)) :
 CallsG Tryz.prog 169 #[agg (cs0.toList++(cs1.toList++([]))).toArray] k R:=
 qX { opq:=[35] } [.agg [.seg 0 9,.seg 1 9]] [agg cs0,agg cs1] [.seg 9,.seg 9] ⟨⟨cs0,rfl,hcs0⟩,⟨cs1,rfl,hcs1⟩,trivial⟩ h
theorem aUl (hcs0:Seg 9 cs0) (hcs1:Seg 9 cs1) (hcs2:Seg 3 cs2)
 (h:Cl k 38 #[agg cs0,agg cs2] fun k1 r0=>Gt 9 r0 fun cs3=>
 Rt R k1 (agg (cs3.toList++((bool false) :: ((slice none 0 0) :: ((bool false) :: ((slice none 0 0) :: ((bool false) :: ((slice none 0 0) :: ((bool false) :: ((slice none 0 0) :: ((slice none 0 0) :: ([]))))))))))).toArray)) :
  CallsG Tryz.prog 118 #[agg (cs0.toList++(cs1.toList++([]))).toArray,agg cs2] k R:=
  qX { opq:=[35,88] } [.agg [.seg 0 9,.seg 1 9],.agg [.seg 2 3]] [agg cs0,agg cs1,agg cs2] [.seg 9,.seg 9,.seg 3] ⟨⟨cs0,rfl,hcs0⟩,⟨cs1,rfl,hcs1⟩,⟨cs2,rfl,hcs2⟩,trivial⟩ h
theorem aPy (hcs0:Seg 9 cs0) (hcs1:Seg 9 cs1)
 (h:Rt R k (agg (cs0.toList++(cs1.toList++([]))).toArray)) :
 CallsG Tryz.prog 79 #[agg cs0,agg cs1] k R:=
 qX { opq:=[35] } [.agg [.seg 0 9],.agg [.seg 1 9]] [agg cs0,agg cs1] [.seg 9,.seg 9] ⟨⟨cs0,rfl,hcs0⟩,⟨cs1,rfl,hcs1⟩,trivial⟩ h
end Go.Proofs.YtifcjpacobpdmaaGreat

namespace Go.Proofs.YtifcjpacobpdmaaGreat
open Go.RowKit Num Plain
open Sy (Up Sees CallsG Seg)
def cat2 (c0 c1:Array Value):Array Value:=(c0.toList++(c1.toList++([]))).toArray
theorem aLl {m n:Nat}{c0 c1:Array Value}(h0:Seg m c0) (h1:Seg n c1):Seg (m+n) (cat2 c0 c1):=by
 obtain⟨a0,b0⟩:=h0;obtain⟨a1,b1⟩:=h1;refine⟨by simp [cat2,a0,a1],fun u hu=>?_⟩;simp only [cat2,List.append_nil,List.mem_append]at hu;rcases hu with hu|hu
 ·exact b0 u hu
 ·exact b1 u hu
def WaveV (k:World) (cs:Array Value) (w:W4) (K:Nat):Prop:=∃c0 c1:Array Value,cs=cat2 c0 c1∧SurdV k c0 w.re K∧SurdV k c1 w.im K
section
variable {k k':World}{cs cs' c0 c1:Array Value}{R:World→Value→Prop}{v v':Q4}{x y:W4}{K L:Nat}
theorem WaveV.up (h:WaveV k cs x K) (u:Up k k'):WaveV k' cs x K:=by
 obtain⟨c0,c1,e,h0,h1⟩:=h;exact⟨c0,c1,e,h0.up u,h1.up u⟩
theorem WaveV.mono (h:WaveV k cs x K) (hL:K≤L):WaveV k cs x L:=by
 obtain⟨c0,c1,e,h0,h1⟩:=h;exact⟨c0,c1,e,h0.mono hL,h1.mono hL⟩
theorem WaveV.seg (h:WaveV k cs x K):Seg 18 cs:=by
 obtain⟨c0,c1,rfl,h0,h1⟩:=h;exact aLl h0.seg h1.seg
theorem uX (hx:SurdV k cs v K) (hy:SurdV k cs' v' K) (hK1:1≤K) (hK:K≤134217727) (C:∀k',Up k k'→R k' (.bool (decide (v=v')))) :
 Cl k 40 #[.agg cs,.agg cs'] R:=
 aNp hx hy hK1 hK fun k' u b hb=>by
  have e:b=decide (v=v'):=by rw [vo,hb,decide_eq_true_iff,Q4.sub_zero_iff]
  rw [e];exact C k' u
theorem aRx (hx:WaveV k cs x K) (hy:WaveV k cs' y K) (hK1:1≤K) (hK:K≤134217727) (C:∀k' ds,Up k k'→WaveV k' ds (x.add y) (2*K+1)→R k' (.agg ds)) :
 Cl k 187 #[.agg cs,.agg cs'] R:=by
 intro k0 u0;obtain⟨a,b,rfl,a0,b0⟩:=hx.up u0;obtain⟨c,d,rfl,c0,d0⟩:=hy.up u0;refine aQy a0.seg b0.seg c0.seg d0.seg ?_;refine jG a0 c0 hK1 oq fun k1 e1 u1 h1=>⟨e1,h1.seg,rfl,?_⟩;refine jG (b0.up u1) (d0.up u1) hK1 oq fun k3 e3 u3 h3=>⟨e3,h3.seg,rfl,fun k4 u4=>?_⟩;exact C k4 _ (((u0.trans u1).trans u3).trans u4) ⟨e1,e3,rfl,(h1.up u3).up u4,h3.up u4⟩
theorem aRz (hx:WaveV k cs x K) (hy:WaveV k cs' y K) (hK1:1≤K) (hK:K≤33554431) (C:∀k' ds,Up k k'→WaveV k' ds (x.mul y) (4*K+9)→R k' (.agg ds)) :
 Cl k 115 #[.agg cs,.agg cs'] R:=by
 intro k0 u0;obtain⟨a,b,rfl,a0,b0⟩:=hx.up u0;obtain⟨c,d,rfl,c0,d0⟩:=hy.up u0;refine aQz a0.seg b0.seg c0.seg d0.seg ?_;refine lF a0 c0 hK1 oq fun k1 e1 u1 h1=>⟨e1,h1.seg,rfl,?_⟩;refine lF (b0.up u1) (d0.up u1) hK1 oq fun k2 e2 u2 h2=>⟨e2,h2.seg,rfl,?_⟩;refine qL (h1.up u2) h2 oq oq fun k3 e3 u3 h3=>⟨e3,h3.seg,rfl,?_⟩;have u123:=(u1.trans u2).trans u3;refine lF (a0.up u123) (d0.up u123) hK1 oq fun k4 e4 u4 h4=>⟨e4,h4.seg,rfl,?_⟩;refine lF (b0.up (u123.trans u4)) (c0.up (u123.trans u4)) hK1 oq fun k5 e5 u5 h5=>⟨e5,h5.seg,rfl,?_⟩;refine jG (h4.up u5) h5 oq oq fun k6 e6 u6 h6=>⟨e6,h6.seg,rfl,fun k7 u7=>?_⟩;exact C k7 _ (((((u0.trans u123).trans u4).trans u5).trans u6).trans u7) ⟨e3,e6,rfl,((((h3.up u4).up u5).up u6).up u7).mono oq,(h6.up u7).mono oq⟩
theorem aNt (hx:WaveV k cs x K) (hK:K≤268435456) (C:∀k' ds,Up k k'→WaveV k' ds x.conj K→R k' (.agg ds)) :
 Cl k 35 #[.agg cs] R:=by
 intro k0 u0;obtain⟨a,b,rfl,a0,b0⟩:=hx.up u0;refine aMm a0.seg b0.seg ?_;refine dZ b0 hK fun k2 e2 u2 h2=>⟨e2,h2.seg,rfl,fun k4 u4=>?_⟩;exact C k4 _ ((u0.trans u2).trans u4) ⟨a,e2,rfl,(a0.up u2).up u4,h2.up u4⟩
theorem aNv (hx:WaveV k cs x K) (hy:WaveV k cs' y K) (hK1:1≤K) (hK:K≤134217727) (C:∀k',Up k k'→R k' (.bool (decide (x=y)))) :
 Cl k 34 #[.agg cs,.agg cs'] R:=by
 intro k0 u0;obtain⟨a,b,rfl,a0,b0⟩:=hx.up u0;obtain⟨c,d,rfl,c0,d0⟩:=hy.up u0;rw [W4.same_iff]at C;refine aMo a0.seg b0.seg c0.seg d0.seg (uX a0 c0 hK1 hK fun k1 u1=>⟨_,rfl,fun h=>?_,fun h k5 u5=>?_⟩)
 ·rw [h]at C;exact uX (b0.up u1) (d0.up u1) hK1 hK fun k2 u2=>⟨_,rfl,fun k3 u3=>C k3 (((u0.trans u1).trans u2).trans u3)⟩
 ·rw [h]at C;exact C k5 ((u0.trans u1).trans u5)
theorem aNu (hx:WaveV k cs x K) (hK1:1≤K) (hK:K≤33554431) (C:∀k' ds,Up k k'→SurdV k' ds x.norm (4*K+9)→R k' (.agg ds)) :
 Cl k 114 #[.agg cs] R:=by
 intro k0 u0;obtain⟨a,b,rfl,a0,b0⟩:=hx.up u0;refine aMn a0.seg b0.seg ?_;refine lF a0 a0 hK1 oq fun k1 e1 u1 h1=>⟨e1,h1.seg,rfl,?_⟩;refine lF (b0.up u1) (b0.up u1) hK1 oq fun k2 e2 u2 h2=>⟨e2,h2.seg,rfl,?_⟩;refine jG (h1.up u2) h2 oq oq fun k3 e3 u3 h3=>⟨e3,h3.seg,rfl,fun k4 u4=>?_⟩;exact C k4 _ ((((u0.trans u1).trans u2).trans u3).trans u4) ((h3.up u4).mono oq)
theorem aHy (hx:WaveV k cs x K) (C:∀k' ds,Up k k'→SurdV k' ds x.re K→R k' (.agg ds)) :
 Cl k 78 #[.agg cs] R:=by
 intro k0 u0;obtain⟨a,b,rfl,a0,b0⟩:=hx.up u0;exact aUm a0.seg b0.seg fun k1 u1=>C k1 _ (u0.trans u1) (a0.up u1)
theorem aUz (hx:WaveV k cs x K) (C:∀k' ds,Up k k'→SurdV k' ds x.im K→R k' (.agg ds)) :
 Cl k 169 #[.agg cs] R:=by
 intro k0 u0;obtain⟨a,b,rfl,a0,b0⟩:=hx.up u0;exact aUk a0.seg b0.seg fun k1 u1=>C k1 _ (u0.trans u1) (b0.up u1)
theorem aVa {q:Rat}(hx:WaveV k cs x K) (hy:RatV k cs' q L) (C:∀k' ds,Up k k'→WaveV k' ds (W4.real q) L→R k' (.agg ds)) :
 Cl k 118 #[.agg cs,.agg cs'] R:=by
 intro k0 u0;obtain⟨a,b,rfl,a0,b0⟩:=hx.up u0;refine aUl a0.seg b0.seg hy.seg (qK a0 (hy.up u0) fun k1 e1 u1 h1=>⟨e1,h1.seg,rfl,fun k2 u2=>?_⟩);exact C k2 _ ((u0.trans u1).trans u2) ⟨e1,_,rfl,h1.up u2,SurdV.nil (jw _)⟩
theorem aTw (hx:SurdV k cs v K) (hy:SurdV k cs' v' K) (C:∀k' ds,Up k k'→WaveV k' ds ⟨v,v'⟩ K→R k' (.agg ds)) :
 Cl k 79 #[.agg cs,.agg cs'] R:=
 fun _ u0=>aPy hx.seg hy.seg fun k1 u1=>C k1 _ (u0.trans u1) ⟨cs,cs',rfl,(hx.up u0).up u1,(hy.up u0).up u1⟩
end
end Go.Proofs.YtifcjpacobpdmaaGreat

namespace Go.Proofs.YtifcjpacobpdmaaGreat.W32
open Go.RowKit Num
open Sy (Up Sees CallsG Seg)
def cat4 (c0 c1 c2 c3:Array Value):Array Value:=(c0.toList++(c1.toList++(c2.toList++(c3.toList++([]))))).toArray
def SQ (k:World) (cs:Array Value) (v:Q4) (K:Nat):Prop:=∃c0 c1 c2 c3:Array Value,cs=cat4 c0 c1 c2 c3∧QV k c0 v.a K∧QV k c1 v.b K∧QV k c2 v.c K∧QV k c3 v.d K
section
variable {k k':World}{cs cs' c0 c1 c2 c3:Array Value}{R:World→Value→Prop}{x y q q':Rat}{v v':Q4}{K L:Nat}
end
section
variable {k k':World}{cs cs' c0 c1 c2 c3:Array Value}{R:World→Value→Prop}{x y q q':Rat}{v v':Q4}{K L:Nat}
end
def WQ (k:World) (cs:Array Value) (w:W4) (K:Nat):Prop:=∃c0 c1:Array Value,cs=cat2 c0 c1∧SQ k c0 w.re K∧SQ k c1 w.im K
section
variable {k k':World}{cs cs' c0 c1:Array Value}{R:World→Value→Prop}{v v':Q4}{x y:W4}{q:Rat}{K L:Nat}
end
end Go.Proofs.YtifcjpacobpdmaaGreat.W32

namespace Go.Proofs.YtifcjpacobpdmaaGreat
open Go.RowKit
open Value (agg slice int bool tuple)
open Sy (Up Sees CallsG Seg execFn_use)
set_option maxRecDepth 100000
variable {k:World}{R:World→Value→Prop}
end Go.Proofs.YtifcjpacobpdmaaGreat

namespace Go.Proofs.YtifcjpacobpdmaaGreat.W32
open Go.RowKit Num
open Sy (Up Sees CallsG Seg)
section
variable {k k':World}{cs cs' c0 c1 c2 c3:Array Value}{R:World→Value→Prop}{x y q q':Rat}{v v':Q4}{K L:Nat}
end
end Go.Proofs.YtifcjpacobpdmaaGreat.W32

namespace Go.Proofs.YtifcjpacobpdmaaGreat
open Go.RowKit
open Value (agg slice int bool tuple)
open Sy (Up Sees CallsG Seg execFn_use)
set_option maxRecDepth 100000
variable {k:World}{R:World→Value→Prop}
end Go.Proofs.YtifcjpacobpdmaaGreat

namespace Go.Proofs.YtifcjpacobpdmaaGreat
open Go.RowKit Num Plain W32
open Sy (Up Sees CallsG Seg)
section
variable {k k':World}{R:World→Value→Prop}{x q:Rat}{K L:Nat}{cs cs':Array Value}{v:Q4}{w:W4}
end
