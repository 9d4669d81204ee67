/- Several texts in one. (Printed by prep.py.) -/
import Derived.Test.YtlginncipdaifaaGreatOkS4
import Derived.Test.YtlginncipdaifaaGreatOkS5
import Derived.Test.YtlginncipdaifaaGreatOkVS
import Derived.Test.YtlginncipdaifaaGreatProg
import Derived.Test.YtlginncipdaifaaGreatOkSy14
import Derived.Test.YtlginncipdaifaaGreatOkS6
import Derived.Test.YtlginncipdaifaaGreatOkQ5
import Derived.Test.YtlginncipdaifaaGreatOkG2
/- Complex numbers of Surds, the turns by 24ths, and their sums. No program. -/
namespace Go.Proofs.YtlginncipdaifaaGreat
open Num Plain
structure W4 where
 (re im : Q4)
theorem W4.ext' {x y : W4} (h1 : x.re = y.re) (h2 : x.im = y.im) : x = y:=by cases x; cases y; simp_all
instance : DecidableEq Q4:=fun x y=>decidable_of_iff (x.a = y.a∧x.b = y.b∧x.c = y.c∧x.d = y.d)
 ⟨fun ⟨h1,h2,h3,h4⟩=>Q4.ext' h1 h2 h3 h4,fun h=>by rw [h]; exact ⟨rfl,rfl,rfl,rfl⟩⟩
instance : DecidableEq W4:=fun x y=>decidable_of_iff (x.re = y.re∧x.im = y.im)
 ⟨fun ⟨h1,h2⟩=>W4.ext' h1 h2,fun h=>by rw [h]; exact ⟨rfl,rfl⟩⟩
def W4.add (x y : W4) : W4:=⟨x.re.add y.re,x.im.add y.im⟩
def W4.sub (x y : W4) : W4:=⟨x.re.sub y.re,x.im.sub y.im⟩
def W4.mul (x y : W4) : W4:=⟨(x.re.mul y.re).sub (x.im.mul y.im),(x.re.mul y.im).add (x.im.mul y.re)⟩
def W4.neg (x : W4) : W4:=⟨x.re.neg,x.im.neg⟩
def W4.conj (x : W4) : W4:=⟨x.re,x.im.neg⟩
def W4.norm (x : W4) : Q4:=(x.re.mul x.re).add (x.im.mul x.im)
def W4.zero : W4:=⟨Q4.zero,Q4.zero⟩
def W4.real (q : Rat) : W4:=⟨Q4.real q,Q4.zero⟩
theorem Q4.sub_zero_iff {x y : Q4} : x.sub y = Q4.zero↔x = y:=by
 constructor
 ·intro h
  have ha:=congrArg Q4.a h
  have hb:=congrArg Q4.b h
  have hc:=congrArg Q4.c h
  have hd:=congrArg Q4.d h
  simp only [Q4.sub,Q4.add,Q4.neg,Q4.zero] at ha hb hc hd
  exact Q4.ext' (by grind) (by grind) (by grind) (by grind)
 ·intro h
  subst h
  simp only [Q4.sub,Q4.add,Q4.neg,Q4.zero]
  exact Q4.ext' (by grind) (by grind) (by grind) (by grind)
def cosB : Nat→Q4
 | 0=>⟨1,0,0,0⟩
 | 1=>⟨0,1 / 4,0,1 / 4⟩
 | 2=>⟨0,0,1 / 2,0⟩
 | 3=>⟨0,1 / 2,0,0⟩
 | 4=>⟨1 / 2,0,0,0⟩
 | 5=>⟨0,-1 / 4,0,1 / 4⟩
 | _=>⟨0,0,0,0⟩
def cosM (m : Nat) : Q4:=if 6 < m then (cosB (12 - m)).neg else cosB m
def cosQ (n : Nat) : Q4:=if 12 < n then cosM (24 - n) else cosM n
def turnW (n : Nat) : W4:=⟨cosQ n,cosQ ((n+18) % 24)⟩
def plc (k : Int) : Nat:=(k % 24).toNat
theorem plc_lt (k : Int) : plc k < 24:=by unfold plc; omega
def sumP (k : Nat) : Nat→W4
 | 0=>W4.zero
 | j+1=>(sumP k j).add (turnW (j*k % 24))
def q4s (q : Rat) : Bool:=(4*q).den == 1 && decide ((4*q).num.natAbs≤1000)
def Q4.small (v : Q4) : Bool:=q4s v.a && q4s v.b && q4s v.c && q4s v.d
def W4.small (v : W4) : Bool:=v.re.small && v.im.small
theorem turn_mul : ∀ a,a < 24→∀ b,b < 24→(turnW a).mul (turnW b) = turnW ((a+b) % 24):=by decide +kernel
theorem turn_conj : ∀ a,a < 24→(turnW a).conj = turnW ((24 - a) % 24):=by decide +kernel
theorem turn_norm : ∀ a,a < 24→(turnW a).norm = Q4.real 1:=by decide +kernel
end Go.Proofs.YtlginncipdaifaaGreat

/- Quotients of Surds and of complex numbers. No program. -/
namespace Go.Proofs.YtlginncipdaifaaGreat
open Num Plain
def Q4.t1 (y : Q4) : Q4:=⟨y.a,-y.b,y.c,-y.d⟩
def Q4.t2 (y : Q4) : Q4:=⟨y.a,y.b,-y.c,-y.d⟩
def Q4.cnj (y : Q4) : Q4:=(y.t1.mul y.t2).mul y.t1.t2
def Q4.div (x y : Q4) : Q4:=⟨(x.mul y.cnj).a / (y.mul y.cnj).a,(x.mul y.cnj).b / (y.mul y.cnj).a,(x.mul y.cnj).c / (y.mul y.cnj).a,(x.mul y.cnj).d / (y.mul y.cnj).a⟩
theorem Q4.zero_iff (v : Q4) : decide (v = Q4.zero) = (decide (v.a = 0) && decide (v.b = 0) && decide (v.c = 0) && decide (v.d = 0)):=by
 rw [Bool.eq_iff_iff]
 simp only [Bool.and_eq_true,decide_eq_true_iff]
 constructor
 ·intro h; subst h; exact ⟨⟨⟨rfl,rfl⟩,rfl⟩,rfl⟩
 ·intro ⟨⟨⟨h1,h2⟩,h3⟩,h4⟩; exact Q4.ext' h1 h2 h3 h4
def W4.div (x y : W4) : W4:=⟨(x.mul y.conj).re.div y.norm,(x.mul y.conj).im.div y.norm⟩
theorem W4.same_iff (v w : W4) : decide (v = w) = (decide (v.re = w.re) && decide (v.im = w.im)):=by
 rw [Bool.eq_iff_iff]
 simp only [Bool.and_eq_true,decide_eq_true_iff]
 constructor
 ·intro h; subst h; exact ⟨rfl,rfl⟩
 ·intro ⟨h1,h2⟩; exact W4.ext' h1 h2
end Go.Proofs.YtlginncipdaifaaGreat

/- What is to be shown of the calls of some functions. (Printed by gen/vc.py.) -/
namespace Go.Proofs.YtlginncipdaifaaGreat
open Go.RowKit
open Value (agg slice int bool tuple)
open Sy (Up Sees CallsG Seg execFn_use)
set_option maxRecDepth 100000
variable {k : World} {R : World→Value→Prop}
theorem wAdd_vc {cs0 cs1 cs2 cs3 : Array Value} (hcs0 : Seg 9 cs0) (hcs1 : Seg 9 cs1) (hcs2 : Seg 9 cs2) (hcs3 : Seg 9 cs3)
 (h : Cl k 82 #[agg cs0,agg cs2] fun k1 r0=>Gt 9 r0 fun cs4 =>
 Cl k1 82 #[agg cs1,agg cs3] fun k3 r2=>Gt 9 r2 fun cs5 =>
 ∀ k4,Up k3 k4→R k4 (agg (cs4.toList ++ (cs5.toList ++ ([]))).toArray)) :
  CallsG Tryz.prog 63 #[agg (cs0.toList ++ (cs1.toList ++ ([]))).toArray,agg (cs2.toList ++ (cs3.toList ++ ([]))).toArray] k R :=
  execFn_use (cfg:={ opq:=[32] }) (args:=[.agg [.seg 0 9,.seg 1 9],.agg [.seg 2 9,.seg 3 9]]) (vals:=[agg cs0,agg cs1,agg cs2,agg cs3]) (kinds:=[.seg 9,.seg 9,.seg 9,.seg 9]) (by kernel_rfl) ⟨⟨cs0,rfl,hcs0⟩,⟨⟨cs1,rfl,hcs1⟩,⟨⟨cs2,rfl,hcs2⟩,⟨⟨cs3,rfl,hcs3⟩,trivial⟩⟩⟩⟩ (by kernel_rfl) (by kernel_rfl) h
theorem wMul_vc {cs0 cs1 cs2 cs3 : Array Value} (hcs0 : Seg 9 cs0) (hcs1 : Seg 9 cs1) (hcs2 : Seg 9 cs2) (hcs3 : Seg 9 cs3)
 (h : Cl k 68 #[agg cs0,agg cs2] fun k1 r0=>Gt 9 r0 fun cs4 =>
 Cl k1 68 #[agg cs1,agg cs3] fun k3 r2=>Gt 9 r2 fun cs5 =>
 Cl k3 69 #[agg cs4,agg cs5] fun k5 r4=>Gt 9 r4 fun cs6 =>
 Cl k5 68 #[agg cs0,agg cs3] fun k7 r6=>Gt 9 r6 fun cs7 =>
 Cl k7 68 #[agg cs1,agg cs2] fun k9 r8=>Gt 9 r8 fun cs8 =>
 Cl k9 82 #[agg cs7,agg cs8] fun k11 r10=>Gt 9 r10 fun cs9 =>
 ∀ k12,Up k11 k12→R k12 (agg (cs6.toList ++ (cs9.toList ++ ([]))).toArray)) :
  CallsG Tryz.prog 61 #[agg (cs0.toList ++ (cs1.toList ++ ([]))).toArray,agg (cs2.toList ++ (cs3.toList ++ ([]))).toArray] k R :=
  execFn_use (cfg:={ opq:=[32] }) (args:=[.agg [.seg 0 9,.seg 1 9],.agg [.seg 2 9,.seg 3 9]]) (vals:=[agg cs0,agg cs1,agg cs2,agg cs3]) (kinds:=[.seg 9,.seg 9,.seg 9,.seg 9]) (by kernel_rfl) ⟨⟨cs0,rfl,hcs0⟩,⟨⟨cs1,rfl,hcs1⟩,⟨⟨cs2,rfl,hcs2⟩,⟨⟨cs3,rfl,hcs3⟩,trivial⟩⟩⟩⟩ (by kernel_rfl) (by kernel_rfl) h
theorem wConj_vc {cs0 cs1 : Array Value} (hcs0 : Seg 9 cs0) (hcs1 : Seg 9 cs1)
 (h : Cl k 41 #[agg cs1] fun k1 r0=>Gt 9 r0 fun cs2 =>
 ∀ k2,Up k1 k2→R k2 (agg (cs0.toList ++ (cs2.toList ++ ([]))).toArray)) :
  CallsG Tryz.prog 44 #[agg (cs0.toList ++ (cs1.toList ++ ([]))).toArray] k R :=
  execFn_use (cfg:={ opq:=[32] }) (args:=[.agg [.seg 0 9,.seg 1 9]]) (vals:=[agg cs0,agg cs1]) (kinds:=[.seg 9,.seg 9]) (by kernel_rfl) ⟨⟨cs0,rfl,hcs0⟩,⟨⟨cs1,rfl,hcs1⟩,trivial⟩⟩ (by kernel_rfl) (by kernel_rfl) h
theorem wSame_vc {cs0 cs1 cs2 cs3 : Array Value} (hcs0 : Seg 9 cs0) (hcs1 : Seg 9 cs1) (hcs2 : Seg 9 cs2) (hcs3 : Seg 9 cs3)
 (h : Cl k 40 #[agg cs0,agg cs2] fun k1 r0=>∃ b4,some (bool b4) = some r0 ∧
 (b4 = true →
 (Cl k1 40 #[agg cs1,agg cs3] fun k3 r2=>∃ b5,some (bool b5) = some r2 ∧
 ∀ k4,Up k3 k4→R k4 (bool b5))) ∧
 (b4 = false →
 (∀ k5,Up k1 k5→R k5 (bool false)))) :
   CallsG Tryz.prog 43 #[agg (cs0.toList ++ (cs1.toList ++ ([]))).toArray,agg (cs2.toList ++ (cs3.toList ++ ([]))).toArray] k R :=
  execFn_use (cfg:={ opq:=[32] }) (args:=[.agg [.seg 0 9,.seg 1 9],.agg [.seg 2 9,.seg 3 9]]) (vals:=[agg cs0,agg cs1,agg cs2,agg cs3]) (kinds:=[.seg 9,.seg 9,.seg 9,.seg 9]) (by kernel_rfl) ⟨⟨cs0,rfl,hcs0⟩,⟨⟨cs1,rfl,hcs1⟩,⟨⟨cs2,rfl,hcs2⟩,⟨⟨cs3,rfl,hcs3⟩,trivial⟩⟩⟩⟩ (by kernel_rfl) (by kernel_rfl) h
theorem wNorm_vc {cs0 cs1 : Array Value} (hcs0 : Seg 9 cs0) (hcs1 : Seg 9 cs1)
 (h : Cl k 68 #[agg cs0,agg cs0] fun k1 r0=>Gt 9 r0 fun cs2 =>
 Cl k1 68 #[agg cs1,agg cs1] fun k3 r2=>Gt 9 r2 fun cs3 =>
 Cl k3 82 #[agg cs2,agg cs3] fun k5 r4=>Gt 9 r4 fun cs4 =>
 ∀ k6,Up k5 k6→R k6 (agg cs4)) :
  CallsG Tryz.prog 71 #[agg (cs0.toList ++ (cs1.toList ++ ([]))).toArray] k R :=
  execFn_use (cfg:={ opq:=[32] }) (args:=[.agg [.seg 0 9,.seg 1 9]]) (vals:=[agg cs0,agg cs1]) (kinds:=[.seg 9,.seg 9]) (by kernel_rfl) ⟨⟨cs0,rfl,hcs0⟩,⟨⟨cs1,rfl,hcs1⟩,trivial⟩⟩ (by kernel_rfl) (by kernel_rfl) h
theorem wRe_vc {cs0 cs1 : Array Value} (hcs0 : Seg 9 cs0) (hcs1 : Seg 9 cs1)
 (h : ∀ k0,Up k k0→R k0 (agg cs0)) :
 CallsG Tryz.prog 28 #[agg (cs0.toList ++ (cs1.toList ++ ([]))).toArray] k R :=
 execFn_use (cfg:={ opq:=[32] }) (args:=[.agg [.seg 0 9,.seg 1 9]]) (vals:=[agg cs0,agg cs1]) (kinds:=[.seg 9,.seg 9]) (by kernel_rfl) ⟨⟨cs0,rfl,hcs0⟩,⟨⟨cs1,rfl,hcs1⟩,trivial⟩⟩ (by kernel_rfl) (by kernel_rfl) h
theorem wIm_vc {cs0 cs1 : Array Value} (hcs0 : Seg 9 cs0) (hcs1 : Seg 9 cs1)
 (h : ∀ k0,Up k k0→R k0 (agg cs1)) :
 CallsG Tryz.prog 67 #[agg (cs0.toList ++ (cs1.toList ++ ([]))).toArray] k R :=
 execFn_use (cfg:={ opq:=[32] }) (args:=[.agg [.seg 0 9,.seg 1 9]]) (vals:=[agg cs0,agg cs1]) (kinds:=[.seg 9,.seg 9]) (by kernel_rfl) ⟨⟨cs0,rfl,hcs0⟩,⟨⟨cs1,rfl,hcs1⟩,trivial⟩⟩ (by kernel_rfl) (by kernel_rfl) h
theorem pair_vc {cs0 cs1 : Array Value} (hcs0 : Seg 9 cs0) (hcs1 : Seg 9 cs1)
 (h : ∀ k0,Up k k0→R k0 (agg (cs0.toList ++ (cs1.toList ++ ([]))).toArray)) :
 CallsG Tryz.prog 27 #[agg cs0,agg cs1] k R :=
 execFn_use (cfg:={ opq:=[32] }) (args:=[.agg [.seg 0 9],.agg [.seg 1 9]]) (vals:=[agg cs0,agg cs1]) (kinds:=[.seg 9,.seg 9]) (by kernel_rfl) ⟨⟨cs0,rfl,hcs0⟩,⟨⟨cs1,rfl,hcs1⟩,trivial⟩⟩ (by kernel_rfl) (by kernel_rfl) h
end Go.Proofs.YtlginncipdaifaaGreat

/- Waves of the program. (Printed by gen/waves.py.) -/
namespace Go.Proofs.YtlginncipdaifaaGreat
open Go.RowKit Num Plain
open Sy (Up Sees CallsG Seg)
def cat2 (c0 c1 : Array Value) : Array Value:=(c0.toList ++ (c1.toList ++ ([]))).toArray
theorem seg_cat2 {m n : Nat} {c0 c1 : Array Value} (h0 : Seg m c0) (h1 : Seg n c1) : Seg (m+n) (cat2 c0 c1):=by
 obtain ⟨a0,b0⟩:=h0
 obtain ⟨a1,b1⟩:=h1
 refine ⟨by simp [cat2,a0,a1],fun u hu=>?_⟩
 simp only [cat2,List.append_nil,List.mem_append] at hu
 rcases hu with hu | hu
 ·exact b0 u hu
 ·exact b1 u hu
def WaveV (k : World) (cs : Array Value) (w : W4) (K : Nat) : Prop:=∃ c0 c1 : Array Value,cs = cat2 c0 c1∧SurdV k c0 w.re K∧SurdV k c1 w.im K
section
variable {k k' : World} {cs cs' c0 c1 : Array Value} {R : World→Value→Prop} {v v' : Q4} {x y : W4} {K L : Nat}
theorem WaveV.up (h : WaveV k cs x K) (u : Up k k') : WaveV k' cs x K:=by
 obtain ⟨c0,c1,e,h0,h1⟩:=h
 exact ⟨c0,c1,e,h0.up u,h1.up u⟩
theorem WaveV.mono (h : WaveV k cs x K) (hL : K≤L) : WaveV k cs x L:=by
 obtain ⟨c0,c1,e,h0,h1⟩:=h
 exact ⟨c0,c1,e,h0.mono hL,h1.mono hL⟩
theorem WaveV.seg (h : WaveV k cs x K) : Seg 18 cs:=by
 obtain ⟨c0,c1,rfl,h0,h1⟩:=h
 exact seg_cat2 h0.seg h1.seg
theorem SSame_d (hx : SurdV k cs v K) (hy : SurdV k cs' v' K) (hK1 : 1≤K) (hK : K≤134217727) (C : ∀ k',Up k k'→R k' (.bool (decide (v = v')))) :
 Cl k 40 #[.agg cs,.agg cs'] R :=
 SSame_s hx hy hK1 hK fun k' u b hb=>by
  have e : b = decide (v = v'):=by rw [Bool.eq_iff_iff,hb,decide_eq_true_iff,Q4.sub_zero_iff]
  rw [e]; exact C k' u
theorem WAdd_s (hx : WaveV k cs x K) (hy : WaveV k cs' y K) (hK1 : 1≤K) (hK : K≤134217727) (C : ∀ k' ds,Up k k'→WaveV k' ds (x.add y) (2*K+1)→R k' (.agg ds)) :
 Cl k 63 #[.agg cs,.agg cs'] R:=by
 intro k0 u0
 obtain ⟨a,b,rfl,a0,b0⟩:=hx.up u0
 obtain ⟨c,d,rfl,c0,d0⟩:=hy.up u0
 refine wAdd_vc a0.seg b0.seg c0.seg d0.seg ?_
 refine SAdd_s a0 c0 hK1 (by omega) fun k1 e1 u1 h1=>⟨e1,h1.seg,rfl,?_⟩
 refine SAdd_s (b0.up u1) (d0.up u1) hK1 (by omega) fun k3 e3 u3 h3=>⟨e3,h3.seg,rfl,fun k4 u4=>?_⟩
 exact C k4 _ (((u0.trans u1).trans u3).trans u4) ⟨e1,e3,rfl,(h1.up u3).up u4,h3.up u4⟩
theorem WMul_s (hx : WaveV k cs x K) (hy : WaveV k cs' y K) (hK1 : 1≤K) (hK : K≤33554431) (C : ∀ k' ds,Up k k'→WaveV k' ds (x.mul y) (4*K+9)→R k' (.agg ds)) :
 Cl k 61 #[.agg cs,.agg cs'] R:=by
 intro k0 u0
 obtain ⟨a,b,rfl,a0,b0⟩:=hx.up u0
 obtain ⟨c,d,rfl,c0,d0⟩:=hy.up u0
 refine wMul_vc a0.seg b0.seg c0.seg d0.seg ?_
 refine SMul_s a0 c0 hK1 (by omega) fun k1 e1 u1 h1=>⟨e1,h1.seg,rfl,?_⟩
 refine SMul_s (b0.up u1) (d0.up u1) hK1 (by omega) fun k2 e2 u2 h2=>⟨e2,h2.seg,rfl,?_⟩
 refine SSub_s (h1.up u2) h2 (by omega) (by omega) fun k3 e3 u3 h3=>⟨e3,h3.seg,rfl,?_⟩
 have u123:=(u1.trans u2).trans u3
 refine SMul_s (a0.up u123) (d0.up u123) hK1 (by omega) fun k4 e4 u4 h4=>⟨e4,h4.seg,rfl,?_⟩
 refine SMul_s (b0.up (u123.trans u4)) (c0.up (u123.trans u4)) hK1 (by omega) fun k5 e5 u5 h5=>⟨e5,h5.seg,rfl,?_⟩
 refine SAdd_s (h4.up u5) h5 (by omega) (by omega) fun k6 e6 u6 h6=>⟨e6,h6.seg,rfl,fun k7 u7=>?_⟩
 exact C k7 _ (((((u0.trans u123).trans u4).trans u5).trans u6).trans u7) ⟨e3,e6,rfl,((((h3.up u4).up u5).up u6).up u7).mono (by omega),(h6.up u7).mono (by omega)⟩
theorem WConj_s (hx : WaveV k cs x K) (hK : K≤268435456) (C : ∀ k' ds,Up k k'→WaveV k' ds x.conj K→R k' (.agg ds)) :
 Cl k 44 #[.agg cs] R:=by
 intro k0 u0
 obtain ⟨a,b,rfl,a0,b0⟩:=hx.up u0
 refine wConj_vc a0.seg b0.seg ?_
 refine SNeg_s b0 hK fun k2 e2 u2 h2=>⟨e2,h2.seg,rfl,fun k4 u4=>?_⟩
 exact C k4 _ ((u0.trans u2).trans u4) ⟨a,e2,rfl,(a0.up u2).up u4,h2.up u4⟩
theorem WSame_s (hx : WaveV k cs x K) (hy : WaveV k cs' y K) (hK1 : 1≤K) (hK : K≤134217727) (C : ∀ k',Up k k'→R k' (.bool (decide (x = y)))) :
 Cl k 43 #[.agg cs,.agg cs'] R:=by
 intro k0 u0
 obtain ⟨a,b,rfl,a0,b0⟩:=hx.up u0
 obtain ⟨c,d,rfl,c0,d0⟩:=hy.up u0
 rw [W4.same_iff] at C
 refine wSame_vc a0.seg b0.seg c0.seg d0.seg (SSame_d a0 c0 hK1 hK fun k1 u1=>⟨_,rfl,fun h=>?_,fun h k5 u5=>?_⟩)
 ·rw [h] at C
  exact SSame_d (b0.up u1) (d0.up u1) hK1 hK fun k2 u2=>⟨_,rfl,fun k3 u3=>C k3 (((u0.trans u1).trans u2).trans u3)⟩
 ·rw [h] at C
  exact C k5 ((u0.trans u1).trans u5)
theorem WNorm_s (hx : WaveV k cs x K) (hK1 : 1≤K) (hK : K≤33554431) (C : ∀ k' ds,Up k k'→SurdV k' ds x.norm (4*K+9)→R k' (.agg ds)) :
 Cl k 71 #[.agg cs] R:=by
 intro k0 u0
 obtain ⟨a,b,rfl,a0,b0⟩:=hx.up u0
 refine wNorm_vc a0.seg b0.seg ?_
 refine SMul_s a0 a0 hK1 (by omega) fun k1 e1 u1 h1=>⟨e1,h1.seg,rfl,?_⟩
 refine SMul_s (b0.up u1) (b0.up u1) hK1 (by omega) fun k2 e2 u2 h2=>⟨e2,h2.seg,rfl,?_⟩
 refine SAdd_s (h1.up u2) h2 (by omega) (by omega) fun k3 e3 u3 h3=>⟨e3,h3.seg,rfl,fun k4 u4=>?_⟩
 exact C k4 _ ((((u0.trans u1).trans u2).trans u3).trans u4) ((h3.up u4).mono (by omega))
theorem WRe_s (hx : WaveV k cs x K) (C : ∀ k' ds,Up k k'→SurdV k' ds x.re K→R k' (.agg ds)) :
 Cl k 28 #[.agg cs] R:=by
 intro k0 u0
 obtain ⟨a,b,rfl,a0,b0⟩:=hx.up u0
 exact wRe_vc a0.seg b0.seg fun k1 u1=>C k1 _ (u0.trans u1) (a0.up u1)
theorem WIm_s (hx : WaveV k cs x K) (C : ∀ k' ds,Up k k'→SurdV k' ds x.im K→R k' (.agg ds)) :
 Cl k 67 #[.agg cs] R:=by
 intro k0 u0
 obtain ⟨a,b,rfl,a0,b0⟩:=hx.up u0
 exact wIm_vc a0.seg b0.seg fun k1 u1=>C k1 _ (u0.trans u1) (b0.up u1)
theorem pair_s (hx : SurdV k cs v K) (hy : SurdV k cs' v' K) (C : ∀ k' ds,Up k k'→WaveV k' ds ⟨v,v'⟩ K→R k' (.agg ds)) :
 Cl k 27 #[.agg cs,.agg cs'] R :=
 fun _ u0=>pair_vc hx.seg hy.seg fun k1 u1=>C k1 _ (u0.trans u1) ⟨cs,cs',rfl,(hx.up u0).up u1,(hy.up u0).up u1⟩
end
end Go.Proofs.YtlginncipdaifaaGreat

/- What is to be shown of the calls of some functions. (Printed by gen/vc.py.) -/
namespace Go.Proofs.YtlginncipdaifaaGreat
open Go.RowKit
open Value (agg slice int bool tuple)
open Sy (Up Sees CallsG Seg execFn_use)
set_option maxRecDepth 100000
variable {k : World} {R : World→Value→Prop}
theorem place_vc {n0 : Int}
 (h : ∀ k0,Up k k0→R k0 (int .i64 (Int.tmod (IntKind.wrap .i64 ((Int.tmod n0 24)+24)) 24))) :
 CallsG Tryz.prog 111 #[int .i64 n0] k R :=
 execFn_use (cfg:={ opq:=[] }) (args:=[.one (.var 0)]) (vals:=[int .i64 n0]) (kinds:=[.int .i64]) (by kernel_rfl) ⟨⟨_,rfl⟩,trivial⟩ (by kernel_rfl) (by kernel_rfl) h
theorem xTurn_vc {n0 : Int}
 (h : Cl k 111 #[int .i64 n0] fun k1 r0=>∃ n1,some (int .i64 n1) = some r0 ∧
 Cl k1 112 #[int .i64 n1] fun k3 r2=>Gt 9 r2 fun cs2 =>
 Cl k3 111 #[int .i64 (IntKind.wrap .i64 (n1 - 6))] fun k5 r4=>∃ n3,some (int .i64 n3) = some r4 ∧
 Cl k5 112 #[int .i64 n3] fun k7 r6=>Gt 9 r6 fun cs4 =>
 ∀ k8,Up k7 k8→R k8 (agg (cs2.toList ++ (cs4.toList ++ ([]))).toArray)) :
  CallsG Tryz.prog 62 #[int .i64 n0] k R :=
  execFn_use (cfg:={ opq:=[32] }) (args:=[.one (.var 0)]) (vals:=[int .i64 n0]) (kinds:=[.int .i64]) (by kernel_rfl) ⟨⟨_,rfl⟩,trivial⟩ (by kernel_rfl) (by kernel_rfl) h
theorem xcos_vc {n0 : Int}
 (h : ((decide ((n0 : Int) > 12)) = true →
 (((decide (((IntKind.wrap .i64 (24 - n0)) : Int) > 6)) = true →
 (Cl k 112 #[int .i64 (IntKind.wrap .i64 (12 - (IntKind.wrap .i64 (24 - n0))))] fun k1 r0=>Gt 9 r0 fun cs1 =>
 Cl k1 41 #[agg cs1] fun k3 r2=>Gt 9 r2 fun cs2 =>
 ∀ k4,Up k3 k4→R k4 (agg cs2))) ∧
 ((decide (((IntKind.wrap .i64 (24 - n0)) : Int) > 6)) = false →
 (((((IntKind.wrap .i64 (24 - n0)) : Int) == 0) = true →
 (Cl k 135 #[int .i64 1] fun k6 r5=>Gt 2 r5 fun cs1 =>
 ∀ k7,Up k6 k7→R k7 (agg (cs1.toList ++ ((bool false) :: ((slice none 0 0) :: ((bool false) :: ((slice none 0 0) :: ((bool false) :: ((slice none 0 0) :: ((slice none 0 0) :: ([]))))))))).toArray))) ∧
 ((((IntKind.wrap .i64 (24 - n0)) : Int) == 0) = false →
 (((((IntKind.wrap .i64 (24 - n0)) : Int) == 1) = true →
 (Cl k 144 #[int .i64 1,int .u64 4] fun k9 r8=>Gt 9 r8 fun cs1 =>
 Cl k9 144 #[int .i64 3,int .u64 4] fun k11 r10=>Gt 9 r10 fun cs2 =>
 Cl k11 82 #[agg cs1,agg cs2] fun k13 r12=>Gt 9 r12 fun cs3 =>
 ∀ k14,Up k13 k14→R k14 (agg cs3))) ∧
 ((((IntKind.wrap .i64 (24 - n0)) : Int) == 1) = false →
 (((((IntKind.wrap .i64 (24 - n0)) : Int) == 2) = true →
 (Cl k 144 #[int .i64 2,int .u64 2] fun k16 r15=>Gt 9 r15 fun cs1 =>
 ∀ k17,Up k16 k17→R k17 (agg cs1))) ∧
 ((((IntKind.wrap .i64 (24 - n0)) : Int) == 2) = false →
 (((((IntKind.wrap .i64 (24 - n0)) : Int) == 3) = true →
 (Cl k 144 #[int .i64 1,int .u64 2] fun k19 r18=>Gt 9 r18 fun cs1 =>
 ∀ k20,Up k19 k20→R k20 (agg cs1))) ∧
 ((((IntKind.wrap .i64 (24 - n0)) : Int) == 3) = false →
 (((((IntKind.wrap .i64 (24 - n0)) : Int) == 4) = true →
 (Cl k 144 #[int .i64 0,int .u64 2] fun k22 r21=>Gt 9 r21 fun cs1 =>
 ∀ k23,Up k22 k23→R k23 (agg cs1))) ∧
 ((((IntKind.wrap .i64 (24 - n0)) : Int) == 4) = false →
 (((((IntKind.wrap .i64 (24 - n0)) : Int) == 5) = true →
 (Cl k 144 #[int .i64 3,int .u64 4] fun k25 r24=>Gt 9 r24 fun cs1 =>
 Cl k25 144 #[int .i64 1,int .u64 4] fun k27 r26=>Gt 9 r26 fun cs2 =>
 Cl k27 69 #[agg cs1,agg cs2] fun k29 r28=>Gt 9 r28 fun cs3 =>
 ∀ k30,Up k29 k30→R k30 (agg cs3))) ∧
 ((((IntKind.wrap .i64 (24 - n0)) : Int) == 5) = false →
 (∀ k31,Up k k31→R k31 (agg #[bool false,slice none 0 0,bool false,slice none 0 0,bool false,slice none 0 0,bool false,slice none 0 0,slice none 0 0]))))))))))))))))) ∧
 ((decide ((n0 : Int) > 12)) = false →
 (((decide ((n0 : Int) > 6)) = true →
 (Cl k 112 #[int .i64 (IntKind.wrap .i64 (12 - n0))] fun k33 r32=>Gt 9 r32 fun cs1 =>
 Cl k33 41 #[agg cs1] fun k35 r34=>Gt 9 r34 fun cs2 =>
 ∀ k36,Up k35 k36→R k36 (agg cs2))) ∧
 ((decide ((n0 : Int) > 6)) = false →
 ((((n0 : Int) == 0) = true →
 (Cl k 135 #[int .i64 1] fun k38 r37=>Gt 2 r37 fun cs1 =>
 ∀ k39,Up k38 k39→R k39 (agg (cs1.toList ++ ((bool false) :: ((slice none 0 0) :: ((bool false) :: ((slice none 0 0) :: ((bool false) :: ((slice none 0 0) :: ((slice none 0 0) :: ([]))))))))).toArray))) ∧
 (((n0 : Int) == 0) = false →
 ((((n0 : Int) == 1) = true →
 (Cl k 144 #[int .i64 1,int .u64 4] fun k41 r40=>Gt 9 r40 fun cs1 =>
 Cl k41 144 #[int .i64 3,int .u64 4] fun k43 r42=>Gt 9 r42 fun cs2 =>
 Cl k43 82 #[agg cs1,agg cs2] fun k45 r44=>Gt 9 r44 fun cs3 =>
 ∀ k46,Up k45 k46→R k46 (agg cs3))) ∧
 (((n0 : Int) == 1) = false →
 ((((n0 : Int) == 2) = true →
 (Cl k 144 #[int .i64 2,int .u64 2] fun k48 r47=>Gt 9 r47 fun cs1 =>
 ∀ k49,Up k48 k49→R k49 (agg cs1))) ∧
 (((n0 : Int) == 2) = false →
 ((((n0 : Int) == 3) = true →
 (Cl k 144 #[int .i64 1,int .u64 2] fun k51 r50=>Gt 9 r50 fun cs1 =>
 ∀ k52,Up k51 k52→R k52 (agg cs1))) ∧
 (((n0 : Int) == 3) = false →
 ((((n0 : Int) == 4) = true →
 (Cl k 144 #[int .i64 0,int .u64 2] fun k54 r53=>Gt 9 r53 fun cs1 =>
 ∀ k55,Up k54 k55→R k55 (agg cs1))) ∧
 (((n0 : Int) == 4) = false →
 ((((n0 : Int) == 5) = true →
 (Cl k 144 #[int .i64 3,int .u64 4] fun k57 r56=>Gt 9 r56 fun cs1 =>
 Cl k57 144 #[int .i64 1,int .u64 4] fun k59 r58=>Gt 9 r58 fun cs2 =>
 Cl k59 69 #[agg cs1,agg cs2] fun k61 r60=>Gt 9 r60 fun cs3 =>
 ∀ k62,Up k61 k62→R k62 (agg cs3))) ∧
 (((n0 : Int) == 5) = false →
 (∀ k63,Up k k63→R k63 (agg #[bool false,slice none 0 0,bool false,slice none 0 0,bool false,slice none 0 0,bool false,slice none 0 0,slice none 0 0])))))))))))))))))) :
   CallsG Tryz.prog 112 #[int .i64 n0] k R :=
  execFn_use (cfg:={ opq:=[32,29] }) (args:=[.one (.var 0)]) (vals:=[int .i64 n0]) (kinds:=[.int .i64]) (by kernel_rfl) ⟨⟨_,rfl⟩,trivial⟩ (by kernel_rfl) (by kernel_rfl) h
theorem part14_vc
 (h : Cl k 135 #[int .i64 1] fun k1 r0=>Gt 2 r0 fun cs0 =>
 Cl k1 142 #[int .u64 4] fun k3 r2=>∃ A1 l1 c1,some (slice A1 l1 c1) = some r2 ∧
 ∀ k4,Up k3 k4→R k4 (agg ((bool false) :: ((slice none 0 0) :: (cs0.toList ++ ((bool false) :: ((slice none 0 0) :: ((bool false) :: ((slice none 0 0) :: ((slice A1 l1 c1) :: ([]))))))))).toArray)) :
  CallsG Tryz.prog 144 #[int .i64 1,int .u64 4] k R :=
  Sy.execFn_use_heap (cfg:={ opq:=[29] }) (args:=[.one (.lit (.int .i64 (1))),.one (.lit (.int .u64 (4)))]) (vals:=[]) (kinds:=[]) (blks:=[]) (heap:=[]) (by kernel_rfl) trivial (by kernel_rfl) trivial (by kernel_rfl) h
theorem part34_vc
 (h : Cl k 135 #[int .i64 1] fun k1 r0=>Gt 2 r0 fun cs0 =>
 Cl k1 142 #[int .u64 4] fun k3 r2=>∃ A1 l1 c1,some (slice A1 l1 c1) = some r2 ∧
 ∀ k4,Up k3 k4→R k4 (agg ((bool false) :: ((slice none 0 0) :: ((bool false) :: ((slice none 0 0) :: ((bool false) :: ((slice none 0 0) :: (cs0.toList ++ ((slice A1 l1 c1) :: ([]))))))))).toArray)) :
  CallsG Tryz.prog 144 #[int .i64 3,int .u64 4] k R :=
  Sy.execFn_use_heap (cfg:={ opq:=[29] }) (args:=[.one (.lit (.int .i64 (3))),.one (.lit (.int .u64 (4)))]) (vals:=[]) (kinds:=[]) (blks:=[]) (heap:=[]) (by kernel_rfl) trivial (by kernel_rfl) trivial (by kernel_rfl) h
theorem part22_vc
 (h : Cl k 135 #[int .i64 1] fun k1 r0=>Gt 2 r0 fun cs0 =>
 Cl k1 142 #[int .u64 2] fun k3 r2=>∃ A1 l1 c1,some (slice A1 l1 c1) = some r2 ∧
 ∀ k4,Up k3 k4→R k4 (agg ((bool false) :: ((slice none 0 0) :: ((bool false) :: ((slice none 0 0) :: (cs0.toList ++ ((bool false) :: ((slice none 0 0) :: ((slice A1 l1 c1) :: ([]))))))))).toArray)) :
  CallsG Tryz.prog 144 #[int .i64 2,int .u64 2] k R :=
  Sy.execFn_use_heap (cfg:={ opq:=[29] }) (args:=[.one (.lit (.int .i64 (2))),.one (.lit (.int .u64 (2)))]) (vals:=[]) (kinds:=[]) (blks:=[]) (heap:=[]) (by kernel_rfl) trivial (by kernel_rfl) trivial (by kernel_rfl) h
theorem part12_vc
 (h : Cl k 135 #[int .i64 1] fun k1 r0=>Gt 2 r0 fun cs0 =>
 Cl k1 142 #[int .u64 2] fun k3 r2=>∃ A1 l1 c1,some (slice A1 l1 c1) = some r2 ∧
 ∀ k4,Up k3 k4→R k4 (agg ((bool false) :: ((slice none 0 0) :: (cs0.toList ++ ((bool false) :: ((slice none 0 0) :: ((bool false) :: ((slice none 0 0) :: ((slice A1 l1 c1) :: ([]))))))))).toArray)) :
  CallsG Tryz.prog 144 #[int .i64 1,int .u64 2] k R :=
  Sy.execFn_use_heap (cfg:={ opq:=[29] }) (args:=[.one (.lit (.int .i64 (1))),.one (.lit (.int .u64 (2)))]) (vals:=[]) (kinds:=[]) (blks:=[]) (heap:=[]) (by kernel_rfl) trivial (by kernel_rfl) trivial (by kernel_rfl) h
theorem part02_vc
 (h : Cl k 135 #[int .i64 1] fun k1 r0=>Gt 2 r0 fun cs0 =>
 Cl k1 142 #[int .u64 2] fun k3 r2=>∃ A1 l1 c1,some (slice A1 l1 c1) = some r2 ∧
 ∀ k4,Up k3 k4→R k4 (agg (cs0.toList ++ ((bool false) :: ((slice none 0 0) :: ((bool false) :: ((slice none 0 0) :: ((bool false) :: ((slice none 0 0) :: ((slice A1 l1 c1) :: ([]))))))))).toArray)) :
  CallsG Tryz.prog 144 #[int .i64 0,int .u64 2] k R :=
  Sy.execFn_use_heap (cfg:={ opq:=[29] }) (args:=[.one (.lit (.int .i64 (0))),.one (.lit (.int .u64 (2)))]) (vals:=[]) (kinds:=[]) (blks:=[]) (heap:=[]) (by kernel_rfl) trivial (by kernel_rfl) trivial (by kernel_rfl) h
end Go.Proofs.YtlginncipdaifaaGreat

/- Turns of the program. (Printed by gen/turnz.py.) -/
namespace Go.Proofs.YtlginncipdaifaaGreat
open Go.RowKit Num
open Sy (Up Sees CallsG Seg)
section
variable {k k' : World} {cs cs' c0 c1 : Array Value} {R : World→Value→Prop} {v v' : Q4} {x y : W4} {K L : Nat}
theorem IntV.cut {z : Int} (h : IntV k cs z K) (hz : z.natAbs≤1000) : IntV k cs z 1:=by
 obtain ⟨b,A,n,c,e,h1,h2⟩:=h
 refine ⟨b,A,n,c,e,h1,?_⟩
 rw [h1.lim.len]
 exact nw_le_of (by unfold B64; omega)
theorem small_part {z : Int} {m : Nat} (hm : 0 < m) (h : q4s (mkRat z m) = true) : m ∣ 4*z.natAbs∧4*z.natAbs≤1000*m:=by
 unfold q4s at h
 rw [Bool.and_eq_true,beq_iff_eq,decide_eq_true_iff] at h
 have e : (4 : Rat)*mkRat z m = mkRat (z*(4 : Nat)) m:=by rw [mkRat_scale z 4 hm]; rfl
 rw [e,mkRat_dn _ hm,mkRat_abs _ hm] at h
 obtain ⟨h1,h2⟩:=h
 have hz : (z*((4 : Nat) : Int)).natAbs = 4*z.natAbs:=by rw [Int.natAbs_mul,Int.natAbs_natCast,Nat.mul_comm]
 rw [hz] at h1 h2
 generalize hg : Nat.gcd (4*z.natAbs) m = g at h1 h2
 have d1 : g ∣ m:=hg ▸ Nat.gcd_dvd_right _ _
 have d2 : g ∣ 4*z.natAbs:=hg ▸ Nat.gcd_dvd_left _ _
 have em : m = g:=by have:=Nat.div_mul_cancel d1; rw [h1,Nat.one_mul] at this; exact this.symm
 have hle:=Nat.mul_le_mul_right g h2
 rw [Nat.div_mul_cancel d2] at hle
 rw [em]
 exact ⟨d2,hle⟩
theorem SurdV.cut (h : SurdV k cs v K) (hs : v.small = true) : SurdV k cs v 1:=by
 obtain ⟨c0,c1,c2,c3,D,d,e,y0,y1,y2,y3,m,h1,hm,hg,rfl,i0,i1,i2,i3,l,hd⟩:=h
 unfold Q4.small mkQ at hs
 rw [Bool.and_eq_true,Bool.and_eq_true,Bool.and_eq_true] at hs
 obtain ⟨⟨⟨s0,s1⟩,s2⟩,s3⟩:=hs
 obtain ⟨d0,b0⟩:=small_part hm s0
 obtain ⟨d1,b1⟩:=small_part hm s1
 obtain ⟨d2,b2⟩:=small_part hm s2
 obtain ⟨d3,b3⟩:=small_part hm s3
 have hm4 : m ∣ 4:=by
  have dm : m ∣ 4*m:=Nat.dvd_mul_left m 4
  have:=Nat.dvd_gcd (Nat.dvd_gcd (Nat.dvd_gcd (Nat.dvd_gcd dm d0) d1) d2) d3
  rw [Nat.gcd_mul_left,Nat.gcd_mul_left,Nat.gcd_mul_left,Nat.gcd_mul_left] at this
  unfold gcd5 at hg
  rw [hg] at this
  exact this
 have hm4:=Nat.le_of_dvd (by decide) hm4
 refine ⟨c0,c1,c2,c3,D,d,e,y0,y1,y2,y3,m,h1,hm,hg,rfl,i0.cut (by omega),i1.cut (by omega),i2.cut (by omega),i3.cut (by omega),l,?_⟩
 rw [l.len]
 refine nw_le_of ?_
 unfold B64
 split <;> omega
theorem WaveV.nil : WaveV k #[.bool false,.slice none 0 0,.bool false,.slice none 0 0,.bool false,.slice none 0 0,.bool false,.slice none 0 0,.slice none 0 0,.bool false,.slice none 0 0,.bool false,.slice none 0 0,.bool false,.slice none 0 0,.bool false,.slice none 0 0,.slice none 0 0] W4.zero K :=
 ⟨#[.bool false,.slice none 0 0,.bool false,.slice none 0 0,.bool false,.slice none 0 0,.bool false,.slice none 0 0,.slice none 0 0],#[.bool false,.slice none 0 0,.bool false,.slice none 0 0,.bool false,.slice none 0 0,.bool false,.slice none 0 0,.slice none 0 0],rfl,SurdV.nil (Nat.zero_le _),SurdV.nil (Nat.zero_le _)⟩
theorem WSame_t (hx : WaveV k cs x K) (hy : WaveV k cs' y K) (e : x = y) (hK1 : 1≤K) (hK : K≤134217727) (C : ∀ k',Up k k'→R k' (.bool true)) :
 Cl k 43 #[.agg cs,.agg cs'] R :=
 WSame_s hx hy hK1 hK fun k' u=>by rw [decide_eq_true e]; exact C k' u
theorem SSame_t (hx : SurdV k cs v K) (hy : SurdV k cs' v' K) (e : v = v') (hK1 : 1≤K) (hK : K≤134217727) (C : ∀ k',Up k k'→R k' (.bool true)) :
 Cl k 40 #[.agg cs,.agg cs'] R :=
 SSame_d hx hy hK1 hK fun k' u=>by rw [decide_eq_true e]; exact C k' u
theorem part14_s (C : ∀ k' ds,Up k k'→SurdV k' ds ⟨0,1 / 4,0,0⟩ 1→R k' (.agg ds)) :
 Cl k 144 #[.int .i64 1,.int .u64 4] R:=by
 intro k0 u0
 refine part14_vc ?_
 refine of_s (by decide) (by decide) fun k1 d1 u1 i1=>⟨d1,i1.seg,rfl,?_⟩
 refine word_s (x:=4) (by decide) fun k2 A l c u2 l2 hl=>⟨A,l,c,rfl,fun k3 u3=>?_⟩
 exact C k3 _ (((u0.trans u1).trans u2).trans u3) ⟨#[.bool false,.slice none 0 0],d1,#[.bool false,.slice none 0 0],#[.bool false,.slice none 0 0],A,l,c,0,1,0,0,4,rfl,by decide,by decide,by decide +kernel,IntV.nil,(i1.up u2).up u3,IntV.nil,IntV.nil,(by rw [if_neg (by decide)]; exact l2.up u3),hl⟩
theorem part34_s (C : ∀ k' ds,Up k k'→SurdV k' ds ⟨0,0,0,1 / 4⟩ 1→R k' (.agg ds)) :
 Cl k 144 #[.int .i64 3,.int .u64 4] R:=by
 intro k0 u0
 refine part34_vc ?_
 refine of_s (by decide) (by decide) fun k1 d1 u1 i1=>⟨d1,i1.seg,rfl,?_⟩
 refine word_s (x:=4) (by decide) fun k2 A l c u2 l2 hl=>⟨A,l,c,rfl,fun k3 u3=>?_⟩
 exact C k3 _ (((u0.trans u1).trans u2).trans u3) ⟨#[.bool false,.slice none 0 0],#[.bool false,.slice none 0 0],#[.bool false,.slice none 0 0],d1,A,l,c,0,0,0,1,4,rfl,by decide,by decide,by decide +kernel,IntV.nil,IntV.nil,IntV.nil,(i1.up u2).up u3,(by rw [if_neg (by decide)]; exact l2.up u3),hl⟩
theorem part22_s (C : ∀ k' ds,Up k k'→SurdV k' ds ⟨0,0,1 / 2,0⟩ 1→R k' (.agg ds)) :
 Cl k 144 #[.int .i64 2,.int .u64 2] R:=by
 intro k0 u0
 refine part22_vc ?_
 refine of_s (by decide) (by decide) fun k1 d1 u1 i1=>⟨d1,i1.seg,rfl,?_⟩
 refine word_s (x:=2) (by decide) fun k2 A l c u2 l2 hl=>⟨A,l,c,rfl,fun k3 u3=>?_⟩
 exact C k3 _ (((u0.trans u1).trans u2).trans u3) ⟨#[.bool false,.slice none 0 0],#[.bool false,.slice none 0 0],d1,#[.bool false,.slice none 0 0],A,l,c,0,0,1,0,2,rfl,by decide,by decide,by decide +kernel,IntV.nil,IntV.nil,(i1.up u2).up u3,IntV.nil,(by rw [if_neg (by decide)]; exact l2.up u3),hl⟩
theorem part12_s (C : ∀ k' ds,Up k k'→SurdV k' ds ⟨0,1 / 2,0,0⟩ 1→R k' (.agg ds)) :
 Cl k 144 #[.int .i64 1,.int .u64 2] R:=by
 intro k0 u0
 refine part12_vc ?_
 refine of_s (by decide) (by decide) fun k1 d1 u1 i1=>⟨d1,i1.seg,rfl,?_⟩
 refine word_s (x:=2) (by decide) fun k2 A l c u2 l2 hl=>⟨A,l,c,rfl,fun k3 u3=>?_⟩
 exact C k3 _ (((u0.trans u1).trans u2).trans u3) ⟨#[.bool false,.slice none 0 0],d1,#[.bool false,.slice none 0 0],#[.bool false,.slice none 0 0],A,l,c,0,1,0,0,2,rfl,by decide,by decide,by decide +kernel,IntV.nil,(i1.up u2).up u3,IntV.nil,IntV.nil,(by rw [if_neg (by decide)]; exact l2.up u3),hl⟩
theorem part02_s (C : ∀ k' ds,Up k k'→SurdV k' ds ⟨1 / 2,0,0,0⟩ 1→R k' (.agg ds)) :
 Cl k 144 #[.int .i64 0,.int .u64 2] R:=by
 intro k0 u0
 refine part02_vc ?_
 refine of_s (by decide) (by decide) fun k1 d1 u1 i1=>⟨d1,i1.seg,rfl,?_⟩
 refine word_s (x:=2) (by decide) fun k2 A l c u2 l2 hl=>⟨A,l,c,rfl,fun k3 u3=>?_⟩
 exact C k3 _ (((u0.trans u1).trans u2).trans u3) ⟨d1,#[.bool false,.slice none 0 0],#[.bool false,.slice none 0 0],#[.bool false,.slice none 0 0],A,l,c,1,0,0,0,2,rfl,by decide,by decide,by decide +kernel,(i1.up u2).up u3,IntV.nil,IntV.nil,IntV.nil,(by rw [if_neg (by decide)]; exact l2.up u3),hl⟩
theorem cast4 (h : SurdV k cs v K) (e : v = v') : SurdV k cs v' K:=e ▸ h
theorem xcos0_s (C : ∀ k' ds,Up k k'→SurdV k' ds (cosQ 0) 1→R k' (.agg ds)) :
 Cl k 112 #[.int .i64 0] R:=by
 intro k0 u0
 refine xcos_vc ⟨fun h=>absurd h (by decide +kernel),fun _=>⟨fun h=>absurd h (by decide +kernel),fun _=>⟨fun _=>?_,fun h=>absurd h (by decide +kernel)⟩⟩⟩
 refine of_s (by decide) (by decide) fun k1 d1 u1 i1=>⟨d1,i1.seg,rfl,fun k2 u2=>?_⟩
 exact C k2 _ ((u0.trans u1).trans u2) ⟨d1,#[.bool false,.slice none 0 0],#[.bool false,.slice none 0 0],#[.bool false,.slice none 0 0],none,0,0,1,0,0,0,1,rfl,by decide,by decide,by decide +kernel,i1.up u2,IntV.nil,IntV.nil,IntV.nil,(by rw [if_pos rfl]; exact LimR.nil),Nat.zero_le _⟩
theorem xcos1_s (C : ∀ k' ds,Up k k'→SurdV k' ds (cosQ 1) 1→R k' (.agg ds)) :
 Cl k 112 #[.int .i64 1] R:=by
 intro k0 u0
 refine xcos_vc ⟨fun h=>absurd h (by decide +kernel),fun _=>⟨fun h=>absurd h (by decide +kernel),fun _=>⟨fun h=>absurd h (by decide +kernel),fun _=>⟨fun _=>?_,fun h=>absurd h (by decide +kernel)⟩⟩⟩⟩
 refine part14_s fun k1 d1 u1 h1=>⟨d1,h1.seg,rfl,?_⟩
 refine part34_s fun k2 d2 u2 h2=>⟨d2,h2.seg,rfl,?_⟩
 refine SAdd_s (h1.up u2) h2 (by decide) (by decide) fun k3 d3 u3 h3=>⟨d3,h3.seg,rfl,fun k4 u4=>?_⟩
 refine C k4 d3 ((((u0.trans u1).trans u2).trans u3).trans u4) (SurdV.cut (K:=2*1+1) (cast4 (h3.up u4) (by decide +kernel)) (by decide +kernel))
theorem xcos2_s (C : ∀ k' ds,Up k k'→SurdV k' ds (cosQ 2) 1→R k' (.agg ds)) :
 Cl k 112 #[.int .i64 2] R:=by
 intro k0 u0
 refine xcos_vc ⟨fun h=>absurd h (by decide +kernel),fun _=>⟨fun h=>absurd h (by decide +kernel),fun _=>⟨fun h=>absurd h (by decide +kernel),fun _=>⟨fun h=>absurd h (by decide +kernel),fun _=>⟨fun _=>?_,fun h=>absurd h (by decide +kernel)⟩⟩⟩⟩⟩
 exact part22_s fun k1 d1 u1 h1=>⟨d1,h1.seg,rfl,fun k2 u2=>C k2 d1 ((u0.trans u1).trans u2) (h1.up u2)⟩
theorem xcos3_s (C : ∀ k' ds,Up k k'→SurdV k' ds (cosQ 3) 1→R k' (.agg ds)) :
 Cl k 112 #[.int .i64 3] R:=by
 intro k0 u0
 refine xcos_vc ⟨fun h=>absurd h (by decide +kernel),fun _=>⟨fun h=>absurd h (by decide +kernel),fun _=>⟨fun h=>absurd h (by decide +kernel),fun _=>⟨fun h=>absurd h (by decide +kernel),fun _=>⟨fun h=>absurd h (by decide +kernel),fun _=>⟨fun _=>?_,fun h=>absurd h (by decide +kernel)⟩⟩⟩⟩⟩⟩
 exact part12_s fun k1 d1 u1 h1=>⟨d1,h1.seg,rfl,fun k2 u2=>C k2 d1 ((u0.trans u1).trans u2) (h1.up u2)⟩
theorem xcos4_s (C : ∀ k' ds,Up k k'→SurdV k' ds (cosQ 4) 1→R k' (.agg ds)) :
 Cl k 112 #[.int .i64 4] R:=by
 intro k0 u0
 refine xcos_vc ⟨fun h=>absurd h (by decide +kernel),fun _=>⟨fun h=>absurd h (by decide +kernel),fun _=>⟨fun h=>absurd h (by decide +kernel),fun _=>⟨fun h=>absurd h (by decide +kernel),fun _=>⟨fun h=>absurd h (by decide +kernel),fun _=>⟨fun h=>absurd h (by decide +kernel),fun _=>⟨fun _=>?_,fun h=>absurd h (by decide +kernel)⟩⟩⟩⟩⟩⟩⟩
 exact part02_s fun k1 d1 u1 h1=>⟨d1,h1.seg,rfl,fun k2 u2=>C k2 d1 ((u0.trans u1).trans u2) (h1.up u2)⟩
theorem xcos5_s (C : ∀ k' ds,Up k k'→SurdV k' ds (cosQ 5) 1→R k' (.agg ds)) :
 Cl k 112 #[.int .i64 5] R:=by
 intro k0 u0
 refine xcos_vc ⟨fun h=>absurd h (by decide +kernel),fun _=>⟨fun h=>absurd h (by decide +kernel),fun _=>⟨fun h=>absurd h (by decide +kernel),fun _=>⟨fun h=>absurd h (by decide +kernel),fun _=>⟨fun h=>absurd h (by decide +kernel),fun _=>⟨fun h=>absurd h (by decide +kernel),fun _=>⟨fun h=>absurd h (by decide +kernel),fun _=>⟨fun _=>?_,fun h=>absurd h (by decide +kernel)⟩⟩⟩⟩⟩⟩⟩⟩
 refine part34_s fun k1 d1 u1 h1=>⟨d1,h1.seg,rfl,?_⟩
 refine part14_s fun k2 d2 u2 h2=>⟨d2,h2.seg,rfl,?_⟩
 refine SSub_s (h1.up u2) h2 (by decide) (by decide) fun k3 d3 u3 h3=>⟨d3,h3.seg,rfl,fun k4 u4=>?_⟩
 refine C k4 d3 ((((u0.trans u1).trans u2).trans u3).trans u4) (SurdV.cut (K:=2*1+1) (cast4 (h3.up u4) (by decide +kernel)) (by decide +kernel))
theorem xcos6_s (C : ∀ k' ds,Up k k'→SurdV k' ds (cosQ 6) 1→R k' (.agg ds)) :
 Cl k 112 #[.int .i64 6] R:=by
 intro k0 u0
 refine xcos_vc ⟨fun h=>absurd h (by decide +kernel),fun _=>⟨fun h=>absurd h (by decide +kernel),fun _=>⟨fun h=>absurd h (by decide +kernel),fun _=>⟨fun h=>absurd h (by decide +kernel),fun _=>⟨fun h=>absurd h (by decide +kernel),fun _=>⟨fun h=>absurd h (by decide +kernel),fun _=>⟨fun h=>absurd h (by decide +kernel),fun _=>⟨fun h=>absurd h (by decide +kernel),fun _=>?_⟩⟩⟩⟩⟩⟩⟩⟩
 intro k1 u1
 exact C k1 _ (u0.trans u1) (SurdV.nil (Nat.zero_le _))
theorem xcos7_s (C : ∀ k' ds,Up k k'→SurdV k' ds (cosQ 7) 1→R k' (.agg ds)) :
 Cl k 112 #[.int .i64 7] R:=by
 intro k0 u0
 refine xcos_vc ⟨fun h=>absurd h (by decide +kernel),fun _=>⟨fun _=>?_,fun h=>absurd h (by decide +kernel)⟩⟩
 rw [show IntKind.wrap .i64 (12 - 7) = (5 : Int) from by decide +kernel]
 refine xcos5_s fun k1 d1 u1 h1=>⟨d1,h1.seg,rfl,?_⟩
 refine SNeg_s h1 (by decide) fun k3 d3 u3 h3=>⟨d3,h3.seg,rfl,fun k4 u4=>?_⟩
 exact C k4 d3 (((u0.trans u1).trans u3).trans u4) (h3.up u4)
theorem xcos8_s (C : ∀ k' ds,Up k k'→SurdV k' ds (cosQ 8) 1→R k' (.agg ds)) :
 Cl k 112 #[.int .i64 8] R:=by
 intro k0 u0
 refine xcos_vc ⟨fun h=>absurd h (by decide +kernel),fun _=>⟨fun _=>?_,fun h=>absurd h (by decide +kernel)⟩⟩
 rw [show IntKind.wrap .i64 (12 - 8) = (4 : Int) from by decide +kernel]
 refine xcos4_s fun k1 d1 u1 h1=>⟨d1,h1.seg,rfl,?_⟩
 refine SNeg_s h1 (by decide) fun k3 d3 u3 h3=>⟨d3,h3.seg,rfl,fun k4 u4=>?_⟩
 exact C k4 d3 (((u0.trans u1).trans u3).trans u4) (h3.up u4)
theorem xcos9_s (C : ∀ k' ds,Up k k'→SurdV k' ds (cosQ 9) 1→R k' (.agg ds)) :
 Cl k 112 #[.int .i64 9] R:=by
 intro k0 u0
 refine xcos_vc ⟨fun h=>absurd h (by decide +kernel),fun _=>⟨fun _=>?_,fun h=>absurd h (by decide +kernel)⟩⟩
 rw [show IntKind.wrap .i64 (12 - 9) = (3 : Int) from by decide +kernel]
 refine xcos3_s fun k1 d1 u1 h1=>⟨d1,h1.seg,rfl,?_⟩
 refine SNeg_s h1 (by decide) fun k3 d3 u3 h3=>⟨d3,h3.seg,rfl,fun k4 u4=>?_⟩
 exact C k4 d3 (((u0.trans u1).trans u3).trans u4) (h3.up u4)
theorem xcos10_s (C : ∀ k' ds,Up k k'→SurdV k' ds (cosQ 10) 1→R k' (.agg ds)) :
 Cl k 112 #[.int .i64 10] R:=by
 intro k0 u0
 refine xcos_vc ⟨fun h=>absurd h (by decide +kernel),fun _=>⟨fun _=>?_,fun h=>absurd h (by decide +kernel)⟩⟩
 rw [show IntKind.wrap .i64 (12 - 10) = (2 : Int) from by decide +kernel]
 refine xcos2_s fun k1 d1 u1 h1=>⟨d1,h1.seg,rfl,?_⟩
 refine SNeg_s h1 (by decide) fun k3 d3 u3 h3=>⟨d3,h3.seg,rfl,fun k4 u4=>?_⟩
 exact C k4 d3 (((u0.trans u1).trans u3).trans u4) (h3.up u4)
theorem xcos11_s (C : ∀ k' ds,Up k k'→SurdV k' ds (cosQ 11) 1→R k' (.agg ds)) :
 Cl k 112 #[.int .i64 11] R:=by
 intro k0 u0
 refine xcos_vc ⟨fun h=>absurd h (by decide +kernel),fun _=>⟨fun _=>?_,fun h=>absurd h (by decide +kernel)⟩⟩
 rw [show IntKind.wrap .i64 (12 - 11) = (1 : Int) from by decide +kernel]
 refine xcos1_s fun k1 d1 u1 h1=>⟨d1,h1.seg,rfl,?_⟩
 refine SNeg_s h1 (by decide) fun k3 d3 u3 h3=>⟨d3,h3.seg,rfl,fun k4 u4=>?_⟩
 exact C k4 d3 (((u0.trans u1).trans u3).trans u4) (h3.up u4)
theorem xcos12_s (C : ∀ k' ds,Up k k'→SurdV k' ds (cosQ 12) 1→R k' (.agg ds)) :
 Cl k 112 #[.int .i64 12] R:=by
 intro k0 u0
 refine xcos_vc ⟨fun h=>absurd h (by decide +kernel),fun _=>⟨fun _=>?_,fun h=>absurd h (by decide +kernel)⟩⟩
 rw [show IntKind.wrap .i64 (12 - 12) = (0 : Int) from by decide +kernel]
 refine xcos0_s fun k1 d1 u1 h1=>⟨d1,h1.seg,rfl,?_⟩
 refine SNeg_s h1 (by decide) fun k3 d3 u3 h3=>⟨d3,h3.seg,rfl,fun k4 u4=>?_⟩
 exact C k4 d3 (((u0.trans u1).trans u3).trans u4) (h3.up u4)
theorem xcos13_s (C : ∀ k' ds,Up k k'→SurdV k' ds (cosQ 13) 1→R k' (.agg ds)) :
 Cl k 112 #[.int .i64 13] R:=by
 intro k0 u0
 refine xcos_vc ⟨fun _=>⟨fun _=>?_,fun h=>absurd h (by decide +kernel)⟩,fun h=>absurd h (by decide +kernel)⟩
 rw [show IntKind.wrap .i64 (12 - (IntKind.wrap .i64 (24 - 13))) = (1 : Int) from by decide +kernel]
 refine xcos1_s fun k1 d1 u1 h1=>⟨d1,h1.seg,rfl,?_⟩
 refine SNeg_s h1 (by decide) fun k3 d3 u3 h3=>⟨d3,h3.seg,rfl,fun k4 u4=>?_⟩
 exact C k4 d3 (((u0.trans u1).trans u3).trans u4) (h3.up u4)
theorem xcos14_s (C : ∀ k' ds,Up k k'→SurdV k' ds (cosQ 14) 1→R k' (.agg ds)) :
 Cl k 112 #[.int .i64 14] R:=by
 intro k0 u0
 refine xcos_vc ⟨fun _=>⟨fun _=>?_,fun h=>absurd h (by decide +kernel)⟩,fun h=>absurd h (by decide +kernel)⟩
 rw [show IntKind.wrap .i64 (12 - (IntKind.wrap .i64 (24 - 14))) = (2 : Int) from by decide +kernel]
 refine xcos2_s fun k1 d1 u1 h1=>⟨d1,h1.seg,rfl,?_⟩
 refine SNeg_s h1 (by decide) fun k3 d3 u3 h3=>⟨d3,h3.seg,rfl,fun k4 u4=>?_⟩
 exact C k4 d3 (((u0.trans u1).trans u3).trans u4) (h3.up u4)
theorem xcos15_s (C : ∀ k' ds,Up k k'→SurdV k' ds (cosQ 15) 1→R k' (.agg ds)) :
 Cl k 112 #[.int .i64 15] R:=by
 intro k0 u0
 refine xcos_vc ⟨fun _=>⟨fun _=>?_,fun h=>absurd h (by decide +kernel)⟩,fun h=>absurd h (by decide +kernel)⟩
 rw [show IntKind.wrap .i64 (12 - (IntKind.wrap .i64 (24 - 15))) = (3 : Int) from by decide +kernel]
 refine xcos3_s fun k1 d1 u1 h1=>⟨d1,h1.seg,rfl,?_⟩
 refine SNeg_s h1 (by decide) fun k3 d3 u3 h3=>⟨d3,h3.seg,rfl,fun k4 u4=>?_⟩
 exact C k4 d3 (((u0.trans u1).trans u3).trans u4) (h3.up u4)
theorem xcos16_s (C : ∀ k' ds,Up k k'→SurdV k' ds (cosQ 16) 1→R k' (.agg ds)) :
 Cl k 112 #[.int .i64 16] R:=by
 intro k0 u0
 refine xcos_vc ⟨fun _=>⟨fun _=>?_,fun h=>absurd h (by decide +kernel)⟩,fun h=>absurd h (by decide +kernel)⟩
 rw [show IntKind.wrap .i64 (12 - (IntKind.wrap .i64 (24 - 16))) = (4 : Int) from by decide +kernel]
 refine xcos4_s fun k1 d1 u1 h1=>⟨d1,h1.seg,rfl,?_⟩
 refine SNeg_s h1 (by decide) fun k3 d3 u3 h3=>⟨d3,h3.seg,rfl,fun k4 u4=>?_⟩
 exact C k4 d3 (((u0.trans u1).trans u3).trans u4) (h3.up u4)
theorem xcos17_s (C : ∀ k' ds,Up k k'→SurdV k' ds (cosQ 17) 1→R k' (.agg ds)) :
 Cl k 112 #[.int .i64 17] R:=by
 intro k0 u0
 refine xcos_vc ⟨fun _=>⟨fun _=>?_,fun h=>absurd h (by decide +kernel)⟩,fun h=>absurd h (by decide +kernel)⟩
 rw [show IntKind.wrap .i64 (12 - (IntKind.wrap .i64 (24 - 17))) = (5 : Int) from by decide +kernel]
 refine xcos5_s fun k1 d1 u1 h1=>⟨d1,h1.seg,rfl,?_⟩
 refine SNeg_s h1 (by decide) fun k3 d3 u3 h3=>⟨d3,h3.seg,rfl,fun k4 u4=>?_⟩
 exact C k4 d3 (((u0.trans u1).trans u3).trans u4) (h3.up u4)
theorem xcos18_s (C : ∀ k' ds,Up k k'→SurdV k' ds (cosQ 18) 1→R k' (.agg ds)) :
 Cl k 112 #[.int .i64 18] R:=by
 intro k0 u0
 refine xcos_vc ⟨fun _=>⟨fun h=>absurd h (by decide +kernel),fun _=>⟨fun h=>absurd h (by decide +kernel),fun _=>⟨fun h=>absurd h (by decide +kernel),fun _=>⟨fun h=>absurd h (by decide +kernel),fun _=>⟨fun h=>absurd h (by decide +kernel),fun _=>⟨fun h=>absurd h (by decide +kernel),fun _=>⟨fun h=>absurd h (by decide +kernel),fun _=>?_⟩⟩⟩⟩⟩⟩⟩,fun h=>absurd h (by decide +kernel)⟩
 intro k1 u1
 exact C k1 _ (u0.trans u1) (SurdV.nil (Nat.zero_le _))
theorem xcos19_s (C : ∀ k' ds,Up k k'→SurdV k' ds (cosQ 19) 1→R k' (.agg ds)) :
 Cl k 112 #[.int .i64 19] R:=by
 intro k0 u0
 refine xcos_vc ⟨fun _=>⟨fun h=>absurd h (by decide +kernel),fun _=>⟨fun h=>absurd h (by decide +kernel),fun _=>⟨fun h=>absurd h (by decide +kernel),fun _=>⟨fun h=>absurd h (by decide +kernel),fun _=>⟨fun h=>absurd h (by decide +kernel),fun _=>⟨fun h=>absurd h (by decide +kernel),fun _=>⟨fun _=>?_,fun h=>absurd h (by decide +kernel)⟩⟩⟩⟩⟩⟩⟩,fun h=>absurd h (by decide +kernel)⟩
 refine part34_s fun k1 d1 u1 h1=>⟨d1,h1.seg,rfl,?_⟩
 refine part14_s fun k2 d2 u2 h2=>⟨d2,h2.seg,rfl,?_⟩
 refine SSub_s (h1.up u2) h2 (by decide) (by decide) fun k3 d3 u3 h3=>⟨d3,h3.seg,rfl,fun k4 u4=>?_⟩
 refine C k4 d3 ((((u0.trans u1).trans u2).trans u3).trans u4) (SurdV.cut (K:=2*1+1) (cast4 (h3.up u4) (by decide +kernel)) (by decide +kernel))
theorem xcos20_s (C : ∀ k' ds,Up k k'→SurdV k' ds (cosQ 20) 1→R k' (.agg ds)) :
 Cl k 112 #[.int .i64 20] R:=by
 intro k0 u0
 refine xcos_vc ⟨fun _=>⟨fun h=>absurd h (by decide +kernel),fun _=>⟨fun h=>absurd h (by decide +kernel),fun _=>⟨fun h=>absurd h (by decide +kernel),fun _=>⟨fun h=>absurd h (by decide +kernel),fun _=>⟨fun h=>absurd h (by decide +kernel),fun _=>⟨fun _=>?_,fun h=>absurd h (by decide +kernel)⟩⟩⟩⟩⟩⟩,fun h=>absurd h (by decide +kernel)⟩
 exact part02_s fun k1 d1 u1 h1=>⟨d1,h1.seg,rfl,fun k2 u2=>C k2 d1 ((u0.trans u1).trans u2) (h1.up u2)⟩
theorem xcos21_s (C : ∀ k' ds,Up k k'→SurdV k' ds (cosQ 21) 1→R k' (.agg ds)) :
 Cl k 112 #[.int .i64 21] R:=by
 intro k0 u0
 refine xcos_vc ⟨fun _=>⟨fun h=>absurd h (by decide +kernel),fun _=>⟨fun h=>absurd h (by decide +kernel),fun _=>⟨fun h=>absurd h (by decide +kernel),fun _=>⟨fun h=>absurd h (by decide +kernel),fun _=>⟨fun _=>?_,fun h=>absurd h (by decide +kernel)⟩⟩⟩⟩⟩,fun h=>absurd h (by decide +kernel)⟩
 exact part12_s fun k1 d1 u1 h1=>⟨d1,h1.seg,rfl,fun k2 u2=>C k2 d1 ((u0.trans u1).trans u2) (h1.up u2)⟩
theorem xcos22_s (C : ∀ k' ds,Up k k'→SurdV k' ds (cosQ 22) 1→R k' (.agg ds)) :
 Cl k 112 #[.int .i64 22] R:=by
 intro k0 u0
 refine xcos_vc ⟨fun _=>⟨fun h=>absurd h (by decide +kernel),fun _=>⟨fun h=>absurd h (by decide +kernel),fun _=>⟨fun h=>absurd h (by decide +kernel),fun _=>⟨fun _=>?_,fun h=>absurd h (by decide +kernel)⟩⟩⟩⟩,fun h=>absurd h (by decide +kernel)⟩
 exact part22_s fun k1 d1 u1 h1=>⟨d1,h1.seg,rfl,fun k2 u2=>C k2 d1 ((u0.trans u1).trans u2) (h1.up u2)⟩
theorem xcos23_s (C : ∀ k' ds,Up k k'→SurdV k' ds (cosQ 23) 1→R k' (.agg ds)) :
 Cl k 112 #[.int .i64 23] R:=by
 intro k0 u0
 refine xcos_vc ⟨fun _=>⟨fun h=>absurd h (by decide +kernel),fun _=>⟨fun h=>absurd h (by decide +kernel),fun _=>⟨fun _=>?_,fun h=>absurd h (by decide +kernel)⟩⟩⟩,fun h=>absurd h (by decide +kernel)⟩
 refine part14_s fun k1 d1 u1 h1=>⟨d1,h1.seg,rfl,?_⟩
 refine part34_s fun k2 d2 u2 h2=>⟨d2,h2.seg,rfl,?_⟩
 refine SAdd_s (h1.up u2) h2 (by decide) (by decide) fun k3 d3 u3 h3=>⟨d3,h3.seg,rfl,fun k4 u4=>?_⟩
 refine C k4 d3 ((((u0.trans u1).trans u2).trans u3).trans u4) (SurdV.cut (K:=2*1+1) (cast4 (h3.up u4) (by decide +kernel)) (by decide +kernel))
theorem xcos_s {n : Nat} (hn : n < 24) (C : ∀ k' ds,Up k k'→SurdV k' ds (cosQ n) 1→R k' (.agg ds)) :
 Cl k 112 #[.int .i64 (n : Int)] R:=by
 match n,hn with
 | 0,_=>exact xcos0_s C
 | 1,_=>exact xcos1_s C
 | 2,_=>exact xcos2_s C
 | 3,_=>exact xcos3_s C
 | 4,_=>exact xcos4_s C
 | 5,_=>exact xcos5_s C
 | 6,_=>exact xcos6_s C
 | 7,_=>exact xcos7_s C
 | 8,_=>exact xcos8_s C
 | 9,_=>exact xcos9_s C
 | 10,_=>exact xcos10_s C
 | 11,_=>exact xcos11_s C
 | 12,_=>exact xcos12_s C
 | 13,_=>exact xcos13_s C
 | 14,_=>exact xcos14_s C
 | 15,_=>exact xcos15_s C
 | 16,_=>exact xcos16_s C
 | 17,_=>exact xcos17_s C
 | 18,_=>exact xcos18_s C
 | 19,_=>exact xcos19_s C
 | 20,_=>exact xcos20_s C
 | 21,_=>exact xcos21_s C
 | 22,_=>exact xcos22_s C
 | 23,_=>exact xcos23_s C
 | n+24,h=>exact absurd h (by omega)
theorem plc_eq {n : Int} : Int.tmod (IntKind.wrap .i64 ((Int.tmod n 24)+24)) 24 = (plc n : Int):=by
 have h : Int.tmod n 24 = n % 24∨Int.tmod n 24 = n % 24 - 24:=by
  rw [Int.tmod_eq_emod]
  split
  ·left; omega
  ·right; rfl
 have hw : IntKind.wrap .i64 ((Int.tmod n 24)+24) = Int.tmod n 24+24:=by rw [IntKind.wrap_i64]; omega
 rw [hw,Int.tmod_eq_emod_of_nonneg (by omega)]
 unfold plc
 omega
theorem place_s {n : Int} (C : ∀ k',Up k k'→R k' (.int .i64 (plc n : Int))) :
 Cl k 111 #[.int .i64 n] R:=by
 intro k0 u0
 refine place_vc fun k1 u1=>?_
 rw [plc_eq]
 exact C k1 (u0.trans u1)
theorem plc_back {m : Nat} (h : m < 24) : plc (IntKind.wrap .i64 ((m : Int) - 6)) = (m+18) % 24:=by
 have hw : IntKind.wrap .i64 ((m : Int) - 6) = (m : Int) - 6:=by rw [IntKind.wrap_i64]; omega
 rw [hw]
 unfold plc
 omega
theorem xturn_s {n : Int} (C : ∀ k' ds,Up k k'→WaveV k' ds (turnW (plc n)) 1→R k' (.agg ds)) :
 Cl k 62 #[.int .i64 n] R:=by
 intro k0 u0
 have hl:=plc_lt n
 refine xTurn_vc (place_s fun k1 u1=>⟨_,rfl,?_⟩)
 refine xcos_s hl fun k2 d2 u2 h2=>⟨d2,h2.seg,rfl,?_⟩
 have e:=plc_back hl
 refine place_s fun k3 u3=>⟨_,rfl,?_⟩
 rw [e]
 refine xcos_s (Nat.mod_lt _ (by decide)) fun k4 d4 u4 h4=>⟨d4,h4.seg,rfl,fun k5 u5=>?_⟩
 exact C k5 _ (((((u0.trans u1).trans u2).trans u3).trans u4).trans u5) ⟨d2,d4,rfl,((h2.up u3).up u4).up u5,h4.up u5⟩
end
end Go.Proofs.YtlginncipdaifaaGreat

/- What is to be shown of the calls of some functions. (Printed by gen/vc.py.) -/
namespace Go.Proofs.YtlginncipdaifaaGreat
open Go.RowKit
open Value (agg slice int bool tuple)
open Sy (Up Sees CallsG Seg execFn_use)
set_option maxRecDepth 100000
variable {k : World} {R : World→Value→Prop}
theorem sOfQuad_vc {n0 n1 n2 n3 n4 n5 n6 n7 : Int}
 (h : Cl k 110 #[agg #[int .i64 n0,int .i64 n1]] fun k1 r0=>Gt 3 r0 fun cs8 =>
 Cl k1 110 #[agg #[int .i64 n2,int .i64 n3]] fun k3 r2=>Gt 3 r2 fun cs9 =>
 Cl k3 110 #[agg #[int .i64 n4,int .i64 n5]] fun k5 r4=>Gt 3 r4 fun cs10 =>
 Cl k5 110 #[agg #[int .i64 n6,int .i64 n7]] fun k7 r6=>Gt 3 r6 fun cs11 =>
 ∀ k8,Up k7 k8→R k8 (agg (cs8.toList ++ (cs9.toList ++ (cs10.toList ++ (cs11.toList ++ ([]))))).toArray)) :
  CallsG Tryz.prog 56 #[agg #[int .i64 n0,int .i64 n1,int .i64 n2,int .i64 n3,int .i64 n4,int .i64 n5,int .i64 n6,int .i64 n7]] k R :=
  execFn_use (cfg:={ opq:=[37] }) (args:=[.agg [.var 0,.var 1,.var 2,.var 3,.var 4,.var 5,.var 6,.var 7]]) (vals:=[int .i64 n0,int .i64 n1,int .i64 n2,int .i64 n3,int .i64 n4,int .i64 n5,int .i64 n6,int .i64 n7]) (kinds:=[.int .i64,.int .i64,.int .i64,.int .i64,.int .i64,.int .i64,.int .i64,.int .i64]) (by kernel_rfl) ⟨⟨_,rfl⟩,⟨⟨_,rfl⟩,⟨⟨_,rfl⟩,⟨⟨_,rfl⟩,⟨⟨_,rfl⟩,⟨⟨_,rfl⟩,⟨⟨_,rfl⟩,⟨⟨_,rfl⟩,trivial⟩⟩⟩⟩⟩⟩⟩⟩ (by kernel_rfl) (by kernel_rfl) h
end Go.Proofs.YtlginncipdaifaaGreat

/- The reference's Surds: sums, products, quotients. (Printed by gen/refs.py.) -/
namespace Go.Proofs.YtlginncipdaifaaGreat.W32
open Go.RowKit Num
open Sy (Up Sees CallsG Seg)
def cat4 (c0 c1 c2 c3 : Array Value) : Array Value:=(c0.toList ++ (c1.toList ++ (c2.toList ++ (c3.toList ++ ([]))))).toArray
def SQ (k : World) (cs : Array Value) (v : Q4) (K : Nat) : Prop:=∃ c0 c1 c2 c3 : Array Value,cs = cat4 c0 c1 c2 c3∧QV k c0 v.a K∧QV k c1 v.b K∧QV k c2 v.c K∧QV k c3 v.d K
section
variable {k k' : World} {cs cs' c0 c1 c2 c3 : Array Value} {R : World→Value→Prop} {x y q q' : Rat} {v v' : Q4} {K L : Nat}
theorem SQ.up (h : SQ k cs v K) (u : Up k k') : SQ k' cs v K:=by
 obtain ⟨c0,c1,c2,c3,e,h0,h1,h2,h3⟩:=h
 exact ⟨c0,c1,c2,c3,e,h0.up u,h1.up u,h2.up u,h3.up u⟩
theorem seg_cat4 (h0 : Seg 3 c0) (h1 : Seg 3 c1) (h2 : Seg 3 c2) (h3 : Seg 3 c3) : Seg 12 (cat4 c0 c1 c2 c3):=by
 obtain ⟨a0,b0⟩:=h0
 obtain ⟨a1,b1⟩:=h1
 obtain ⟨a2,b2⟩:=h2
 obtain ⟨a3,b3⟩:=h3
 refine ⟨by simp [cat4,a0,a1,a2,a3],fun u hu=>?_⟩
 simp only [cat4,List.append_nil,List.mem_append] at hu
 rcases hu with hu | hu | hu | hu
 ·exact b0 u hu
 ·exact b1 u hu
 ·exact b2 u hu
 ·exact b3 u hu
theorem SQ.seg (h : SQ k cs v K) : Seg 12 cs:=by
 obtain ⟨c0,c1,c2,c3,rfl,h0,h1,h2,h3⟩:=h
 exact seg_cat4 h0.seg h1.seg h2.seg h3.seg
end
end Go.Proofs.YtlginncipdaifaaGreat.W32

/- The reference's Surds: zero, quotients, plain data. (Printed by gen/refs2.py.) -/
namespace Go.Proofs.YtlginncipdaifaaGreat.W32
open Go.RowKit Num
open Sy (Up Sees CallsG Seg)
section
variable {k k' : World} {cs cs' c0 c1 c2 c3 : Array Value} {R : World→Value→Prop} {x y q q' : Rat} {v v' : Q4} {K L : Nat}
theorem squad_v {n0 n1 n2 n3 n4 n5 n6 n7 : Int} (h0 : In64 n0) (h1 : In64 n1) (h2 : In64 n2) (h3 : In64 n3) (h4 : In64 n4) (h5 : In64 n5) (h6 : In64 n6) (h7 : In64 n7) (C : ∀ k' ds,Up k k'→SQ k' ds ⟨ofQ n0 n1,ofQ n2 n3,ofQ n4 n5,ofQ n6 n7⟩ 2→R k' (.agg ds)) :
 Cl k 56 #[.agg #[.int .i64 n0,.int .i64 n1,.int .i64 n2,.int .i64 n3,.int .i64 n4,.int .i64 n5,.int .i64 n6,.int .i64 n7]] R:=by
 intro k0 u0
 refine sOfQuad_vc (of_v h0 h1 fun k1 d1 u1 q1=>⟨d1,q1.seg,rfl,?_⟩)
 refine of_v h2 h3 fun k3 d3 u3 q3=>⟨d3,q3.seg,rfl,?_⟩
 refine of_v h4 h5 fun k5 d5 u5 q5=>⟨d5,q5.seg,rfl,?_⟩
 refine of_v h6 h7 fun k7 d7 u7 q7=>⟨d7,q7.seg,rfl,fun k8 u8=>?_⟩
 exact C k8 _ (((((u0.trans u1).trans u3).trans u5).trans u7).trans u8) ⟨d1,d3,d5,d7,rfl,(((q1.up u3).up u5).up u7).up u8,((q3.up u5).up u7).up u8,(q5.up u7).up u8,q7.up u8⟩
end
end Go.Proofs.YtlginncipdaifaaGreat.W32

/- Waves of the reference. (Printed by gen/waves.py.) -/
namespace Go.Proofs.YtlginncipdaifaaGreat.W32
open Go.RowKit Num
open Sy (Up Sees CallsG Seg)
def WQ (k : World) (cs : Array Value) (w : W4) (K : Nat) : Prop:=∃ c0 c1 : Array Value,cs = cat2 c0 c1∧SQ k c0 w.re K∧SQ k c1 w.im K
section
variable {k k' : World} {cs cs' c0 c1 : Array Value} {R : World→Value→Prop} {v v' : Q4} {x y : W4} {q : Rat} {K L : Nat}
end
end Go.Proofs.YtlginncipdaifaaGreat.W32

/- Turns of the reference. (Printed by gen/turnz.py.) -/
namespace Go.Proofs.YtlginncipdaifaaGreat.W32
open Go.RowKit Num
open Sy (Up Sees CallsG Seg)
section
variable {k k' : World} {cs cs' c0 c1 : Array Value} {R : World→Value→Prop} {v v' : Q4} {x y : W4} {K L : Nat}
end
end Go.Proofs.YtlginncipdaifaaGreat.W32

/- What is to be shown of the calls of some functions. (Printed by gen/vc.py.) -/
namespace Go.Proofs.YtlginncipdaifaaGreat
open Go.RowKit
open Value (agg slice int bool tuple)
open Sy (Up Sees CallsG Seg execFn_use)
set_option maxRecDepth 100000
variable {k : World} {R : World→Value→Prop}
theorem Of_vc {n0 n1 : Int}
 (h : (((n1 : Int) == 0) = true →
 (Cl k 91 #[int .i64 n0] fun k1 r0=>Gt 3 r0 fun cs2 =>
 ∀ k2,Up k1 k2→R k2 (agg cs2))) ∧
 (((n1 : Int) == 0) = false →
 (Cl k 88 #[int .i64 n0,int .i64 n1] fun k4 r3=>∃ cs2,Seg 3 cs2∧∃ n3,some (tuple #[agg cs2,int .i64 n3]) = some r3 ∧
 ∀ k5,Up k4 k5→R k5 (agg cs2)))) :
  CallsG Tryz.prog 109 #[agg #[int .i64 n0,int .i64 n1]] k R :=
  execFn_use (cfg:={ opq:=[157] }) (args:=[.agg [.var 0,.var 1]]) (vals:=[int .i64 n0,int .i64 n1]) (kinds:=[.int .i64,.int .i64]) (by kernel_rfl) ⟨⟨_,rfl⟩,⟨⟨_,rfl⟩,trivial⟩⟩ (by kernel_rfl) (by kernel_rfl) h
end Go.Proofs.YtlginncipdaifaaGreat

/- Laws of layer 1: a fraction is the reference's; plain data. -/
namespace Go.Proofs.YtlginncipdaifaaGreat
open Go.RowKit Num W32
open Sy (Up Sees CallsG)
section
variable {k k' : World} {R : World→Value→Prop} {x y q : Rat} {K L : Nat} {cs cs' : Array Value} {g : Bool} {A A' : Option Addr} {l c l' c' : Nat}
theorem Of_s {n d : Int} (hn : In64 n) (hd : In64 d) (C : ∀ k' ds,Up k k'→RatV k' ds (ofQ n d) 1→R k' (.agg ds)) : Cl k 109 #[.agg #[.int .i64 n,.int .i64 d]] R:=by
 intro k0 u0
 refine Of_vc ⟨fun hb=>?_,fun hb=>?_⟩
 ·have e : d = 0:=eq_of_beq hb
  refine QInt_s hn.1 hn.2 ?_
  intro k1 c1 u1 h1
  refine ⟨c1,h1.seg,rfl,?_⟩
  intro k2 u2
  refine C k2 c1 (u0.trans (u1.trans u2)) ?_
  unfold ofQ
  rw [if_pos e]
  exact h1.up u2
 ·have e : ¬ d = 0:=by simpa using hb
  refine QNew_s hn.1 hn.2 hd.1 hd.2 ?_
  intro k1 c1 u1 h1
  refine ⟨c1,h1.seg,_,rfl,?_⟩
  intro k2 u2
  refine C k2 c1 (u0.trans (u1.trans u2)) ?_
  unfold ofQ
  rw [if_neg e]
  exact h1.up u2
end
end Go.Proofs.YtlginncipdaifaaGreat

/- What is to be shown of the calls of some functions. (Printed by gen/vc.py.) -/
namespace Go.Proofs.YtlginncipdaifaaGreat
open Go.RowKit
open Value (agg slice int bool tuple)
open Sy (Up Sees CallsG Seg execFn_use)
set_option maxRecDepth 100000
variable {k : World} {R : World→Value→Prop}
end Go.Proofs.YtlginncipdaifaaGreat

/- The reference's Surds: their texts. (Printed by gen/refs2.py.) -/
namespace Go.Proofs.YtlginncipdaifaaGreat.W32
open Go.RowKit Num
open Sy (Up Sees CallsG Seg)
section
variable {k k' : World} {cs cs' c0 c1 c2 c3 : Array Value} {R : World→Value→Prop} {x y q q' : Rat} {v v' : Q4} {K L : Nat}
end
end Go.Proofs.YtlginncipdaifaaGreat.W32

/- What is to be shown of the calls of some functions. (Printed by gen/vc.py.) -/
namespace Go.Proofs.YtlginncipdaifaaGreat
open Go.RowKit
open Value (agg slice int bool tuple)
open Sy (Up Sees CallsG Seg execFn_use)
set_option maxRecDepth 100000
variable {k : World} {R : World→Value→Prop}
theorem OfQuad_vc {n0 n1 n2 n3 n4 n5 n6 n7 : Int}
 (h : Cl k 109 #[agg #[int .i64 n0,int .i64 n1]] fun k1 r0=>Gt 3 r0 fun cs8 =>
 Cl k1 109 #[agg #[int .i64 n2,int .i64 n3]] fun k3 r2=>Gt 3 r2 fun cs9 =>
 Cl k3 109 #[agg #[int .i64 n4,int .i64 n5]] fun k5 r4=>Gt 3 r4 fun cs10 =>
 Cl k5 109 #[agg #[int .i64 n6,int .i64 n7]] fun k7 r6=>Gt 3 r6 fun cs11 =>
 Cl k7 108 #[agg (cs8.toList ++ (cs9.toList ++ (cs10.toList ++ (cs11.toList ++ ([]))))).toArray] fun k9 r8=>Gt 9 r8 fun cs12 =>
 ∀ k10,Up k9 k10→R k10 (agg cs12)) :
  CallsG Tryz.prog 54 #[agg #[int .i64 n0,int .i64 n1,int .i64 n2,int .i64 n3,int .i64 n4,int .i64 n5,int .i64 n6,int .i64 n7]] k R :=
  execFn_use (cfg:={ opq:=[157,32] }) (args:=[.agg [.var 0,.var 1,.var 2,.var 3,.var 4,.var 5,.var 6,.var 7]]) (vals:=[int .i64 n0,int .i64 n1,int .i64 n2,int .i64 n3,int .i64 n4,int .i64 n5,int .i64 n6,int .i64 n7]) (kinds:=[.int .i64,.int .i64,.int .i64,.int .i64,.int .i64,.int .i64,.int .i64,.int .i64]) (by kernel_rfl) ⟨⟨_,rfl⟩,⟨⟨_,rfl⟩,⟨⟨_,rfl⟩,⟨⟨_,rfl⟩,⟨⟨_,rfl⟩,⟨⟨_,rfl⟩,⟨⟨_,rfl⟩,⟨⟨_,rfl⟩,trivial⟩⟩⟩⟩⟩⟩⟩⟩ (by kernel_rfl) (by kernel_rfl) h
end Go.Proofs.YtlginncipdaifaaGreat

/- What ExactWaves computes. (Printed by gen/lawz.py.) -/
namespace Go.Proofs.YtlginncipdaifaaGreat
open Go.RowKit Num Plain W32
open Sy (Up Sees CallsG Seg)
section
variable {k k' : World} {R : World→Value→Prop} {x q : Rat} {K L : Nat} {cs cs' : Array Value} {v : Q4} {w : W4}
theorem OfQuad_s {n0 n1 n2 n3 n4 n5 n6 n7 : Int} (h0 : In64 n0) (h1 : In64 n1) (h2 : In64 n2) (h3 : In64 n3) (h4 : In64 n4) (h5 : In64 n5) (h6 : In64 n6) (h7 : In64 n7) (C : ∀ k' ds,Up k k'→SurdV k' ds ⟨ofQ n0 n1,ofQ n2 n3,ofQ n4 n5,ofQ n6 n7⟩ 6→R k' (.agg ds)) :
 Cl k 54 #[.agg #[.int .i64 n0,.int .i64 n1,.int .i64 n2,.int .i64 n3,.int .i64 n4,.int .i64 n5,.int .i64 n6,.int .i64 n7]] R:=by
 intro k0 u0
 replace C:=fun k' ds u=>C k' ds (u0.trans u)
 refine OfQuad_vc ?_
 refine Of_s h0 h1 ?_
 intro k1 c1 u1 q1
 refine ⟨c1,q1.seg,rfl,?_⟩
 refine Of_s h2 h3 ?_
 intro k2 c2 u2 q2
 refine ⟨c2,q2.seg,rfl,?_⟩
 refine Of_s h4 h5 ?_
 intro k3 c3 u3 q3
 refine ⟨c3,q3.seg,rfl,?_⟩
 refine Of_s h6 h7 ?_
 intro k4 c4 u4 q4
 refine ⟨c4,q4.seg,rfl,?_⟩
 refine Make_s (((q1.up u2).up u3).up u4) ((q2.up u3).up u4) (q3.up u4) q4 (by omega) (by omega) ?_
 intro k5 c5 u5 h5
 refine ⟨c5,h5.seg,rfl,?_⟩
 intro k6 u6
 exact C k6 c5 (((((u1.trans u2).trans u3).trans u4).trans u5).trans u6) (h5.up u6)
end
end Go.Proofs.YtlginncipdaifaaGreat

